/- boot: the document's answers: what is good, what isn't. -/
import Derived.Test.YtnjnooeldkideaaGreatDoorMRfW
import Derived.Test.YtnjnooeldkideaaGreatDoorOrB
import Derived.OwnWalk
namespace Go.Proofs.YtnjnooeldkideaaGreatDoor
set_option maxRecDepth 100000
set_option maxHeartbeats 8000000
set_option linter.unusedVariables false
set_option linter.unusedSimpArgs false
open Go.RowKit Go.Lib Go.Deep
section
variable {W w:World} {J:Nat→Option Obj} {t:Tb} {F:List (Nat × Obj)}
theorem u4 (ok:t.Ok) (i:Int) (h:St W w J F):Calls Tryz.prog 46 #[t.val,.int .i64 i] w (CPost W J F (goodT t i)):=by
 have h1:=h.alloc (.cells t.cells 29);obtain⟨g,hg⟩:∃g,w.heap.size=g:=⟨_,rfl⟩;rw[hg]at h1
 have kR:=fun(v:World) (X:List (Nat × Obj)) (hv:St W v J X)=>jm t ok hv
 have fx:=fun(v:World) (X:List (Nat × Obj)) (hv:St W v J X) (hx:(g,Obj.cells t.cells 29 (0,0))∈X)=>hv.tb ok hx
 have ti:=z7 ok
 have cp:∀l x,goodT t i=(l,x)→∀v A c L,Row 147 40 (.slice A l.length c) l.length (cgs l) L→St W v J (L++F)→CPost W J F (goodT t i) (.returned (.tuple #[.slice A l.length c,.int .i64 x])) v:=fun l x h v A c L hr hv=>by rw[h];exact⟨A,c,L,rfl,hr,hv⟩
 have cp0:∀x,goodT t i=([],x)→∀v,St W v J F→CPost W J F (goodT t i) (.returned (.tuple #[.slice none 0 0,.int .i64 x])) v:=fun x h v hv=>cp [] x h v none 0 [] (Row.nil _ _) hv
 unfold Tb.val at *;obtain⟨C,hC⟩:∃C,t.cells=C:=⟨_,rfl⟩
 have FALL:Hid (∀v X,St W v J X→(g,Obj.cells C 29 (0,0))∈X→v.rangeAt g 0 C.toList∧TbAt v g t):=za fun v X hv hx=>by
  rw[←hC]at hx;have q:=fx v X hv hx;rw[←hC];exact⟨q.all,q⟩
 rw[hC]at h1 kR ti ⊢;obtain⟨V,hV⟩:∃y,zx t=y:=⟨_,rfl⟩;rw[hV]at kR;have HV:=za hV;have H1:=za h1;have KR:=za kR;have TI:=za ti;have CP:=za cp;have CP0:=za cp0;have OK:=za ok;clear h1 kR fx ti cp cp0 hC hV h ok
 have no:¬(zx t=true∧ixB i=true∧i=t.boo)→goodT t i=([],101):=fun h=>by unfold goodT;rw[if_neg h]
 have NO:=za no;clear no;have QA:=za (FALL.out _ _ H1.out (List.mem_cons_self ..)).1
 go_enter Tryz.func46,Tryz.ntmps46
 go_wp2_with (with_reducible refine zb 9 rfl (by kernel_rfl) 29 (.tmp 2) rfl g 0 rfl C _ QA.out Tryz.underlying29 rfl TI.out ?_)
 refine(KR.out _ _ H1.out).mono ?_;rintro e w2 ⟨rfl,h2⟩;have cb:=(FALL.out _ _ h2 (List.mem_cons_self ..)).2.boo;obtain⟨bo,hbo⟩:∃y,t.boo=y:=⟨_,rfl⟩;rw[hbo]at cb;have HBO:=za hbo;have H2:=za h2;clear h2 H1 QA hbo
 cases V with
 | false=>
  have HE:=za (CP0.out _ (NO.out fun h=>by rw[HV.out]at h;cases h.1) _ (H2.out.weaken (A:=[_])));go_wp2_with fail
  go_ret2
  exact HE.out
 | true=>
  by_cases hi:i < 0
  ·have HE:=za (CP0.out _ (NO.out fun h=>by have:=h.2.1;simp[ixB]at this;omega) _ (H2.out.weaken (A:=[_])))
   have bi:decide (i < 0)=true:=by simpa using hi
   clear hi;go_wp2_with fail
   go_ret2
   exact HE.out
  ·have bi:decide (i < 0)=false:=by simpa using hi
   by_cases hb:i=bo
   ·have hx : bo = 0 ∨ bo = 1 := by
     have hr:=HV.out;unfold zx at hr;simp only[Bool.and_eq_true,Bool.or_eq_true,ixB,beq_iff_eq,HBO.out]at hr;have:=hr.2.2.2.1
     omega
    subst hb;clear hi
    rcases hx with rfl|rfl
    ·have sok:=OK.out.s0
     have kg:=fun(v:World) (X:List (Nat × Obj)) (hv:St W v J X)=>ref_good t.s0 sok hv
     have gok:(goodS t.s0).1.Ok:=zas sok;have si:=yg sok;have gi:=yg gok;have go1:=(goodS t.s0).1.one;have gsz:=Slt.size gok.dig;unfold SPost at kg;obtain⟨gs,hgs⟩:∃y,(goodS t.s0).1=y:=⟨_,rfl⟩;obtain⟨er,her⟩:∃y,(goodS t.s0).2=y:=⟨_,rfl⟩;have HGS:=za hgs;have HER:=za her;rw[hgs,her]at kg;rw[hgs]at gok gi go1 gsz;clear hgs her
     have q2:∀(v:World) (X:List (Nat × Obj)) (b:Nat),St W v J X→(b,Obj.cells gs.cells 26 (0,0))∈X→v.rangeAt b 0 gs.cells.toList∧v.cell? ⟨b,2,none⟩=some (.int .u64 gs.ver):=fun v X b hv hm=>⟨fun j u hj=>by rw[Nat.zero_add,hv.cell hm j];simpa using hj,(hv.cell hm 2).trans (Slt.at2 gs)⟩
     have bs:=yx 0 gs gok;have c1ok:(setC 0 gs).tos.Ok:=gok;have b1:=yy (setC 0 gs) c1ok
     have row1:=fun(b:Nat)=>jb (g:=b) c1ok
     unfold Slt.val at kg;have r5:=(FALL.out _ _ H2.out (List.mem_cons_self ..)).2.s0;obtain⟨SC,hSC⟩:∃y,t.s0.cells=y:=⟨_,rfl⟩;rw[hSC]at kg si r5;obtain⟨GC,hGC⟩:∃y,gs.cells=y:=⟨_,rfl⟩;rw[hGC]at kg gi go1 gsz q2 bs;obtain⟨C1,hC1⟩:∃y,(setC 0 gs).cells=y:=⟨_,rfl⟩;rw[hC1]at bs b1 row1
     have gfit:0+GC.size≤zbj.size:=by rw[gsz];decide
     have gmany:zg zbj 0 GC.toList=GC:=by rw[zd _ _ (by rw[Array.length_toList,gsz];rfl),Array.toArray_toList]
     have KG:=za kg;have SI:=za si;have GI:=za gi;have GO:=za go1;have GF:=za gfit;have GM:=za gmany;have Q2:=za q2;have BS:=za bs;have B1:=za b1;have ROW1:=za row1;have R5:=za r5;have GOK:=za gok;have gv0:=gok.ver0;have gv1:=gok.ver1;clear kg si gi go1 gfit gmany q2 bs b1 row1 r5 gsz sok c1ok gok hSC hGC hC1
     go_wp2_with (with_reducible refine zb 26 rfl (by kernel_rfl) 26 (.tmp 25) rfl g 0 rfl SC _ R5.out Tryz.underlying26 rfl SI.out ?_)
     refine(KG.out _ _ H2.out).mono ?_;rintro e w3 ⟨rfl,h3⟩;have H3:=za h3;have H3A:=za (h3.alloc (.cells zbj 26));clear h3 H2 R5 KG
     go_wp2_with (with_reducible refine zc rfl 26 (.tmp 6) (.tmp 28) rfl (g:=w3.heap.size) (off:=0) GC rfl rfl H3A.out GF.out GI.out GO.out ?_;intro w4 h4;refine Hid.out ?_)
     refine za ?_;rw[GM.out]at h4;obtain⟨g6,hg6⟩:∃y,w3.heap.size=y:=⟨_,rfl⟩;rw[hg6]at h4 ⊢;have H4:=za h4;clear h4 H3 H3A hg6
     by_cases he:er=0
     ·have be:(er != 0)=false:=by simpa using he
      have HE:=za he;clear he;obtain⟨r6,c6⟩:=Q2.out _ _ g6 H4.out (List.mem_cons_self ..);have R6:=za r6;clear r6 c6
      go_wp2_with (first|(with_reducible refine zb 34 rfl (by kernel_rfl) 26 (.tmp 6) rfl g6 0 rfl GC _ R6.out Tryz.underlying26 rfl GI.out ?_)|(with_reducible refine zh rfl 147 _ rfl _ ?_ (BS.out _) ?_;·go_simp)|(refine zw rfl 94 1 _ rfl _ (by kernel_rfl) B1.out H4.out ?_;intro b1 w5 h5;refine Hid.out ?_))
      refine za ?_;have c6:=(Q2.out _ _ g6 h5 (by simp)).2;have cf:=(FALL.out _ _ h5 (by simp)).2.flo;obtain⟨fl,hfl⟩:∃y,t.flo=y:=⟨_,rfl⟩;have HFL:=za hfl;rw[hfl]at cf;have H5:=za h5;clear h5 hfl H4 R6
      by_cases hf:fl < gs.ver
      ·have bf:decide (gs.ver > fl)=true:=by simpa using hf
       have HR:=za (show goodT t 0=([setC 0 gs,floC gs.ver],0) by
        unfold goodT
        rw[if_pos ⟨HV.out,rfl,HBO.out.symm⟩,show t.at_ 0=t.s0 from rfl,HGS.out,HER.out,HFL.out,if_pos HE.out,if_pos hf])
       have okf:(floC gs.ver).tos.Ok:=zS_ok;have bfl:=qb gs.ver;have b2:=yy (floC gs.ver) okf
       have src:=fun(b:Nat) (v:World) (X:List (Nat × Obj)) (hv:St W v J X) (hm:(b,Obj.cells (floC gs.ver).cells 147 (0,0))∈X)=>(jb (g:=b) okf).src (w:=v) (fun p hp=>by simp only[List.mem_singleton]at hp;subst hp;exact hv.own _ hm)
       rw[show cgs [floC gs.ver]=(floC gs.ver).cells.toList by simp[cgs]]at src
       have one4:∀u∈(floC gs.ver).cells.toList,u.oneCell'=true:=fun u hu=>List.all_eq_true.1 (by have h:=Cg.one (floC gs.ver);rw[←Array.all_toList]at h;exact h) u hu
       have hcg:cgs [setC 0 gs]++(floC gs.ver).cells.toList=cgs [setC 0 gs,floC gs.ver]:=by simp[cgs]
       obtain⟨C4,hC4⟩:∃y,(floC gs.ver).cells=y:=⟨_,rfl⟩;rw[hC4]at bfl b2 src one4 hcg;have BF:=za bfl;have B2:=za b2;have SRC:=za src;have ONE4:=za one4;have HCG:=za hcg;clear bfl b2 src one4 hcg hC4 hf okf
       go_wp2_with (first|(with_reducible refine zh rfl 147 _ rfl _ ?_ (BF.out _) ?_;·go_simp)|(refine zw rfl 94 1 _ rfl _ (by kernel_rfl) B2.out H5.out ?_;intro b2 w6 h6;refine Hid.out ?_))
       refine za ?_;have h7:=h6.perm (L':=[(b1,.cells C1 147 (0,0))]++((b2,.cells C4 147 (0,0))::(g6,.cells GC 26 (0,0))::(g,.cells C 29 (0,0))::F)) ze;have S7:=za (SRC.out b2 _ _ h6 (List.mem_cons_self ..));have H7:=za h7;clear h6 h7 c6 cf H5;refine yn (F:=(b2,.cells C4 147 (0,0))::(g6,.cells GC 26 (0,0))::(g,.cells C 29 (0,0))::F) (L:=[(b1,.cells C1 147 (0,0))]) rfl (.tmp 42) (.tmp 46) 94 rfl 147 (.agg (⟨0,0,0,zS,0⟩:Cg).cells) 40 96 Tryz.underlying94 jw (by kernel_rfl) (by omega) rfl (ROW1.out b1) H7.out rfl S7.out ONE4.out 2 rfl _ HCG.out (by unfold maxLen;omega) (by omega) ?_;intro A5 c5 w8 L5 hr5 h8;have HE2:=za (CP.out _ _ HR.out _ A5 c5 L5 hr5 (St.mid (A:=L5) (B:=[_,_,_]) h8));clear h8 hr5 S7 H7;go_wp2_with fail
       go_ret2
       exact HE2.out
      ·have bf:decide (gs.ver > fl)=false:=by simpa using hf
       have HR:=za (show goodT t 0=([setC 0 gs],0) by
        unfold goodT
        rw[if_pos ⟨HV.out,rfl,HBO.out.symm⟩,show t.at_ 0=t.s0 from rfl,HGS.out,HER.out,HFL.out,if_pos HE.out,if_neg hf])
       have HE2:=za (CP.out _ _ HR.out _ _ _ _ (ROW1.out b1) (St.mid (A:=[_]) (B:=[_,_]) H5.out));clear hf;go_wp2_with fail
       go_ret2
       exact HE2.out
     ·have be:(er != 0)=true:=by simpa using he
      have HR:=za (show goodT t 0=([],er) by
       unfold goodT
       rw[if_pos ⟨HV.out,rfl,HBO.out.symm⟩,show t.at_ 0=t.s0 from rfl,HER.out,if_neg he])
      have HE2:=za (CP0.out _ HR.out _ (H4.out.weaken (A:=[_,_])));clear he;go_wp2_with fail
      go_ret2
      exact HE2.out
    ·have sok:=OK.out.s1
     have kg:=fun(v:World) (X:List (Nat × Obj)) (hv:St W v J X)=>ref_good t.s1 sok hv
     have gok:(goodS t.s1).1.Ok:=zas sok;have si:=yg sok;have gi:=yg gok;have go1:=(goodS t.s1).1.one;have gsz:=Slt.size gok.dig;unfold SPost at kg;obtain⟨gs,hgs⟩:∃y,(goodS t.s1).1=y:=⟨_,rfl⟩;obtain⟨er,her⟩:∃y,(goodS t.s1).2=y:=⟨_,rfl⟩;have HGS:=za hgs;have HER:=za her;rw[hgs,her]at kg;rw[hgs]at gok gi go1 gsz;clear hgs her
     have q2:∀(v:World) (X:List (Nat × Obj)) (b:Nat),St W v J X→(b,Obj.cells gs.cells 26 (0,0))∈X→v.rangeAt b 0 gs.cells.toList∧v.cell? ⟨b,2,none⟩=some (.int .u64 gs.ver):=fun v X b hv hm=>⟨fun j u hj=>by rw[Nat.zero_add,hv.cell hm j];simpa using hj,(hv.cell hm 2).trans (Slt.at2 gs)⟩
     have bs:=yx 1 gs gok;have c1ok:(setC 1 gs).tos.Ok:=gok;have b1:=yy (setC 1 gs) c1ok
     have row1:=fun(b:Nat)=>jb (g:=b) c1ok
     unfold Slt.val at kg;have r5:=(FALL.out _ _ H2.out (List.mem_cons_self ..)).2.s1;obtain⟨SC,hSC⟩:∃y,t.s1.cells=y:=⟨_,rfl⟩;rw[hSC]at kg si r5;obtain⟨GC,hGC⟩:∃y,gs.cells=y:=⟨_,rfl⟩;rw[hGC]at kg gi go1 gsz q2 bs;obtain⟨C1,hC1⟩:∃y,(setC 1 gs).cells=y:=⟨_,rfl⟩;rw[hC1]at bs b1 row1
     have gfit:0+GC.size≤zbj.size:=by rw[gsz];decide
     have gmany:zg zbj 0 GC.toList=GC:=by rw[zd _ _ (by rw[Array.length_toList,gsz];rfl),Array.toArray_toList]
     have KG:=za kg;have SI:=za si;have GI:=za gi;have GO:=za go1;have GF:=za gfit;have GM:=za gmany;have Q2:=za q2;have BS:=za bs;have B1:=za b1;have ROW1:=za row1;have R5:=za r5;have GOK:=za gok;have gv0:=gok.ver0;have gv1:=gok.ver1;clear kg si gi go1 gfit gmany q2 bs b1 row1 r5 gsz sok c1ok gok hSC hGC hC1
     go_wp2_with (with_reducible refine zb 26 rfl (by kernel_rfl) 26 (.tmp 25) rfl g 36 rfl SC _ R5.out Tryz.underlying26 rfl SI.out ?_)
     refine(KG.out _ _ H2.out).mono ?_;rintro e w3 ⟨rfl,h3⟩;have H3:=za h3;have H3A:=za (h3.alloc (.cells zbj 26));clear h3 H2 R5 KG
     go_wp2_with (with_reducible refine zc rfl 26 (.tmp 6) (.tmp 28) rfl (g:=w3.heap.size) (off:=0) GC rfl rfl H3A.out GF.out GI.out GO.out ?_;intro w4 h4;refine Hid.out ?_)
     refine za ?_;rw[GM.out]at h4;obtain⟨g6,hg6⟩:∃y,w3.heap.size=y:=⟨_,rfl⟩;rw[hg6]at h4 ⊢;have H4:=za h4;clear h4 H3 H3A hg6
     by_cases he:er=0
     ·have be:(er != 0)=false:=by simpa using he
      have HE:=za he;clear he;obtain⟨r6,c6⟩:=Q2.out _ _ g6 H4.out (List.mem_cons_self ..);have R6:=za r6;clear r6 c6
      go_wp2_with (first|(with_reducible refine zb 34 rfl (by kernel_rfl) 26 (.tmp 6) rfl g6 0 rfl GC _ R6.out Tryz.underlying26 rfl GI.out ?_)|(with_reducible refine zh rfl 147 _ rfl _ ?_ (BS.out _) ?_;·go_simp)|(refine zw rfl 94 1 _ rfl _ (by kernel_rfl) B1.out H4.out ?_;intro b1 w5 h5;refine Hid.out ?_))
      refine za ?_;have c6:=(Q2.out _ _ g6 h5 (by simp)).2;have cf:=(FALL.out _ _ h5 (by simp)).2.flo;obtain⟨fl,hfl⟩:∃y,t.flo=y:=⟨_,rfl⟩;have HFL:=za hfl;rw[hfl]at cf;have H5:=za h5;clear h5 hfl H4 R6
      by_cases hf:fl < gs.ver
      ·have bf:decide (gs.ver > fl)=true:=by simpa using hf
       have HR:=za (show goodT t 1=([setC 1 gs,floC gs.ver],0) by
        unfold goodT
        rw[if_pos ⟨HV.out,rfl,HBO.out.symm⟩,show t.at_ 1=t.s1 from rfl,HGS.out,HER.out,HFL.out,if_pos HE.out,if_pos hf])
       have okf:(floC gs.ver).tos.Ok:=zS_ok;have bfl:=qb gs.ver;have b2:=yy (floC gs.ver) okf
       have src:=fun(b:Nat) (v:World) (X:List (Nat × Obj)) (hv:St W v J X) (hm:(b,Obj.cells (floC gs.ver).cells 147 (0,0))∈X)=>(jb (g:=b) okf).src (w:=v) (fun p hp=>by simp only[List.mem_singleton]at hp;subst hp;exact hv.own _ hm)
       rw[show cgs [floC gs.ver]=(floC gs.ver).cells.toList by simp[cgs]]at src
       have one4:∀u∈(floC gs.ver).cells.toList,u.oneCell'=true:=fun u hu=>List.all_eq_true.1 (by have h:=Cg.one (floC gs.ver);rw[←Array.all_toList]at h;exact h) u hu
       have hcg:cgs [setC 1 gs]++(floC gs.ver).cells.toList=cgs [setC 1 gs,floC gs.ver]:=by simp[cgs]
       obtain⟨C4,hC4⟩:∃y,(floC gs.ver).cells=y:=⟨_,rfl⟩;rw[hC4]at bfl b2 src one4 hcg;have BF:=za bfl;have B2:=za b2;have SRC:=za src;have ONE4:=za one4;have HCG:=za hcg;clear bfl b2 src one4 hcg hC4 hf okf
       go_wp2_with (first|(with_reducible refine zh rfl 147 _ rfl _ ?_ (BF.out _) ?_;·go_simp)|(refine zw rfl 94 1 _ rfl _ (by kernel_rfl) B2.out H5.out ?_;intro b2 w6 h6;refine Hid.out ?_))
       refine za ?_;have h7:=h6.perm (L':=[(b1,.cells C1 147 (0,0))]++((b2,.cells C4 147 (0,0))::(g6,.cells GC 26 (0,0))::(g,.cells C 29 (0,0))::F)) ze;have S7:=za (SRC.out b2 _ _ h6 (List.mem_cons_self ..));have H7:=za h7;clear h6 h7 c6 cf H5;refine yn (F:=(b2,.cells C4 147 (0,0))::(g6,.cells GC 26 (0,0))::(g,.cells C 29 (0,0))::F) (L:=[(b1,.cells C1 147 (0,0))]) rfl (.tmp 42) (.tmp 46) 94 rfl 147 (.agg (⟨0,0,0,zS,0⟩:Cg).cells) 40 96 Tryz.underlying94 jw (by kernel_rfl) (by omega) rfl (ROW1.out b1) H7.out rfl S7.out ONE4.out 2 rfl _ HCG.out (by unfold maxLen;omega) (by omega) ?_;intro A5 c5 w8 L5 hr5 h8;have HE2:=za (CP.out _ _ HR.out _ A5 c5 L5 hr5 (St.mid (A:=L5) (B:=[_,_,_]) h8));clear h8 hr5 S7 H7;go_wp2_with fail
       go_ret2
       exact HE2.out
      ·have bf:decide (gs.ver > fl)=false:=by simpa using hf
       have HR:=za (show goodT t 1=([setC 1 gs],0) by
        unfold goodT
        rw[if_pos ⟨HV.out,rfl,HBO.out.symm⟩,show t.at_ 1=t.s1 from rfl,HGS.out,HER.out,HFL.out,if_pos HE.out,if_neg hf])
       have HE2:=za (CP.out _ _ HR.out _ _ _ _ (ROW1.out b1) (St.mid (A:=[_]) (B:=[_,_]) H5.out));clear hf;go_wp2_with fail
       go_ret2
       exact HE2.out
     ·have be:(er != 0)=true:=by simpa using he
      have HR:=za (show goodT t 1=([],er) by
       unfold goodT
       rw[if_pos ⟨HV.out,rfl,HBO.out.symm⟩,show t.at_ 1=t.s1 from rfl,HER.out,if_neg he])
      have HE2:=za (CP0.out _ HR.out _ (H4.out.weaken (A:=[_,_])));clear he;go_wp2_with fail
      go_ret2
      exact HE2.out
   ·have bb:(i != bo)=true:=by simpa using hb
    have HE:=za (CP0.out _ (NO.out fun h=>hb (h.2.2.trans HBO.out)) _ (H2.out.weaken (A:=[_])));clear hb hi;go_wp2_with fail
    go_ret2
    exact HE.out
theorem ref12_bad (ok:t.Ok) (i:Int) (h:St W w J F):Calls Tryz.prog 47 #[t.val,.int .i64 i] w (CPost W J F (badT t i)):=by
 have h1:=h.alloc (.cells t.cells 29);obtain⟨g,hg⟩:∃g,w.heap.size=g:=⟨_,rfl⟩;rw[hg]at h1
 have kR:=fun(v:World) (X:List (Nat × Obj)) (hv:St W v J X)=>jm t ok hv
 have fx:=fun(v:World) (X:List (Nat × Obj)) (hv:St W v J X) (hx:(g,Obj.cells t.cells 29 (0,0))∈X)=>hv.tb ok hx
 have ti:=z7 ok
 have cp:∀l x,badT t i=(l,x)→∀v A c L,Row 147 40 (.slice A l.length c) l.length (cgs l) L→St W v J (L++F)→CPost W J F (badT t i) (.returned (.tuple #[.slice A l.length c,.int .i64 x])) v:=fun l x h v A c L hr hv=>by rw[h];exact⟨A,c,L,rfl,hr,hv⟩
 have cp0:∀x,badT t i=([],x)→∀v,St W v J F→CPost W J F (badT t i) (.returned (.tuple #[.slice none 0 0,.int .i64 x])) v:=fun x h v hv=>cp [] x h v none 0 [] (Row.nil _ _) hv
 unfold Tb.val at *;obtain⟨C,hC⟩:∃C,t.cells=C:=⟨_,rfl⟩
 have FALL:Hid (∀v X,St W v J X→(g,Obj.cells C 29 (0,0))∈X→v.rangeAt g 0 C.toList∧TbAt v g t):=za fun v X hv hx=>by
  rw[←hC]at hx;have q:=fx v X hv hx;rw[←hC];exact⟨q.all,q⟩
 rw[hC]at h1 kR ti ⊢;obtain⟨V,hV⟩:∃y,zx t=y:=⟨_,rfl⟩;rw[hV]at kR;have HV:=za hV;have H1:=za h1;have KR:=za kR;have TI:=za ti;have CP:=za cp;have CP0:=za cp0;have OK:=za ok;clear h1 kR fx ti cp cp0 hC hV h ok
 have no:¬(zx t=true∧ixB i=true)→badT t i=([],101):=fun h=>by unfold badT;rw[if_neg h]
 have NO:=za no;clear no;have QA:=za (FALL.out _ _ H1.out (List.mem_cons_self ..)).1
 go_enter Tryz.func47,Tryz.ntmps47
 go_wp2_with (with_reducible refine zb 9 rfl (by kernel_rfl) 29 (.tmp 2) rfl g 0 rfl C _ QA.out Tryz.underlying29 rfl TI.out ?_)
 refine(KR.out _ _ H1.out).mono ?_;rintro e w2 ⟨rfl,h2⟩;have H2:=za h2;clear h2 H1 QA
 cases V with
 | false=>
  have HE:=za (CP0.out _ (NO.out fun h=>by rw[HV.out]at h;cases h.1) _ (H2.out.weaken (A:=[_])));go_wp2_with fail
  go_ret2
  exact HE.out
 | true=>
  by_cases hi:i < 0
  ·have HE:=za (CP0.out _ (NO.out fun h=>by have:=h.2;simp[ixB]at this;omega) _ (H2.out.weaken (A:=[_])))
   have bi:decide (i < 0)=true:=by simpa using hi
   clear hi;go_wp2_with fail
   go_ret2
   exact HE.out
  ·have bi:decide (i < 0)=false:=by simpa using hi
   by_cases hb:1 < i
   ·have bb:decide (i > 1)=true:=by simpa using hb
    have HE:=za (CP0.out _ (NO.out fun h=>by have:=h.2;simp[ixB]at this;omega) _ (H2.out.weaken (A:=[_])));clear hb hi;go_wp2_with fail
    go_ret2
    exact HE.out
   ·have hx:i=0∨i=1:=by omega
    clear hi hb bi
    rcases hx with rfl|rfl
    ·have sok:=OK.out.s0
     have kg:=fun(v:World) (X:List (Nat × Obj)) (hv:St W v J X)=>zbc t.s0 sok hv
     have gok:(badS t.s0).1.Ok:=un;have si:=yg sok;have gi:=yg gok;have go1:=(badS t.s0).1.one;have gsz:=Slt.size gok.dig;unfold SPost at kg;obtain⟨gs,hgs⟩:∃y,(badS t.s0).1=y:=⟨_,rfl⟩;obtain⟨er,her⟩:∃y,(badS t.s0).2=y:=⟨_,rfl⟩;have HGS:=za hgs;have HER:=za her;rw[hgs,her]at kg;rw[hgs]at gok gi go1 gsz;clear hgs her
     have q2:∀(v:World) (X:List (Nat × Obj)) (b:Nat),St W v J X→(b,Obj.cells gs.cells 26 (0,0))∈X→v.rangeAt b 0 gs.cells.toList∧v.cell? ⟨b,2,none⟩=some (.int .u64 gs.ver):=fun v X b hv hm=>⟨fun j u hj=>by rw[Nat.zero_add,hv.cell hm j];simpa using hj,(hv.cell hm 2).trans (Slt.at2 gs)⟩
     have bs:=yx 0 gs gok;have c1ok:(setC 0 gs).tos.Ok:=gok;have b1:=yy (setC 0 gs) c1ok
     have row1:=fun(b:Nat)=>jb (g:=b) c1ok
     unfold Slt.val at kg;have r5:=(FALL.out _ _ H2.out (List.mem_cons_self ..)).2.s0;obtain⟨SC,hSC⟩:∃y,t.s0.cells=y:=⟨_,rfl⟩;rw[hSC]at kg si r5;obtain⟨GC,hGC⟩:∃y,gs.cells=y:=⟨_,rfl⟩;rw[hGC]at kg gi go1 gsz q2 bs;obtain⟨C1,hC1⟩:∃y,(setC 0 gs).cells=y:=⟨_,rfl⟩;rw[hC1]at bs b1 row1
     have gfit:0+GC.size≤zbj.size:=by rw[gsz];decide
     have gmany:zg zbj 0 GC.toList=GC:=by rw[zd _ _ (by rw[Array.length_toList,gsz];rfl),Array.toArray_toList]
     have KG:=za kg;have SI:=za si;have GI:=za gi;have GO:=za go1;have GF:=za gfit;have GM:=za gmany;have Q2:=za q2;have BS:=za bs;have B1:=za b1;have ROW1:=za row1;have R5:=za r5;have GOK:=za gok;have gv0:=gok.ver0;have gv1:=gok.ver1;clear kg si gi go1 gfit gmany q2 bs b1 row1 r5 gsz sok c1ok gok hSC hGC hC1
     go_wp2_with (with_reducible refine zb 24 rfl (by kernel_rfl) 26 (.tmp 23) rfl g 0 rfl SC _ R5.out Tryz.underlying26 rfl SI.out ?_)
     refine(KG.out _ _ H2.out).mono ?_;rintro e w3 ⟨rfl,h3⟩;have H3:=za h3;have H3A:=za (h3.alloc (.cells zbj 26));clear h3 H2 R5 KG
     go_wp2_with (with_reducible refine zc rfl 26 (.tmp 6) (.tmp 26) rfl (g:=w3.heap.size) (off:=0) GC rfl rfl H3A.out GF.out GI.out GO.out ?_;intro w4 h4;refine Hid.out ?_)
     refine za ?_;rw[GM.out]at h4;obtain⟨g6,hg6⟩:∃y,w3.heap.size=y:=⟨_,rfl⟩;rw[hg6]at h4 ⊢;have H4:=za h4;clear h4 H3 H3A hg6
     by_cases he:er=0
     ·have be:(er != 0)=false:=by simpa using he
      have HE:=za he;clear he;have co:=(FALL.out _ _ H4.out (by simp)).2.st1;obtain⟨so,hso⟩:∃y,t.s1.st=y:=⟨_,rfl⟩;have HSO:=za hso;rw[hso]at co;clear hso
      by_cases h3:so=3
      ·have b3:(so != 3)=false:=by simpa using h3
       have H3T:=za (show((t.at_ (1-0)).st==3)=true by rw[show(1:Int)-0=1 from rfl,show t.at_ 1=t.s1 from rfl,HSO.out,h3];rfl);obtain⟨r6,-⟩:=Q2.out _ _ g6 H4.out (List.mem_cons_self ..);have R6:=za r6;clear r6 h3
       go_wp2_with (first|(with_reducible refine zb 39 rfl (by kernel_rfl) 26 (.tmp 6) rfl g6 0 rfl GC _ R6.out Tryz.underlying26 rfl GI.out ?_)|(with_reducible refine zh rfl 147 _ rfl _ ?_ (BS.out _) ?_;·go_simp)|(refine zw rfl 94 1 _ rfl _ (by kernel_rfl) B1.out H4.out ?_;intro b1 w5 h5;refine Hid.out ?_))
       refine za ?_;have ca:=(FALL.out _ _ h5 (by simp)).2.act;obtain⟨ac,hac⟩:∃y,t.act=y:=⟨_,rfl⟩;have HAC:=za hac;rw[hac]at ca;have H5:=za h5;clear h5 hac H4 R6 co
       by_cases hf:ac=0
       ·subst hf
        have HR:=za (show badT t 0=([setC 0 gs,actC (1-0)],0) by
         unfold badT
         rw[if_pos ⟨HV.out,rfl⟩,show t.at_ 0=t.s0 from rfl,HGS.out,HER.out,HAC.out,if_pos HE.out,if_pos H3T.out,if_pos rfl])
        have okf:(actC (1-0)).tos.Ok:=zS_ok;have bfl:=ja 1;have b2:=yy (actC (1-0)) okf
        have src:=fun(b:Nat) (v:World) (X:List (Nat × Obj)) (hv:St W v J X) (hm:(b,Obj.cells (actC (1-0)).cells 147 (0,0))∈X)=>(jb (g:=b) okf).src (w:=v) (fun p hp=>by simp only[List.mem_singleton]at hp;subst hp;exact hv.own _ hm)
        rw[show cgs [actC (1-0)]=(actC (1-0)).cells.toList by simp[cgs]]at src
        have one4:∀u∈(actC (1-0)).cells.toList,u.oneCell'=true:=fun u hu=>List.all_eq_true.1 (by have h:=Cg.one (actC (1-0));rw[←Array.all_toList]at h;exact h) u hu
        have hcg:cgs [setC 0 gs]++(actC (1-0)).cells.toList=cgs [setC 0 gs,actC (1-0)]:=by simp[cgs]
        rw[show(actC 1)=actC (1-0) from rfl]at bfl;obtain⟨C4,hC4⟩:∃y,(actC (1-0)).cells=y:=⟨_,rfl⟩;rw[hC4]at bfl b2 src one4 hcg;have BF:=za bfl;have B2:=za b2;have SRC:=za src;have ONE4:=za one4;have HCG:=za hcg;clear bfl b2 src one4 hcg hC4 okf
        go_wp2_with (first|(with_reducible refine zh rfl 147 _ rfl _ ?_ (BF.out _) ?_;·go_simp)|(refine zw rfl 94 1 _ rfl _ (by kernel_rfl) B2.out H5.out ?_;intro b2 w6 h6;refine Hid.out ?_))
        refine za ?_;have h7:=h6.perm (L':=[(b1,.cells C1 147 (0,0))]++((b2,.cells C4 147 (0,0))::(g6,.cells GC 26 (0,0))::(g,.cells C 29 (0,0))::F)) ze;have S7:=za (SRC.out b2 _ _ h6 (List.mem_cons_self ..));have H7:=za h7;clear h6 h7 ca H5;refine yn (F:=(b2,.cells C4 147 (0,0))::(g6,.cells GC 26 (0,0))::(g,.cells C 29 (0,0))::F) (L:=[(b1,.cells C1 147 (0,0))]) rfl (.tmp 46) (.tmp 50) 94 rfl 147 (.agg (⟨0,0,0,zS,0⟩:Cg).cells) 40 96 Tryz.underlying94 jw (by kernel_rfl) (by omega) rfl (ROW1.out b1) H7.out rfl S7.out ONE4.out 2 rfl _ HCG.out (by unfold maxLen;omega) (by omega) ?_;intro A5 c5 w8 L5 hr5 h8;have HE2:=za (CP.out _ _ HR.out _ A5 c5 L5 hr5 (St.mid (A:=L5) (B:=[_,_,_]) h8));clear h8 hr5 S7 H7;go_wp2_with fail
        go_ret2
        exact HE2.out
       ·have bf:(ac==0)=false:=by simpa using hf
        have HR:=za (show badT t 0=([setC 0 gs],0) by
         unfold badT
         rw[if_pos ⟨HV.out,rfl⟩,show t.at_ 0=t.s0 from rfl,HGS.out,HER.out,HAC.out,if_pos HE.out,if_pos H3T.out,if_neg (fun h=>hf h.symm)])
        have HE2:=za (CP.out _ _ HR.out _ _ _ _ (ROW1.out b1) (St.mid (A:=[_]) (B:=[_,_]) H5.out));clear hf;go_wp2_with fail
        go_ret2
        exact HE2.out
      ·have b3:(so != 3)=true:=by simpa using h3
       have HR:=za (show badT t 0=([],122) by
        unfold badT
        rw[if_pos ⟨HV.out,rfl⟩,show t.at_ 0=t.s0 from rfl,HER.out,if_pos HE.out,if_neg (by rw[show(1:Int)-0=1 from rfl,show t.at_ 1=t.s1 from rfl,HSO.out];simpa using h3)])
       have HE2:=za (CP0.out _ HR.out _ (H4.out.weaken (A:=[_,_])));clear h3;go_wp2_with fail
       go_ret2
       exact HE2.out
     ·have be:(er != 0)=true:=by simpa using he
      have HR:=za (show badT t 0=([],er) by
       unfold badT
       rw[if_pos ⟨HV.out,rfl⟩,show t.at_ 0=t.s0 from rfl,HER.out,if_neg he])
      have HE2:=za (CP0.out _ HR.out _ (H4.out.weaken (A:=[_,_])));clear he;go_wp2_with fail
      go_ret2
      exact HE2.out
    ·have sok:=OK.out.s1
     have kg:=fun(v:World) (X:List (Nat × Obj)) (hv:St W v J X)=>zbc t.s1 sok hv
     have gok:(badS t.s1).1.Ok:=un;have si:=yg sok;have gi:=yg gok;have go1:=(badS t.s1).1.one;have gsz:=Slt.size gok.dig;unfold SPost at kg;obtain⟨gs,hgs⟩:∃y,(badS t.s1).1=y:=⟨_,rfl⟩;obtain⟨er,her⟩:∃y,(badS t.s1).2=y:=⟨_,rfl⟩;have HGS:=za hgs;have HER:=za her;rw[hgs,her]at kg;rw[hgs]at gok gi go1 gsz;clear hgs her
     have q2:∀(v:World) (X:List (Nat × Obj)) (b:Nat),St W v J X→(b,Obj.cells gs.cells 26 (0,0))∈X→v.rangeAt b 0 gs.cells.toList∧v.cell? ⟨b,2,none⟩=some (.int .u64 gs.ver):=fun v X b hv hm=>⟨fun j u hj=>by rw[Nat.zero_add,hv.cell hm j];simpa using hj,(hv.cell hm 2).trans (Slt.at2 gs)⟩
     have bs:=yx 1 gs gok;have c1ok:(setC 1 gs).tos.Ok:=gok;have b1:=yy (setC 1 gs) c1ok
     have row1:=fun(b:Nat)=>jb (g:=b) c1ok
     unfold Slt.val at kg;have r5:=(FALL.out _ _ H2.out (List.mem_cons_self ..)).2.s1;obtain⟨SC,hSC⟩:∃y,t.s1.cells=y:=⟨_,rfl⟩;rw[hSC]at kg si r5;obtain⟨GC,hGC⟩:∃y,gs.cells=y:=⟨_,rfl⟩;rw[hGC]at kg gi go1 gsz q2 bs;obtain⟨C1,hC1⟩:∃y,(setC 1 gs).cells=y:=⟨_,rfl⟩;rw[hC1]at bs b1 row1
     have gfit:0+GC.size≤zbj.size:=by rw[gsz];decide
     have gmany:zg zbj 0 GC.toList=GC:=by rw[zd _ _ (by rw[Array.length_toList,gsz];rfl),Array.toArray_toList]
     have KG:=za kg;have SI:=za si;have GI:=za gi;have GO:=za go1;have GF:=za gfit;have GM:=za gmany;have Q2:=za q2;have BS:=za bs;have B1:=za b1;have ROW1:=za row1;have R5:=za r5;have GOK:=za gok;have gv0:=gok.ver0;have gv1:=gok.ver1;clear kg si gi go1 gfit gmany q2 bs b1 row1 r5 gsz sok c1ok gok hSC hGC hC1
     go_wp2_with (with_reducible refine zb 24 rfl (by kernel_rfl) 26 (.tmp 23) rfl g 36 rfl SC _ R5.out Tryz.underlying26 rfl SI.out ?_)
     refine(KG.out _ _ H2.out).mono ?_;rintro e w3 ⟨rfl,h3⟩;have H3:=za h3;have H3A:=za (h3.alloc (.cells zbj 26));clear h3 H2 R5 KG
     go_wp2_with (with_reducible refine zc rfl 26 (.tmp 6) (.tmp 26) rfl (g:=w3.heap.size) (off:=0) GC rfl rfl H3A.out GF.out GI.out GO.out ?_;intro w4 h4;refine Hid.out ?_)
     refine za ?_;rw[GM.out]at h4;obtain⟨g6,hg6⟩:∃y,w3.heap.size=y:=⟨_,rfl⟩;rw[hg6]at h4 ⊢;have H4:=za h4;clear h4 H3 H3A hg6
     by_cases he:er=0
     ·have be:(er != 0)=false:=by simpa using he
      have HE:=za he;clear he;have co:=(FALL.out _ _ H4.out (by simp)).2.st0;obtain⟨so,hso⟩:∃y,t.s0.st=y:=⟨_,rfl⟩;have HSO:=za hso;rw[hso]at co;clear hso
      by_cases h3:so=3
      ·have b3:(so != 3)=false:=by simpa using h3
       have H3T:=za (show((t.at_ (1-1)).st==3)=true by rw[show(1:Int)-1=0 from rfl,show t.at_ 0=t.s0 from rfl,HSO.out,h3];rfl);obtain⟨r6,-⟩:=Q2.out _ _ g6 H4.out (List.mem_cons_self ..);have R6:=za r6;clear r6 h3
       go_wp2_with (first|(with_reducible refine zb 39 rfl (by kernel_rfl) 26 (.tmp 6) rfl g6 0 rfl GC _ R6.out Tryz.underlying26 rfl GI.out ?_)|(with_reducible refine zh rfl 147 _ rfl _ ?_ (BS.out _) ?_;·go_simp)|(refine zw rfl 94 1 _ rfl _ (by kernel_rfl) B1.out H4.out ?_;intro b1 w5 h5;refine Hid.out ?_))
       refine za ?_;have ca:=(FALL.out _ _ h5 (by simp)).2.act;obtain⟨ac,hac⟩:∃y,t.act=y:=⟨_,rfl⟩;have HAC:=za hac;rw[hac]at ca;have H5:=za h5;clear h5 hac H4 R6 co
       by_cases hf:ac=1
       ·subst hf
        have HR:=za (show badT t 1=([setC 1 gs,actC (1-1)],0) by
         unfold badT
         rw[if_pos ⟨HV.out,rfl⟩,show t.at_ 1=t.s1 from rfl,HGS.out,HER.out,HAC.out,if_pos HE.out,if_pos H3T.out,if_pos rfl])
        have okf:(actC (1-1)).tos.Ok:=zS_ok;have bfl:=ja 0;have b2:=yy (actC (1-1)) okf
        have src:=fun(b:Nat) (v:World) (X:List (Nat × Obj)) (hv:St W v J X) (hm:(b,Obj.cells (actC (1-1)).cells 147 (0,0))∈X)=>(jb (g:=b) okf).src (w:=v) (fun p hp=>by simp only[List.mem_singleton]at hp;subst hp;exact hv.own _ hm)
        rw[show cgs [actC (1-1)]=(actC (1-1)).cells.toList by simp[cgs]]at src
        have one4:∀u∈(actC (1-1)).cells.toList,u.oneCell'=true:=fun u hu=>List.all_eq_true.1 (by have h:=Cg.one (actC (1-1));rw[←Array.all_toList]at h;exact h) u hu
        have hcg:cgs [setC 1 gs]++(actC (1-1)).cells.toList=cgs [setC 1 gs,actC (1-1)]:=by simp[cgs]
        rw[show(actC 0)=actC (1-1) from rfl]at bfl;obtain⟨C4,hC4⟩:∃y,(actC (1-1)).cells=y:=⟨_,rfl⟩;rw[hC4]at bfl b2 src one4 hcg;have BF:=za bfl;have B2:=za b2;have SRC:=za src;have ONE4:=za one4;have HCG:=za hcg;clear bfl b2 src one4 hcg hC4 okf
        go_wp2_with (first|(with_reducible refine zh rfl 147 _ rfl _ ?_ (BF.out _) ?_;·go_simp)|(refine zw rfl 94 1 _ rfl _ (by kernel_rfl) B2.out H5.out ?_;intro b2 w6 h6;refine Hid.out ?_))
        refine za ?_;have h7:=h6.perm (L':=[(b1,.cells C1 147 (0,0))]++((b2,.cells C4 147 (0,0))::(g6,.cells GC 26 (0,0))::(g,.cells C 29 (0,0))::F)) ze;have S7:=za (SRC.out b2 _ _ h6 (List.mem_cons_self ..));have H7:=za h7;clear h6 h7 ca H5;refine yn (F:=(b2,.cells C4 147 (0,0))::(g6,.cells GC 26 (0,0))::(g,.cells C 29 (0,0))::F) (L:=[(b1,.cells C1 147 (0,0))]) rfl (.tmp 46) (.tmp 50) 94 rfl 147 (.agg (⟨0,0,0,zS,0⟩:Cg).cells) 40 96 Tryz.underlying94 jw (by kernel_rfl) (by omega) rfl (ROW1.out b1) H7.out rfl S7.out ONE4.out 2 rfl _ HCG.out (by unfold maxLen;omega) (by omega) ?_;intro A5 c5 w8 L5 hr5 h8;have HE2:=za (CP.out _ _ HR.out _ A5 c5 L5 hr5 (St.mid (A:=L5) (B:=[_,_,_]) h8));clear h8 hr5 S7 H7;go_wp2_with fail
        go_ret2
        exact HE2.out
       ·have bf:(ac==1)=false:=by simpa using hf
        have HR:=za (show badT t 1=([setC 1 gs],0) by
         unfold badT
         rw[if_pos ⟨HV.out,rfl⟩,show t.at_ 1=t.s1 from rfl,HGS.out,HER.out,HAC.out,if_pos HE.out,if_pos H3T.out,if_neg (fun h=>hf h.symm)])
        have HE2:=za (CP.out _ _ HR.out _ _ _ _ (ROW1.out b1) (St.mid (A:=[_]) (B:=[_,_]) H5.out));clear hf;go_wp2_with fail
        go_ret2
        exact HE2.out
      ·have b3:(so != 3)=true:=by simpa using h3
       have HR:=za (show badT t 1=([],122) by
        unfold badT
        rw[if_pos ⟨HV.out,rfl⟩,show t.at_ 1=t.s1 from rfl,HER.out,if_pos HE.out,if_neg (by rw[show(1:Int)-1=0 from rfl,show t.at_ 0=t.s0 from rfl,HSO.out];simpa using h3)])
       have HE2:=za (CP0.out _ HR.out _ (H4.out.weaken (A:=[_,_])));clear h3;go_wp2_with fail
       go_ret2
       exact HE2.out
     ·have be:(er != 0)=true:=by simpa using he
      have HR:=za (show badT t 1=([],er) by
       unfold badT
       rw[if_pos ⟨HV.out,rfl⟩,show t.at_ 1=t.s1 from rfl,HER.out,if_neg he])
      have HE2:=za (CP0.out _ HR.out _ (H4.out.weaken (A:=[_,_])));clear he;go_wp2_with fail
      go_ret2
      exact HE2.out
end
end Go.Proofs.YtnjnooeldkideaaGreatDoor
