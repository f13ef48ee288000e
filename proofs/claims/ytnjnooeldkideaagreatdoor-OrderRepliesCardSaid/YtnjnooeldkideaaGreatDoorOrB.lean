/- boot: what is bad. -/
import Derived.Test.YtnjnooeldkideaaGreatDoorOrG
import Derived.OwnWalk
namespace Go.Proofs.YtnjnooeldkideaaGreatDoor
set_option maxRecDepth 100000
set_option maxHeartbeats 8000000
set_option linter.unusedVariables false
set_option linter.unusedSimpArgs false
open Go.RowKit Go.Lib Go.Deep
section
variable {W w:World} {J:Nat→Option Obj} {t:Tb} {F:List (Nat × Obj)}
def badT (t:Tb) (i:Int):List Cg × Int:=
 if zx t=true∧ixB i=true then
  (if (badS (t.at_ i)).2=0 then (if ((t.at_ (1-i)).st==3)=true then (if i=t.act then ([setC i (badS (t.at_ i)).1,actC (1-i)],0) else ([setC i (badS (t.at_ i)).1],0)) else ([],122)) else ([],(badS (t.at_ i)).2))
 else ([],101)
theorem un {s:Slt}:(badS s).1.Ok:=by
 unfold badS
 split
 ·exact qw 4 (by decide) (by decide)
 ·exact zS_ok
theorem b_bad (ok:t.Ok) (i:Int) (h:St W w J F):Calls Tryz.prog 73 #[t.val,.int .i64 i] w (CPost W J F (badT t i)):=by
 have h1:=h.alloc (.cells t.cells 29);obtain⟨g,hg⟩:∃g,w.heap.size=g:=⟨_,rfl⟩;rw[hg]at h1
 have kG:=fun(v:World) (X:List (Nat × Obj)) (hv:St W v J X)=>zbd (t.at_ i) (t.at_ok ok i) hv
 have gok:=un (s:=t.at_ i);have i0:=zl ok.s0.dig;have i1:=zl ok.s1.dig
 have kI:=fun(hi:i=0∨i=1) (v:World) (X:List (Nat × Obj)) (hv:St W v J X)=>v_is (1-i) 3 ok (by omega) hv
 have hno:¬(zx t=true∧ixB i=true)→∀v,St W v J F→CPost W J F (badT t i) (.returned (.tuple #[.slice none 0 0,.int .i64 101])) v:=fun hc v hv=>by unfold badT;rw[if_neg hc];exact CPost.nothing 101 hv
 have hyes:(zx t=true∧ixB i=true)→(if (badS (t.at_ i)).2=0 then (if ((t.at_ (1-i)).st==3)=true then ((i=t.act→∀v A c L,Row 147 40 (.slice A 2 c) 2 (cgs [setC i (badS (t.at_ i)).1,actC (1-i)]) L→St W v J (L++F)→CPost W J F (badT t i) (.returned (.tuple #[.slice A 2 c,.int .i64 0])) v)∧(¬i=t.act→∀v b,St W v J ((b,.cells (setC i (badS (t.at_ i)).1).cells 147 (0,0))::F)→CPost W J F (badT t i) (.returned (.tuple #[.slice (some ⟨b,0,none⟩) 1 1,.int .i64 0])) v)) else (∀v,St W v J F→CPost W J F (badT t i) (.returned (.tuple #[.slice none 0 0,.int .i64 122])) v)) else (∀v,St W v J F→CPost W J F (badT t i) (.returned (.tuple #[.slice none 0 0,.int .i64 (badS (t.at_ i)).2])) v)):=fun hc=>by
  unfold badT;rw[if_pos hc]
  split
  ·split
   ·exact⟨fun hf v A c L hr hv=>by rw[if_pos hf];exact⟨A,c,L,rfl,hr,hv⟩,fun hf v b hv=>by rw[if_neg hf];exact CPost.one gok hv⟩
   ·exact fun v hv=>CPost.nothing _ hv
  ·exact fun v hv=>CPost.nothing _ hv
 have f0:=ok.f0;have f1:=ok.f1;obtain⟨V,hV⟩:∃V,zx t=V:=⟨_,rfl⟩
 have kL:=fun(v:World) (X:List (Nat × Obj)) (hv:St W v J X)=>zbg t ok hv
 rw[hV]at kL;have hsz:=Tb.size ok;have hti:=z7 ok;have hvi:=u6 ok;have htone:=t.one
 have tbv:=fun(v:World) (X:List (Nat × Obj)) (b:Nat) (hv:St W v J X) (hm:(b,Obj.cells t.cells 161 (0,0))∈X)=>hv.tb (T:=161) ok hm
 have tbb:=fun(v:World) (X:List (Nat × Obj)) (hv:St W v J X) (hm:(g,Obj.cells t.cells 29 (0,0))∈X)=>(hv.tb (T:=29) ok hm).all
 unfold Tb.val at *;obtain⟨C,hC⟩:∃C,t.cells=C:=⟨_,rfl⟩;rw[hC]at kL hsz hti hvi htone tbv tbb
 have hvfit:0+C.size≤(Tryz.zeroCells161).size:=by rw[hsz,zview];omega
 have hvmany:zg Tryz.zeroCells161 0 C.toList=C:=by rw[zd _ _ (by rw[Array.length_toList,hsz,zview]),Array.toArray_toList]
 have HCC:=za hC;have HVV:=za hV;have KL:=za kL;have HTI:=za hti;have HVI:=za hvi;have HTONE:=za htone;have TBV:=za tbv;have TBB:=za tbb;have HVFIT:=za hvfit;have HVMANY:=za hvmany;clear kL hti hvi htone tbv tbb hvfit hvmany hV hsz;generalize badT t i=R at *;rw[HCC.out]at h1 ⊢;obtain⟨QX,hQX⟩:∃B,ixB i=B:=⟨_,rfl⟩;rw[HVV.out,hQX]at hno hyes;rw[HCC.out]at kI;have KIX:=za kI;have HNO:=za hno;have HYES:=za hyes;have KG:=za kG;have GOK:=za gok;have HQX:=za hQX;have H1:=za h1;have I0:=za i0;have I1:=za i1;clear h h1 kI hno hyes kG gok hQX hC i0 i1 ok
 go_enter Tryz.func73,Tryz.ntmps73
 go_wp2_with (with_reducible refine zb 12 rfl (by kernel_rfl) 29 (.tmp 2) rfl g 0 rfl C _ (TBB.out _ _ H1.out (by simp)) Tryz.underlying29 rfl HTI.out ?_)
 refine(KL.out _ _ H1.out).mono ?_;rintro e w2 ⟨rfl,h2⟩;have h3:=h2.alloc (.cells Tryz.zeroCells161 161);have H3:=za h3;clear h2 h3
 go_wp2_with (with_reducible refine zc rfl 161 (.tmp 6) (.tmp 14) rfl (g:=w2.heap.size) (off:=0) C rfl rfl H3.out HVFIT.out HVI.out HTONE.out ?_;intro w4 h4;refine Hid.out ?_)
 refine za ?_;rw[HVMANY.out]at h4;obtain⟨gv,hgv⟩:∃x,w2.heap.size=x:=⟨_,rfl⟩;rw[hgv]at h4 ⊢;obtain⟨vs0,vs1,vact,vboo,vflo,vall,vst0,vst1⟩:=TBV.out _ _ gv h4 (List.mem_cons_self ..);rw[HCC.out]at vall;have H4:=za h4;have VS0:=za vs0;have VS1:=za vs1;have VALL:=za vall;clear h4 H3 vs0 vs1 vall hgv KL
 cases V with
 | false=>
  have HN:=za (HNO.out (fun x=>by cases x.1));go_wp2_with fail
  go_ret2
  exact HN.out _ (H4.out.weaken (A:=[_,_]))
 | true=>
  cases QX with
  | false=>
   have HN:=za (HNO.out (fun x=>by cases x.2))
   go_wp2_with (go_at_call 99;(with_reducible refine(b_has i _).mono ?_);rintro e wz ⟨rfl,rfl⟩;rw[HQX.out])
   go_ret2
   exact HN.out _ (H4.out.weaken (A:=[_,_]))
  | true=>
   have hi2:=(ul i).1 HQX.out;have KI:=za (KIX.out hi2);clear HNO KIX
   rcases hi2 with rfl|rfl
   ·obtain⟨S,hS⟩:∃S,(t.at_ 0).cells=S:=⟨_,rfl⟩
    have VSS:Hid (w4.rangeAt gv 0 S.toList):=za (by rw[←hS];exact VS0.out);have HSI:Hid ((Tryz.prog.info? 26).map (·.size)=some S.size):=za (by rw[←hS];exact I0.out);have kg:=KG.out;unfold Slt.val at kg;rw[hS]at kg;have KG:=za kg;clear kg hS;have HC:=za (HYES.out ⟨by trivial,by trivial⟩);have kg:=KG.out _ _ H4.out;obtain⟨GS,hGS⟩:∃GS,badS (t.at_ 0)=GS:=⟨_,rfl⟩;obtain⟨gs,er⟩:=GS;have gok:=GOK.out;rw[hGS]at kg gok;have hc:=HC.out;rw[hGS]at hc;simp only[show(1:Int)-0=1 from rfl]at hc gok
    have kI:=fun(v:World) (X:List (Nat × Obj)) (hv:St W v J X)=>KI.out v X hv
    simp only[show(1:Int)-0=1 from rfl]at kI;obtain⟨B,hB⟩:∃B,((t.at_ 1).st==3)=B:=⟨_,rfl⟩;rw[hB]at kI hc;unfold SPost at kg;simp only at kg
    have kE:=fun(v:World) (X:List (Nat × Obj)) (hv:St W v J X)=>b_set 0 gs gok hv
    have kA:=fun(v:World) (X:List (Nat × Obj)) (hv:St W v J X)=>zag 1 hv
    have gsz:=gok.len;have gin:=zl gok.dig;have gon:=gs.one;have ok1:(setC 0 gs).tos.Ok:=gok;have hz1:=Cg.size ok1
    have gsv:∀(v:World) (X:List (Nat × Obj)) (b:Nat),St W v J X→(b,Obj.cells gs.cells 26 (0,0))∈X→v.rangeAt b 0 gs.cells.toList:=fun v X b hv hm j u hj=>by rw[Nat.zero_add,hv.cell hm j];simpa using hj
    have hrow:=fun(b:Nat)=>jb (g:=b) (c:=setC 0 gs) ok1
    have hz4:=Cg.size (c:=actC 1) zS_ok
    have hrow2:=fun(b:Nat)=>jb (g:=b) (c:=actC 1) zS_ok
    unfold Slt.val Cg.val at kE;unfold Cg.val at kA;obtain⟨GC,hGC⟩:∃C,gs.cells=C:=⟨_,rfl⟩;obtain⟨C1,hC1⟩:∃C,(setC 0 gs).cells=C:=⟨_,rfl⟩;obtain⟨C4,hC4⟩:∃C,(actC 1).cells=C:=⟨_,rfl⟩;rw[hGC]at kg kE gsz gin gon gsv;rw[hC1]at kE hz1 hrow hc;rw[hC4]at hz4 hrow2 kA
    have gfit:0+GC.size≤zbj.size:=by rw[gsz];decide
    have gmany:zg zbj 0 GC.toList=GC:=by rw[zd _ _ (by rw[Array.length_toList,gsz];rfl),Array.toArray_toList]
    have hfold:Array.foldl (fun cs (x:Value × Nat)=>cs.setIfInBounds x.snd x.fst) zbi C1.zipIdx 0 40=C1:=yj C1 _ 40 hz1 rfl;have hfold4:Array.foldl (fun cs (x:Value × Nat)=>cs.setIfInBounds x.snd x.fst) zbi C4.zipIdx 0 40=C4:=yj C4 _ 40 hz4 rfl
    have hcg:cgs [setC 0 gs]++C4.toList=cgs [setC 0 gs,actC 1]:=by rw[←hC4];simp[cgs]
    have one4:∀u∈C4.toList,u.oneCell'=true:=fun u hu=>List.all_eq_true.1 (by have h:=Cg.one (actC 1);rw[hC4,←Array.all_toList]at h;exact h) u hu
    have src4:∀(v:World) (X:List (Nat × Obj)) (b:Nat),St W v J X→(b,Obj.cells C4 147 (0,0))∈X→Src v 40 (some ⟨b,0,none⟩) 1 C4.toList:=fun v X b hv hm=>by
     have h:=(hrow2 b).src (w:=v) (fun p hp=>by simp only[List.mem_singleton]at hp;subst hp;exact hv.own _ hm)
     rwa [show cgs [actC 1]=C4.toList by rw[←hC4];simp[cgs]]at h
    have HC2:=za hc;have KG2:=za kg;have KE:=za kE;have KA:=za kA;have KI2:=za kI;have GIN:=za gin;have GON:=za gon;have GSV:=za gsv;have GFIT:=za gfit;have GMANY:=za gmany;have HROW:=za hrow;have HCG:=za hcg;have ONE4:=za one4;have SRC4:=za src4;clear hc kg kE kA kI hB gin gon gsv gfit gmany hrow hrow2 hcg one4 src4 gsz hGC hC1 hC4 hGS gok ok1 KG GOK HYES HC KI
    go_wp2_with (first|(go_at_call 99;(with_reducible refine(b_has 0 _).mono ?_);rintro e wz ⟨rfl,rfl⟩;rw[show ixB 0=true from rfl])|(with_reducible refine zb 28 rfl (by kernel_rfl) 26 (.tmp 27) rfl gv 0 rfl S _ VSS.out Tryz.underlying26 rfl HSI.out ?_))
    refine KG2.out.mono ?_;rintro e w5 ⟨rfl,h5⟩;have h6:=h5.alloc (.cells zbj 26);have H6:=za h6;clear h5 h6 KG2 vact vboo vflo vst0 vst1
    go_wp2_with (with_reducible refine zc rfl 26 (.tmp 8) (.tmp 30) rfl (g:=w5.heap.size) (off:=0) GC rfl rfl H6.out GFIT.out GIN.out GON.out ?_;intro w6 h7;refine Hid.out ?_)
    refine za ?_;rw[GMANY.out]at h7;obtain⟨g8,hg8⟩:∃x,w5.heap.size=x:=⟨_,rfl⟩;rw[hg8]at h7 ⊢;have H7:=za h7;clear h7 H6 hg8
    by_cases he:er=0
    ·subst he
     have hc:=HC2.out;rw[if_pos rfl]at hc;obtain⟨-,-,-,-,-,va7,-,-⟩:=TBV.out _ _ gv H7.out (List.mem_cons_of_mem _ (List.mem_cons_self ..));rw[HCC.out]at va7;have VA7:=za va7;have HC3:=za hc;have KI7:=za (KI2.out _ _ H7.out);clear hc HC2 va7 KI2
     go_wp2_with (with_reducible refine zb 37 rfl (by kernel_rfl) 161 (.tmp 6) rfl gv 0 rfl C _ VA7.out Tryz.underlying161 rfl HVI.out ?_)
     refine KI7.out.mono ?_;rintro e w7 ⟨rfl,h8⟩
     cases B with
     | false=>
      have HN:=za (HC3.out _ (h8.weaken (A:=[_,_,_])));clear h8;go_wp2_with fail
      go_ret2
      exact HN.out
     | true=>
      have hc:=HC3.out;rw[if_pos rfl]at hc;have r8:=GSV.out _ _ g8 h8 (List.mem_cons_self ..);have HC4:=za hc;have R8:=za r8;have KE8:=za (KE.out _ _ h8);clear hc HC3 r8 h8 KE KI7 VA7
      go_wp2_with (with_reducible refine zb 43 rfl (by kernel_rfl) 26 (.tmp 8) rfl g8 0 rfl GC _ R8.out Tryz.underlying26 rfl GIN.out ?_)
      refine KE8.out.mono ?_;rintro e w8 ⟨rfl,h8⟩;have h9:=h8.alloc (.cells C1 147);obtain⟨-,-,vact,-,-,-,-,-⟩:=TBV.out _ _ gv h9 (by simp);have H9:=za h9;clear h8 h9 KE8 R8
      by_cases hf:0=t.act
      ·have HFIN:=za (HC4.out.1 hf)
       rw[←hf]at vact;have KA9:=za (KA.out _ _ H9.out);clear hf HC4;go_wp2_with fail;refine KA9.out.mono ?_;rintro e w9 ⟨rfl,h9⟩;have h10:=h9.alloc (.cells C4 147);have s10:=SRC4.out _ _ _ h10 (List.mem_cons_self ..);have H10:=za h10;have S10:=za s10;have H9b:=za h9;clear h10 s10 h9 vact H9
       go_wp2_with ((at_builtin;refine Hid.out ?_))
       refine za ?_;refine yn (F:=(g8,.cells GC 26 (0,0))::(gv,.cells C 161 (0,0))::(g,.cells C 29 (0,0))::F) (L:=[(w8.heap.size,.cells C1 147 (0,0))]) rfl (.tmp 51) (.tmp 55) 94 rfl 147 (.agg (⟨0,0,0,zS,0⟩:Cg).cells) 40 96 Tryz.underlying94 jw (by kernel_rfl) (by omega) rfl (HROW.out _) (St.alloc_ H9b.out _) rfl S10.out ONE4.out 2 rfl _ HCG.out (by unfold maxLen;omega) (by omega) ?_;intro A5 c5 wa L5 hr5 h11;have HE:=za (HFIN.out _ _ _ _ hr5 (St.mid (A:=L5) (B:=[_,_,_]) h11));clear h11 hr5 H10 S10 H9b;go_wp2_with fail
       go_ret2
       exact HE.out
      ·have b1:((0:Int)==t.act)=false:=by simpa using hf
       have HFIN:=za (HC4.out.2 hf);have HE:=za (HFIN.out _ _ (St.mid (A:=[_]) (B:=[_,_,_]) H9.out));clear hf H9;go_wp2_with fail
       go_ret2
       exact HE.out
    ·have b2:(er != 0)=true:=by simpa using he
     have hc:=HC2.out;rw[if_neg he]at hc;have HE:=za (hc _ (H7.out.weaken (A:=[_,_,_])));clear hc he;go_wp2_with fail
     go_ret2
     exact HE.out
   ·obtain⟨S,hS⟩:∃S,(t.at_ 1).cells=S:=⟨_,rfl⟩
    have VSS:Hid (w4.rangeAt gv 36 S.toList):=za (by rw[←hS];exact VS1.out);have HSI:Hid ((Tryz.prog.info? 26).map (·.size)=some S.size):=za (by rw[←hS];exact I1.out);have kg:=KG.out;unfold Slt.val at kg;rw[hS]at kg;have KG:=za kg;clear kg hS;have HC:=za (HYES.out ⟨by trivial,by trivial⟩);have kg:=KG.out _ _ H4.out;obtain⟨GS,hGS⟩:∃GS,badS (t.at_ 1)=GS:=⟨_,rfl⟩;obtain⟨gs,er⟩:=GS;have gok:=GOK.out;rw[hGS]at kg gok;have hc:=HC.out;rw[hGS]at hc;simp only[show(1:Int)-1=0 from rfl]at hc gok
    have kI:=fun(v:World) (X:List (Nat × Obj)) (hv:St W v J X)=>KI.out v X hv
    simp only[show(1:Int)-1=0 from rfl]at kI;obtain⟨B,hB⟩:∃B,((t.at_ 0).st==3)=B:=⟨_,rfl⟩;rw[hB]at kI hc;unfold SPost at kg;simp only at kg
    have kE:=fun(v:World) (X:List (Nat × Obj)) (hv:St W v J X)=>b_set 1 gs gok hv
    have kA:=fun(v:World) (X:List (Nat × Obj)) (hv:St W v J X)=>zag 0 hv
    have gsz:=gok.len;have gin:=zl gok.dig;have gon:=gs.one;have ok1:(setC 1 gs).tos.Ok:=gok;have hz1:=Cg.size ok1
    have gsv:∀(v:World) (X:List (Nat × Obj)) (b:Nat),St W v J X→(b,Obj.cells gs.cells 26 (0,0))∈X→v.rangeAt b 0 gs.cells.toList:=fun v X b hv hm j u hj=>by rw[Nat.zero_add,hv.cell hm j];simpa using hj
    have hrow:=fun(b:Nat)=>jb (g:=b) (c:=setC 1 gs) ok1
    have hz4:=Cg.size (c:=actC 0) zS_ok
    have hrow2:=fun(b:Nat)=>jb (g:=b) (c:=actC 0) zS_ok
    unfold Slt.val Cg.val at kE;unfold Cg.val at kA;obtain⟨GC,hGC⟩:∃C,gs.cells=C:=⟨_,rfl⟩;obtain⟨C1,hC1⟩:∃C,(setC 1 gs).cells=C:=⟨_,rfl⟩;obtain⟨C4,hC4⟩:∃C,(actC 0).cells=C:=⟨_,rfl⟩;rw[hGC]at kg kE gsz gin gon gsv;rw[hC1]at kE hz1 hrow hc;rw[hC4]at hz4 hrow2 kA
    have gfit:0+GC.size≤zbj.size:=by rw[gsz];decide
    have gmany:zg zbj 0 GC.toList=GC:=by rw[zd _ _ (by rw[Array.length_toList,gsz];rfl),Array.toArray_toList]
    have hfold:Array.foldl (fun cs (x:Value × Nat)=>cs.setIfInBounds x.snd x.fst) zbi C1.zipIdx 0 40=C1:=yj C1 _ 40 hz1 rfl;have hfold4:Array.foldl (fun cs (x:Value × Nat)=>cs.setIfInBounds x.snd x.fst) zbi C4.zipIdx 0 40=C4:=yj C4 _ 40 hz4 rfl
    have hcg:cgs [setC 1 gs]++C4.toList=cgs [setC 1 gs,actC 0]:=by rw[←hC4];simp[cgs]
    have one4:∀u∈C4.toList,u.oneCell'=true:=fun u hu=>List.all_eq_true.1 (by have h:=Cg.one (actC 0);rw[hC4,←Array.all_toList]at h;exact h) u hu
    have src4:∀(v:World) (X:List (Nat × Obj)) (b:Nat),St W v J X→(b,Obj.cells C4 147 (0,0))∈X→Src v 40 (some ⟨b,0,none⟩) 1 C4.toList:=fun v X b hv hm=>by
     have h:=(hrow2 b).src (w:=v) (fun p hp=>by simp only[List.mem_singleton]at hp;subst hp;exact hv.own _ hm)
     rwa [show cgs [actC 0]=C4.toList by rw[←hC4];simp[cgs]]at h
    have HC2:=za hc;have KG2:=za kg;have KE:=za kE;have KA:=za kA;have KI2:=za kI;have GIN:=za gin;have GON:=za gon;have GSV:=za gsv;have GFIT:=za gfit;have GMANY:=za gmany;have HROW:=za hrow;have HCG:=za hcg;have ONE4:=za one4;have SRC4:=za src4;clear hc kg kE kA kI hB gin gon gsv gfit gmany hrow hrow2 hcg one4 src4 gsz hGC hC1 hC4 hGS gok ok1 KG GOK HYES HC KI
    go_wp2_with (first|(go_at_call 99;(with_reducible refine(b_has 1 _).mono ?_);rintro e wz ⟨rfl,rfl⟩;rw[show ixB 1=true from rfl])|(with_reducible refine zb 28 rfl (by kernel_rfl) 26 (.tmp 27) rfl gv 36 rfl S _ VSS.out Tryz.underlying26 rfl HSI.out ?_))
    refine KG2.out.mono ?_;rintro e w5 ⟨rfl,h5⟩;have h6:=h5.alloc (.cells zbj 26);have H6:=za h6;clear h5 h6 KG2 vact vboo vflo vst0 vst1
    go_wp2_with (with_reducible refine zc rfl 26 (.tmp 8) (.tmp 30) rfl (g:=w5.heap.size) (off:=0) GC rfl rfl H6.out GFIT.out GIN.out GON.out ?_;intro w6 h7;refine Hid.out ?_)
    refine za ?_;rw[GMANY.out]at h7;obtain⟨g8,hg8⟩:∃x,w5.heap.size=x:=⟨_,rfl⟩;rw[hg8]at h7 ⊢;have H7:=za h7;clear h7 H6 hg8
    by_cases he:er=0
    ·subst he
     have hc:=HC2.out;rw[if_pos rfl]at hc;obtain⟨-,-,-,-,-,va7,-,-⟩:=TBV.out _ _ gv H7.out (List.mem_cons_of_mem _ (List.mem_cons_self ..));rw[HCC.out]at va7;have VA7:=za va7;have HC3:=za hc;have KI7:=za (KI2.out _ _ H7.out);clear hc HC2 va7 KI2
     go_wp2_with (with_reducible refine zb 37 rfl (by kernel_rfl) 161 (.tmp 6) rfl gv 0 rfl C _ VA7.out Tryz.underlying161 rfl HVI.out ?_)
     refine KI7.out.mono ?_;rintro e w7 ⟨rfl,h8⟩
     cases B with
     | false=>
      have HN:=za (HC3.out _ (h8.weaken (A:=[_,_,_])));clear h8;go_wp2_with fail
      go_ret2
      exact HN.out
     | true=>
      have hc:=HC3.out;rw[if_pos rfl]at hc;have r8:=GSV.out _ _ g8 h8 (List.mem_cons_self ..);have HC4:=za hc;have R8:=za r8;have KE8:=za (KE.out _ _ h8);clear hc HC3 r8 h8 KE KI7 VA7
      go_wp2_with (with_reducible refine zb 43 rfl (by kernel_rfl) 26 (.tmp 8) rfl g8 0 rfl GC _ R8.out Tryz.underlying26 rfl GIN.out ?_)
      refine KE8.out.mono ?_;rintro e w8 ⟨rfl,h8⟩;have h9:=h8.alloc (.cells C1 147);obtain⟨-,-,vact,-,-,-,-,-⟩:=TBV.out _ _ gv h9 (by simp);have H9:=za h9;clear h8 h9 KE8 R8
      by_cases hf:1=t.act
      ·have HFIN:=za (HC4.out.1 hf)
       rw[←hf]at vact;have KA9:=za (KA.out _ _ H9.out);clear hf HC4;go_wp2_with fail;refine KA9.out.mono ?_;rintro e w9 ⟨rfl,h9⟩;have h10:=h9.alloc (.cells C4 147);have s10:=SRC4.out _ _ _ h10 (List.mem_cons_self ..);have H10:=za h10;have S10:=za s10;have H9b:=za h9;clear h10 s10 h9 vact H9
       go_wp2_with ((at_builtin;refine Hid.out ?_))
       refine za ?_;refine yn (F:=(g8,.cells GC 26 (0,0))::(gv,.cells C 161 (0,0))::(g,.cells C 29 (0,0))::F) (L:=[(w8.heap.size,.cells C1 147 (0,0))]) rfl (.tmp 51) (.tmp 55) 94 rfl 147 (.agg (⟨0,0,0,zS,0⟩:Cg).cells) 40 96 Tryz.underlying94 jw (by kernel_rfl) (by omega) rfl (HROW.out _) (St.alloc_ H9b.out _) rfl S10.out ONE4.out 2 rfl _ HCG.out (by unfold maxLen;omega) (by omega) ?_;intro A5 c5 wa L5 hr5 h11;have HE:=za (HFIN.out _ _ _ _ hr5 (St.mid (A:=L5) (B:=[_,_,_]) h11));clear h11 hr5 H10 S10 H9b;go_wp2_with fail
       go_ret2
       exact HE.out
      ·have b1:((1:Int)==t.act)=false:=by simpa using hf
       have HFIN:=za (HC4.out.2 hf);have HE:=za (HFIN.out _ _ (St.mid (A:=[_]) (B:=[_,_,_]) H9.out));clear hf H9;go_wp2_with fail
       go_ret2
       exact HE.out
    ·have b2:(er != 0)=true:=by simpa using he
     have hc:=HC2.out;rw[if_neg he]at hc;have HE:=za (hc _ (H7.out.weaken (A:=[_,_,_])));clear hc he;go_wp2_with fail
     go_ret2
     exact HE.out
end
end Go.Proofs.YtnjnooeldkideaaGreatDoor
