/- boot: what is good. -/
import Derived.Test.YtnjnooeldkideaaGreatDoorOrL
import Derived.OwnWalk
namespace Go.Proofs.YtnjnooeldkideaaGreatDoor
set_option maxRecDepth 100000
set_option maxHeartbeats 8000000
set_option linter.unusedVariables false
set_option linter.unusedSimpArgs false
open Go.RowKit Go.Lib Go.Deep
section
variable {W w:World} {J:Nat→Option Obj} {t:Tb} {F:List (Nat × Obj)}
def goodT (t:Tb) (i:Int):List Cg × Int:=
 if zx t=true∧ixB i=true∧i=t.boo then
  (if (goodS (t.at_ i)).2=0 then (if t.flo < (goodS (t.at_ i)).1.ver then ([setC i (goodS (t.at_ i)).1,floC (goodS (t.at_ i)).1.ver],0) else ([setC i (goodS (t.at_ i)).1],0)) else ([],(goodS (t.at_ i)).2))
 else ([],101)
theorem zas {s:Slt} (ok:s.Ok):(goodS s).1.Ok:=by
 unfold goodS
 split
 ·exact⟨ok.dig,by show(-9223372036854775808:Int)≤3;omega,by show(3:Int)≤9223372036854775807;omega,by show(-9223372036854775808:Int)≤0;omega,by show(0:Int)≤9223372036854775807;omega,ok.ver0,ok.ver1,ok.sz0,ok.sz1⟩
 ·exact zS_ok
theorem Tb.at_ok (ok:t.Ok) (i:Int):(t.at_ i).Ok:=by unfold Tb.at_;split;exact ok.s0;exact ok.s1
theorem jw:(Tryz.prog.info? 147).map (fun i=>(i.zero,i.size,i.bytes))=some (some (.agg (⟨0,0,0,zS,0⟩:Cg).cells),40,96):=by rw[zcg_lit];kernel_rfl
theorem b_good (ok:t.Ok) (i:Int) (h:St W w J F):Calls Tryz.prog 72 #[t.val,.int .i64 i] w (CPost W J F (goodT t i)):=by
 have h1:=h.alloc (.cells t.cells 29);obtain⟨g,hg⟩:∃g,w.heap.size=g:=⟨_,rfl⟩;rw[hg]at h1
 have kG:=fun(v:World) (X:List (Nat × Obj)) (hv:St W v J X)=>slot_good (t.at_ i) (t.at_ok ok i) hv
 have gok:=zas (t.at_ok ok i);have i0:=zl ok.s0.dig;have i1:=zl ok.s1.dig
 have hno:¬(zx t=true∧ixB i=true∧i=t.boo)→∀v,St W v J F→CPost W J F (goodT t i) (.returned (.tuple #[.slice none 0 0,.int .i64 101])) v:=fun hc v hv=>by unfold goodT;rw[if_neg hc];exact CPost.nothing 101 hv
 have hyes:(zx t=true∧ixB i=true∧i=t.boo)→(if (goodS (t.at_ i)).2=0 then ((t.flo < (goodS (t.at_ i)).1.ver→∀v A c L,Row 147 40 (.slice A 2 c) 2 (cgs [setC i (goodS (t.at_ i)).1,floC (goodS (t.at_ i)).1.ver]) L→St W v J (L++F)→CPost W J F (goodT t i) (.returned (.tuple #[.slice A 2 c,.int .i64 0])) v)∧(¬t.flo < (goodS (t.at_ i)).1.ver→∀v b,St W v J ((b,.cells (setC i (goodS (t.at_ i)).1).cells 147 (0,0))::F)→CPost W J F (goodT t i) (.returned (.tuple #[.slice (some ⟨b,0,none⟩) 1 1,.int .i64 0])) v)) else (∀v,St W v J F→CPost W J F (goodT t i) (.returned (.tuple #[.slice none 0 0,.int .i64 (goodS (t.at_ i)).2])) v)):=fun hc=>by
  unfold goodT;rw[if_pos hc]
  split
  ·exact⟨fun hf v A c L hr hv=>by rw[if_pos hf];exact⟨A,c,L,rfl,hr,hv⟩,fun hf v b hv=>by rw[if_neg hf];exact CPost.one gok hv⟩
  ·exact fun v hv=>CPost.nothing _ hv
 have f0:=ok.f0;have f1:=ok.f1;obtain⟨V,hV⟩:∃V,zx t=V:=⟨_,rfl⟩
 have kL:=fun(v:World) (X:List (Nat × Obj)) (hv:St W v J X)=>zbg t ok hv
 rw[hV]at kL;have hsz:=Tb.size ok;have hti:=z7 ok;have hvi:=u6 ok;have htone:=t.one
 have tbv:=fun(v:World) (X:List (Nat × Obj)) (b:Nat) (hv:St W v J X) (hm:(b,Obj.cells t.cells 161 (0,0))∈X)=>hv.tb (T:=161) ok hm
 have tbb:=fun(v:World) (X:List (Nat × Obj)) (hv:St W v J X) (hm:(g,Obj.cells t.cells 29 (0,0))∈X)=>(hv.tb (T:=29) ok hm).all
 unfold Tb.val at *;obtain⟨C,hC⟩:∃C,t.cells=C:=⟨_,rfl⟩;rw[hC]at kL hsz hti hvi htone tbv tbb
 have hvfit:0+C.size≤(Tryz.zeroCells161).size:=by rw[hsz,zview];omega
 have hvmany:zg Tryz.zeroCells161 0 C.toList=C:=by rw[zd _ _ (by rw[Array.length_toList,hsz,zview]),Array.toArray_toList]
 have HCC:=za hC;have HVV:=za hV;have KL:=za kL;have HTI:=za hti;have HVI:=za hvi;have HTONE:=za htone;have TBV:=za tbv;have TBB:=za tbb;have HVFIT:=za hvfit;have HVMANY:=za hvmany;clear kL hti hvi htone tbv tbb hvfit hvmany hV hsz;generalize goodT t i=R at *;rw[HCC.out]at h1 ⊢;obtain⟨QX,hQX⟩:∃B,ixB i=B:=⟨_,rfl⟩;rw[HVV.out,hQX]at hno hyes;have HNO:=za hno;have HYES:=za hyes;have KG:=za kG;have GOK:=za gok;have HQX:=za hQX;have H1:=za h1;have I0:=za i0;have I1:=za i1;clear h h1 hno hyes kG gok hQX hC i0 i1 ok
 go_enter Tryz.func72,Tryz.ntmps72
 go_wp2_with (with_reducible refine zb 12 rfl (by kernel_rfl) 29 (.tmp 2) rfl g 0 rfl C _ (TBB.out _ _ H1.out (by simp)) Tryz.underlying29 rfl HTI.out ?_)
 refine(KL.out _ _ H1.out).mono ?_;rintro e w2 ⟨rfl,h2⟩;have h3:=h2.alloc (.cells Tryz.zeroCells161 161);have H3:=za h3;clear h2 h3
 go_wp2_with (with_reducible refine zc rfl 161 (.tmp 6) (.tmp 14) rfl (g:=w2.heap.size) (off:=0) C rfl rfl H3.out HVFIT.out HVI.out HTONE.out ?_;intro w4 h4;refine Hid.out ?_)
 refine za ?_;rw[HVMANY.out]at h4;obtain⟨gv,hgv⟩:∃x,w2.heap.size=x:=⟨_,rfl⟩;rw[hgv]at h4 ⊢;obtain⟨vs0,vs1,vact,vboo,vflo,vall,vst0,vst1⟩:=TBV.out _ _ gv h4 (List.mem_cons_self ..);rw[HCC.out]at vall;have H4:=za h4;have VS0:=za vs0;have VS1:=za vs1;have VALL:=za vall;clear h4 H3 vs0 vs1 vall hgv KL
 cases V with
 | false=>
  have HN:=za (HNO.out (fun x=>by cases x.1));go_wp2_with fail
  go_ret2
  exact HN.out _ (H4.out.weaken (A:=[_,_]))
 | true=>
  cases QX with
  | false=>
   have HN:=za (HNO.out (fun x=>by cases x.2.1))
   go_wp2_with (go_at_call 99;(with_reducible refine(b_has i _).mono ?_);rintro e wz ⟨rfl,rfl⟩;rw[HQX.out])
   go_ret2
   exact HN.out _ (H4.out.weaken (A:=[_,_]))
  | true=>
   by_cases hb:i=t.boo
   ·have HBO:=za hb
    have hi2:=(ul i).1 HQX.out;clear hb HNO
    rcases hi2 with rfl|rfl
    ·obtain⟨S,hS⟩:∃S,(t.at_ 0).cells=S:=⟨_,rfl⟩
     have VSS:Hid (w4.rangeAt gv 0 S.toList):=za (by rw[←hS];exact VS0.out);have HSI:Hid ((Tryz.prog.info? 26).map (·.size)=some S.size):=za (by rw[←hS];exact I0.out);have kg:=KG.out;unfold Slt.val at kg;rw[hS]at kg;have KG:=za kg;clear kg hS
     have b1:((0:Int) != t.boo)=false:=by rw[←HBO.out];rfl
     have HC:=za (HYES.out ⟨by trivial,by trivial,HBO.out⟩);have kg:=KG.out _ _ H4.out;obtain⟨GS,hGS⟩:∃GS,goodS (t.at_ 0)=GS:=⟨_,rfl⟩;obtain⟨gs,er⟩:=GS;have gok:=GOK.out;rw[hGS]at kg gok;have hc:=HC.out;rw[hGS]at hc;simp only at hc gok;unfold SPost at kg;simp only at kg
     have kE:=fun(v:World) (X:List (Nat × Obj)) (hv:St W v J X)=>b_set 0 gs gok hv
     have gsz:=gok.len;have gin:=zl gok.dig;have gon:=gs.one;have ok1:(setC 0 gs).tos.Ok:=gok;have hz1:=Cg.size ok1
     have gsv:=fun(v:World) (X:List (Nat × Obj)) (b:Nat) (hv:St W v J X) (hm:(b,Obj.cells gs.cells 26 (0,0))∈X)=>(And.intro (fun j u hj=>by rw[Nat.zero_add,hv.cell hm j];simpa using hj) ((hv.cell hm 2).trans (Slt.at2 gs)):v.rangeAt b 0 gs.cells.toList∧v.cell? ⟨b,2,none⟩=some (.int .u64 gs.ver))
     have hrow:=fun(b:Nat)=>jb (g:=b) (c:=setC 0 gs) ok1
     have hz4:=Cg.size (c:=floC gs.ver) zS_ok
     have hrow2:=fun(b:Nat)=>jb (g:=b) (c:=floC gs.ver) zS_ok
     have hv0:=gok.ver0;have hv1:=gok.ver1;unfold Slt.val Cg.val at kE;obtain⟨GC,hGC⟩:∃C,gs.cells=C:=⟨_,rfl⟩;obtain⟨C1,hC1⟩:∃C,(setC 0 gs).cells=C:=⟨_,rfl⟩;obtain⟨C4,hC4⟩:∃C,(floC gs.ver).cells=C:=⟨_,rfl⟩;have hbf:=qb gs.ver;rw[hGC]at kg kE gsz gin gon gsv;rw[hC1]at kE hz1 hrow hc;rw[hC4]at hz4 hrow2 hbf
     have gfit:0+GC.size≤zbj.size:=by rw[gsz];decide
     have gmany:zg zbj 0 GC.toList=GC:=by rw[zd _ _ (by rw[Array.length_toList,gsz];rfl),Array.toArray_toList]
     have hfold:Array.foldl (fun cs (x:Value × Nat)=>cs.setIfInBounds x.snd x.fst) zbi C1.zipIdx 0 40=C1:=yj C1 _ 40 hz1 rfl;have hfold4:Array.foldl (fun cs (x:Value × Nat)=>cs.setIfInBounds x.snd x.fst) zbi C4.zipIdx 0 40=C4:=yj C4 _ 40 hz4 rfl
     have hcg:cgs [setC 0 gs]++C4.toList=cgs [setC 0 gs,floC gs.ver]:=by rw[←hC4];simp[cgs]
     have one4:∀u∈C4.toList,u.oneCell'=true:=fun u hu=>List.all_eq_true.1 (by have h:=Cg.one (floC gs.ver);rw[hC4,←Array.all_toList]at h;exact h) u hu
     have src4:∀(v:World) (X:List (Nat × Obj)) (b:Nat),St W v J X→(b,Obj.cells C4 147 (0,0))∈X→Src v 40 (some ⟨b,0,none⟩) 1 C4.toList:=fun v X b hv hm=>by
      have h:=(hrow2 b).src (w:=v) (fun p hp=>by simp only[List.mem_singleton]at hp;subst hp;exact hv.own _ hm)
      rwa [show cgs [floC gs.ver]=C4.toList by rw[←hC4];simp[cgs]]at h
     have HC2:=za hc;have KG2:=za kg;have KE:=za kE;have GIN:=za gin;have GON:=za gon;have GSV:=za gsv;have GFIT:=za gfit;have GMANY:=za gmany;have HROW:=za hrow;have HBF:=za hbf;have HCG:=za hcg;have ONE4:=za one4;have SRC4:=za src4;clear hc kg kE gin gon gsv gfit gmany hrow hrow2 hbf hcg one4 src4 gsz hGC hC1 hC4 hGS gok ok1 KG GOK HYES HC
     go_wp2_with (first|(go_at_call 99;(with_reducible refine(b_has 0 _).mono ?_);rintro e wz ⟨rfl,rfl⟩;rw[show ixB 0=true from rfl])|(with_reducible refine zb 35 rfl (by kernel_rfl) 26 (.tmp 34) rfl gv 0 rfl S _ VSS.out Tryz.underlying26 rfl HSI.out ?_))
     refine KG2.out.mono ?_;rintro e w5 ⟨rfl,h5⟩;obtain⟨-,-,-,-,u74,-,-,-⟩:=TBV.out _ _ gv h5 (List.mem_cons_self ..);have h6:=h5.alloc (.cells zbj 26);have H6:=za h6;clear h5 h6 KG2 vact vboo vflo vst0 vst1
     go_wp2_with (with_reducible refine zc rfl 26 (.tmp 8) (.tmp 37) rfl (g:=w5.heap.size) (off:=0) GC rfl rfl H6.out GFIT.out GIN.out GON.out ?_;intro w6 h7;refine Hid.out ?_)
     refine za ?_;rw[GMANY.out]at h7;obtain⟨g8,hg8⟩:∃x,w5.heap.size=x:=⟨_,rfl⟩;rw[hg8]at h7 ⊢;have H7:=za h7;clear h7 H6 hg8 u74
     by_cases he:er=0
     ·subst he
      have hc:=HC2.out;rw[if_pos rfl]at hc;obtain⟨r8,v8⟩:=GSV.out _ _ g8 H7.out (List.mem_cons_self ..);have R8:=za r8;have HC3:=za hc;have KE7:=za (KE.out _ _ H7.out);clear hc HC2 v8 r8 KE
      go_wp2_with (with_reducible refine zb 43 rfl (by kernel_rfl) 26 (.tmp 8) rfl g8 0 rfl GC _ R8.out Tryz.underlying26 rfl GIN.out ?_)
      refine KE7.out.mono ?_;rintro e w7 ⟨rfl,h8⟩;have h9:=h8.alloc (.cells C1 147);obtain⟨-,-,-,-,u74,-,-,-⟩:=TBV.out _ _ gv h9 (by simp);obtain⟨-,v8⟩:=GSV.out _ _ g8 h9 (by simp);have H9:=za h9;clear h8 h9 KE7 R8
      by_cases hf:t.flo < gs.ver
      ·have HFIN:=za (HC3.out.1 hf)
       have h10:=H9.out.alloc (.cells C4 147);have s10:=SRC4.out _ _ _ h10 (List.mem_cons_self ..);rw[show(w7.alloc (Obj.cells C1 147)).heap.size=w7.heap.size+1 by simp]at s10;have H10:=za h10;have S10:=za s10;clear h10 s10
       go_wp2_with (first|(with_reducible refine zh rfl 147 _ rfl _ ?_ (HBF.out _) ?_;·go_simp)|(at_builtin;refine Hid.out ?_))
       refine za ?_;refine yn (F:=(g8,.cells GC 26 (0,0))::(gv,.cells C 161 (0,0))::(g,.cells C 29 (0,0))::F) (L:=[(w7.heap.size,.cells C1 147 (0,0))]) rfl (.tmp 52) (.tmp 56) 94 rfl 147 (.agg (⟨0,0,0,zS,0⟩:Cg).cells) 40 96 Tryz.underlying94 jw (by kernel_rfl) (by omega) rfl (HROW.out _) (St.alloc_ H9.out _) rfl S10.out ONE4.out 2 rfl _ HCG.out (by unfold maxLen;omega) (by omega) ?_;intro A5 c5 w8 L5 hr5 h11;have HE:=za (HFIN.out _ _ _ _ hr5 (St.mid (A:=L5) (B:=[_,_,_]) h11));clear h11 hr5 H10 S10 H9 u74 v8;go_wp2_with fail
       go_ret2
       exact HE.out
      ·have HFIN:=za (HC3.out.2 (by omega))
       have hf2:gs.ver≤t.flo:=by omega
       have HE:=za (HFIN.out _ _ (St.mid (A:=[_]) (B:=[_,_,_]) H9.out));clear hf H9;go_wp2_with fail
       go_ret2
       exact HE.out
     ·have b2:(er != 0)=true:=by simpa using he
      have hc:=HC2.out;rw[if_neg he]at hc;have HE:=za (hc _ (H7.out.weaken (A:=[_,_,_])));clear hc he;go_wp2_with fail
      go_ret2
      exact HE.out
    ·obtain⟨S,hS⟩:∃S,(t.at_ 1).cells=S:=⟨_,rfl⟩
     have VSS:Hid (w4.rangeAt gv 36 S.toList):=za (by rw[←hS];exact VS1.out);have HSI:Hid ((Tryz.prog.info? 26).map (·.size)=some S.size):=za (by rw[←hS];exact I1.out);have kg:=KG.out;unfold Slt.val at kg;rw[hS]at kg;have KG:=za kg;clear kg hS
     have b1:((1:Int) != t.boo)=false:=by rw[←HBO.out];rfl
     have HC:=za (HYES.out ⟨by trivial,by trivial,HBO.out⟩);have kg:=KG.out _ _ H4.out;obtain⟨GS,hGS⟩:∃GS,goodS (t.at_ 1)=GS:=⟨_,rfl⟩;obtain⟨gs,er⟩:=GS;have gok:=GOK.out;rw[hGS]at kg gok;have hc:=HC.out;rw[hGS]at hc;simp only at hc gok;unfold SPost at kg;simp only at kg
     have kE:=fun(v:World) (X:List (Nat × Obj)) (hv:St W v J X)=>b_set 1 gs gok hv
     have gsz:=gok.len;have gin:=zl gok.dig;have gon:=gs.one;have ok1:(setC 1 gs).tos.Ok:=gok;have hz1:=Cg.size ok1
     have gsv:=fun(v:World) (X:List (Nat × Obj)) (b:Nat) (hv:St W v J X) (hm:(b,Obj.cells gs.cells 26 (0,0))∈X)=>(And.intro (fun j u hj=>by rw[Nat.zero_add,hv.cell hm j];simpa using hj) ((hv.cell hm 2).trans (Slt.at2 gs)):v.rangeAt b 0 gs.cells.toList∧v.cell? ⟨b,2,none⟩=some (.int .u64 gs.ver))
     have hrow:=fun(b:Nat)=>jb (g:=b) (c:=setC 1 gs) ok1
     have hz4:=Cg.size (c:=floC gs.ver) zS_ok
     have hrow2:=fun(b:Nat)=>jb (g:=b) (c:=floC gs.ver) zS_ok
     have hv0:=gok.ver0;have hv1:=gok.ver1;unfold Slt.val Cg.val at kE;obtain⟨GC,hGC⟩:∃C,gs.cells=C:=⟨_,rfl⟩;obtain⟨C1,hC1⟩:∃C,(setC 1 gs).cells=C:=⟨_,rfl⟩;obtain⟨C4,hC4⟩:∃C,(floC gs.ver).cells=C:=⟨_,rfl⟩;have hbf:=qb gs.ver;rw[hGC]at kg kE gsz gin gon gsv;rw[hC1]at kE hz1 hrow hc;rw[hC4]at hz4 hrow2 hbf
     have gfit:0+GC.size≤zbj.size:=by rw[gsz];decide
     have gmany:zg zbj 0 GC.toList=GC:=by rw[zd _ _ (by rw[Array.length_toList,gsz];rfl),Array.toArray_toList]
     have hfold:Array.foldl (fun cs (x:Value × Nat)=>cs.setIfInBounds x.snd x.fst) zbi C1.zipIdx 0 40=C1:=yj C1 _ 40 hz1 rfl;have hfold4:Array.foldl (fun cs (x:Value × Nat)=>cs.setIfInBounds x.snd x.fst) zbi C4.zipIdx 0 40=C4:=yj C4 _ 40 hz4 rfl
     have hcg:cgs [setC 1 gs]++C4.toList=cgs [setC 1 gs,floC gs.ver]:=by rw[←hC4];simp[cgs]
     have one4:∀u∈C4.toList,u.oneCell'=true:=fun u hu=>List.all_eq_true.1 (by have h:=Cg.one (floC gs.ver);rw[hC4,←Array.all_toList]at h;exact h) u hu
     have src4:∀(v:World) (X:List (Nat × Obj)) (b:Nat),St W v J X→(b,Obj.cells C4 147 (0,0))∈X→Src v 40 (some ⟨b,0,none⟩) 1 C4.toList:=fun v X b hv hm=>by
      have h:=(hrow2 b).src (w:=v) (fun p hp=>by simp only[List.mem_singleton]at hp;subst hp;exact hv.own _ hm)
      rwa [show cgs [floC gs.ver]=C4.toList by rw[←hC4];simp[cgs]]at h
     have HC2:=za hc;have KG2:=za kg;have KE:=za kE;have GIN:=za gin;have GON:=za gon;have GSV:=za gsv;have GFIT:=za gfit;have GMANY:=za gmany;have HROW:=za hrow;have HBF:=za hbf;have HCG:=za hcg;have ONE4:=za one4;have SRC4:=za src4;clear hc kg kE gin gon gsv gfit gmany hrow hrow2 hbf hcg one4 src4 gsz hGC hC1 hC4 hGS gok ok1 KG GOK HYES HC
     go_wp2_with (first|(go_at_call 99;(with_reducible refine(b_has 1 _).mono ?_);rintro e wz ⟨rfl,rfl⟩;rw[show ixB 1=true from rfl])|(with_reducible refine zb 35 rfl (by kernel_rfl) 26 (.tmp 34) rfl gv 36 rfl S _ VSS.out Tryz.underlying26 rfl HSI.out ?_))
     refine KG2.out.mono ?_;rintro e w5 ⟨rfl,h5⟩;obtain⟨-,-,-,-,u74,-,-,-⟩:=TBV.out _ _ gv h5 (List.mem_cons_self ..);have h6:=h5.alloc (.cells zbj 26);have H6:=za h6;clear h5 h6 KG2 vact vboo vflo vst0 vst1
     go_wp2_with (with_reducible refine zc rfl 26 (.tmp 8) (.tmp 37) rfl (g:=w5.heap.size) (off:=0) GC rfl rfl H6.out GFIT.out GIN.out GON.out ?_;intro w6 h7;refine Hid.out ?_)
     refine za ?_;rw[GMANY.out]at h7;obtain⟨g8,hg8⟩:∃x,w5.heap.size=x:=⟨_,rfl⟩;rw[hg8]at h7 ⊢;have H7:=za h7;clear h7 H6 hg8 u74
     by_cases he:er=0
     ·subst he
      have hc:=HC2.out;rw[if_pos rfl]at hc;obtain⟨r8,v8⟩:=GSV.out _ _ g8 H7.out (List.mem_cons_self ..);have R8:=za r8;have HC3:=za hc;have KE7:=za (KE.out _ _ H7.out);clear hc HC2 v8 r8 KE
      go_wp2_with (with_reducible refine zb 43 rfl (by kernel_rfl) 26 (.tmp 8) rfl g8 0 rfl GC _ R8.out Tryz.underlying26 rfl GIN.out ?_)
      refine KE7.out.mono ?_;rintro e w7 ⟨rfl,h8⟩;have h9:=h8.alloc (.cells C1 147);obtain⟨-,-,-,-,u74,-,-,-⟩:=TBV.out _ _ gv h9 (by simp);obtain⟨-,v8⟩:=GSV.out _ _ g8 h9 (by simp);have H9:=za h9;clear h8 h9 KE7 R8
      by_cases hf:t.flo < gs.ver
      ·have HFIN:=za (HC3.out.1 hf)
       have h10:=H9.out.alloc (.cells C4 147);have s10:=SRC4.out _ _ _ h10 (List.mem_cons_self ..);rw[show(w7.alloc (Obj.cells C1 147)).heap.size=w7.heap.size+1 by simp]at s10;have H10:=za h10;have S10:=za s10;clear h10 s10
       go_wp2_with (first|(with_reducible refine zh rfl 147 _ rfl _ ?_ (HBF.out _) ?_;·go_simp)|(at_builtin;refine Hid.out ?_))
       refine za ?_;refine yn (F:=(g8,.cells GC 26 (0,0))::(gv,.cells C 161 (0,0))::(g,.cells C 29 (0,0))::F) (L:=[(w7.heap.size,.cells C1 147 (0,0))]) rfl (.tmp 52) (.tmp 56) 94 rfl 147 (.agg (⟨0,0,0,zS,0⟩:Cg).cells) 40 96 Tryz.underlying94 jw (by kernel_rfl) (by omega) rfl (HROW.out _) (St.alloc_ H9.out _) rfl S10.out ONE4.out 2 rfl _ HCG.out (by unfold maxLen;omega) (by omega) ?_;intro A5 c5 w8 L5 hr5 h11;have HE:=za (HFIN.out _ _ _ _ hr5 (St.mid (A:=L5) (B:=[_,_,_]) h11));clear h11 hr5 H10 S10 H9 u74 v8;go_wp2_with fail
       go_ret2
       exact HE.out
      ·have HFIN:=za (HC3.out.2 (by omega))
       have hf2:gs.ver≤t.flo:=by omega
       have HE:=za (HFIN.out _ _ (St.mid (A:=[_]) (B:=[_,_,_]) H9.out));clear hf H9;go_wp2_with fail
       go_ret2
       exact HE.out
     ·have b2:(er != 0)=true:=by simpa using he
      have hc:=HC2.out;rw[if_neg he]at hc;have HE:=za (hc _ (H7.out.weaken (A:=[_,_,_])));clear hc he;go_wp2_with fail
      go_ret2
      exact HE.out
   ·have b1:(i != t.boo)=true:=by simpa using hb
    have HN:=za (HNO.out (fun x=>hb x.2.2));clear hb
    go_wp2_with (go_at_call 99;(with_reducible refine(b_has i _).mono ?_);rintro e wz ⟨rfl,rfl⟩;rw[HQX.out])
    go_ret2
    exact HN.out _ (H4.out.weaken (A:=[_,_]))
end
end Go.Proofs.YtnjnooeldkideaaGreatDoor
