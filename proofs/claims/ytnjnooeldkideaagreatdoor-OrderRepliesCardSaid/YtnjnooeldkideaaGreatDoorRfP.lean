/- boot: the document's answers: what is booted. -/
import Derived.Test.YtnjnooeldkideaaGreatDoorRfG
import Derived.Test.YtnjnooeldkideaaGreatDoorOrN
import Derived.OwnWalk
import Derived.Deep.DeepCutAuto
namespace Go.Proofs.YtnjnooeldkideaaGreatDoor
set_option maxRecDepth 100000
set_option maxHeartbeats 8000000
set_option linter.unusedVariables false
set_option linter.unusedSimpArgs false
open Go.RowKit Go.Lib Go.Deep
section
variable {W w:World} {J:Nat→Option Obj} {t:Tb} {F:List (Nat × Obj)}
theorem y8 {ops:Array Oper} {rest:List Oper} {o:Oper} {a:Act} {Q:Exit→Act→World→Prop} (hgd:o.guard=none) (s x:Operand)
  (ho:o.op=.call { callee:=.builtin .append,args:=#[s,x],argTypes:=#[94,94] }) (c:Cg) (okc:c.tos.Ok) {X:Array Value} (hX:c.cells=X)
  {L:List (Nat × Obj)} {v:Value} {n b:Nat} {cs:List Cg} (hs:a.eval s=v) (hrow:Row 147 40 v n (cgs cs) L) (hst:St W w J ((b,.cells X 147 (0,0))::(L++F))) (hx:a.eval x=.slice (some ⟨b,0,none⟩) 1 1)
  (k:Nat) (hk:n+1=k) (h8:k≤8)
  (h:∀A' c' w' L',Row 147 40 (.slice A' k c') k (cgs (cs++[c])) L'→St W w' J (L'++((b,.cells X 147 (0,0))::F))→wpList Tryz.prog ops Q rest (a.put o.dst (.slice A' k c')) w'):wpList Tryz.prog ops Q (o::rest) a w:=by
 subst hX
 have hsrc:Src w 40 (some ⟨b,0,none⟩) 1 c.cells.toList:=by
  have q:=(jb (g:=b) okc).src (w:=w) (fun p hp=>by simp only[List.mem_singleton]at hp;subst hp;exact hst.own _ (List.mem_cons_self ..))
  rwa [show cgs [c]=c.cells.toList by simp[cgs]]at q
 have one:∀u∈c.cells.toList,u.oneCell'=true:=fun u hu=>List.all_eq_true.1 (by have h:=Cg.one c;rw[←Array.all_toList]at h;exact h) u hu
 exact yn (F:=(b,.cells c.cells 147 (0,0))::F) hgd s x 94 ho 147 (.agg (⟨0,0,0,zS,0⟩:Cg).cells) 40 96 Tryz.underlying94 jw (by kernel_rfl) (by omega) hs hrow (hst.perm (ze (fun i a=>by simp only[List.count_append,List.count_cons,List.count_nil];try omega))) hx hsrc one k hk (cgs (cs++[c])) (by simp[cgs]) (by unfold maxLen;omega) (by omega) h
theorem ref12_plan (ok:t.Ok) (h:St W w J F):Calls Tryz.prog 49 #[t.val] w (PPost W J F (planT t)):=by
 have h1:=h.alloc (.cells t.cells 29);obtain⟨g,hg⟩:∃g,w.heap.size=g:=⟨_,rfl⟩;rw[hg]at h1
 have kP:=fun(v:World) (X:List (Nat × Obj)) (hv:St W v J X)=>ref_pick ok hv
 have fx:=fun(v:World) (X:List (Nat × Obj)) (hv:St W v J X) (hx:(g,Obj.cells t.cells 29 (0,0))∈X)=>hv.tb ok hx
 have ti:=z7 ok
 have cp:∀p l,planT t=(p,l)→∀v A n c L D,n=l.length→Row 147 40 (.slice A n c) n (cgs l) L→St W v J (L++(D++F))→PPost W J F (planT t) (.returned (.tuple #[.int .i64 p,.slice A n c])) v:=fun p l h v A n c L D hn hr hv=>by
  subst hn;rw[h];exact⟨A,c,L,rfl,hr,hv.keep D (fun i a=>by simp only[List.count_append,List.count_cons,List.count_nil];try omega)⟩
 have hno:¬(zx t=true∧pickT t≠-1)→planT t=(-1,[]):=fun h=>by unfold planT;rw[if_neg h]
 have hyes:∀p,zx t=true→pickT t=p→p≠-1→planT t=(p,(if p=t.act then [] else (if ((t.at_ t.act).st==2)=true then [setC t.act (badS (t.at_ t.act)).1] else [])++[actC p])++((if ((t.at_ p).st==2)=true then [setC p (tryS (t.at_ p)).1] else [])++[booC p])):=fun p h1 h2 h3=>by unfold planT;rw[if_pos ⟨h1,by rw[h2];exact h3⟩,h2];rfl
 have ok7:∀s:Slt,rightS s=true→s.st=2→(badS s).2=0:=fun s h1 h2=>by unfold badS;rw[if_pos (by rw[h1];simp[fullS,h2])]
 have rs:zx t=true→rightS t.s0=true∧rightS t.s1=true:=fun hr=>by
  unfold zx at hr;simp only[Bool.and_eq_true]at hr;exact⟨hr.1,hr.2.1⟩
 have hpr:=u3 (t:=t);obtain⟨Z,hZ⟩:∃y,(if zx t=true then pickT t else -1)=y:=⟨_,rfl⟩;have HZ:=za hZ;rw[hZ]at kP
 have hz3:Z=-1∨Z=0∨Z=1:=by
  rw[←hZ]
  split
  ·rename_i hr
   exact hpr hr
  ·exact .inl rfl
 generalize planT t=R at *;unfold Tb.val at *;obtain⟨C,hC⟩:∃C,t.cells=C:=⟨_,rfl⟩
 have FALL:Hid (∀v X,St W v J X→(g,Obj.cells C 29 (0,0))∈X→v.rangeAt g 0 C.toList∧TbAt v g t):=za fun v X hv hx=>by
  rw[←hC]at hx;have q:=fx v X hv hx;rw[←hC];exact⟨q.all,q⟩
 rw[hC]at h1 kP ti ⊢;have H1:=za h1;have KP:=za kP;have TI:=za ti;have CP:=za cp;have NO:=za hno;have YES:=za hyes;have OK:=za ok;have OK7:=za ok7;have RS:=za rs;have HPR:=za hpr;have HZ3:=za hz3;clear h1 kP fx ti cp hno hyes ok7 rs hpr hC hZ h ok hz3;have QA:=za (FALL.out _ _ H1.out (by simp)).1
 go_enter Tryz.func49,Tryz.ntmps49
 go_wp2_with (with_reducible refine zb 10 rfl (by kernel_rfl) 29 (.tmp 1) rfl g 0 rfl C _ QA.out Tryz.underlying29 rfl TI.out ?_)
 refine(KP.out _ _ H1.out).mono ?_;rintro e w2 ⟨rfl,h2⟩;obtain⟨b0,hb0⟩:∃y,w2.heap.size=y:=⟨_,rfl⟩;have h3:=h2.alloc (.cells #[] 147);rw[hb0]at h3;have H3:=za h3;have HB0:=za hb0;clear h2 H1 QA h3 hb0
 rcases HZ3.out with hz|hz|hz
 ·subst hz
  have HE:=za (CP.out (-1) [] (NO.out fun h=>by have:=HZ.out;rw[if_pos h.1]at this;exact h.2 this) _ _ 0 0 _ [_] rfl (Row.empty 147 40 b0) H3.out);go_wp2_with fail
  go_ret2
  rw[HB0.out];exact HE.out
 ·have hrt : zx t = true := by
   by_cases hr:zx t=true
   ·exact hr
   ·have:=HZ.out
    rw[if_neg hr]at this
    omega
  have hpk:pickT t=0:=by
   have:=HZ.out;rw[if_pos hrt]at this
   omega
  have HY:=za (YES.out 0 hrt hpk (by decide));have RSS:=za (RS.out hrt);have hact:=jp hrt;subst hz;clear hrt hpk;obtain⟨ac,hac⟩:∃y,t.act=y:=⟨_,rfl⟩;have HAC:=za hac;have ca:=(FALL.out _ _ H3.out (by simp)).2.act;rw[hac]at ca hact HY;clear hac;obtain⟨l1,hl1⟩:∃y,(if (0:Int)=ac then [] else (if ((t.at_ ac).st==2)=true then [setC ac (badS (t.at_ ac)).1] else [])++[actC 0])=y:=⟨_,rfl⟩;rw[hl1]at HY
  have len1:l1.length≤2:=by rw[←hl1];split<;>simp;split<;>simp
  obtain⟨n1,hn1⟩:∃y,l1.length=y:=⟨_,rfl⟩;rw[hn1]at len1;have HN1:=za hn1;have HL1:=za hl1;clear hn1 hl1;obtain⟨sto,hsto⟩:∃y,t.s1.st=y:=⟨_,rfl⟩;obtain⟨stp,hstp⟩:∃y,t.s0.st=y:=⟨_,rfl⟩;have HSO:=za hsto;have HSP:=za hstp;clear hsto hstp
  go_upto_if 20 with fail
  rw[HB0.out]
  go_cut [5] (fun s5 wx=>∃A c L D,s5=.slice A n1 c∧Row 147 40 (.slice A n1 c) n1 (cgs l1) L∧St W wx J (L++(D++((g,.cells C 29 (0,0))::F))))
  case first=>
   rcases hact with rfl|rfl
   ·have bb:((0:Int) != 0)=false:=rfl
    have e1:l1=[]:=by rw[←HL1.out,if_pos rfl]
    have e2:n1=0:=by rw[←HN1.out,e1];rfl
    subst e1;subst e2;go_wp2_with fail;go_meet;exact⟨_,_,_,[],rfl,Row.empty 147 40 b0,H3.out⟩
   ·have bb:((0:Int) != 1)=true:=rfl
    have sok:=OK.out.s1
    have kg:=fun(v:World) (X:List (Nat × Obj)) (hv:St W v J X)=>zbc t.s1 sok hv
    have gok:(badS t.s1).1.Ok:=un;have si:=yg sok;have gi:=yg gok;have go1:=(badS t.s1).1.one;have gsz:=Slt.size gok.dig;unfold SPost at kg;obtain⟨gs,hgs⟩:∃y,(badS t.s1).1=y:=⟨_,rfl⟩;obtain⟨er,her⟩:∃y,(badS t.s1).2=y:=⟨_,rfl⟩;have HGS:=za hgs;have HER:=za her;rw[hgs,her]at kg;rw[hgs]at gok gi go1 gsz;clear hgs her
    have q2:∀(v:World) (X:List (Nat × Obj)) (b:Nat),St W v J X→(b,Obj.cells gs.cells 26 (0,0))∈X→v.rangeAt b 0 gs.cells.toList:=fun v X b hv hm j u hj=>by rw[Nat.zero_add,hv.cell hm j];simpa using hj
    have bs:=yx 1 gs gok;have c1ok:(setC 1 gs).tos.Ok:=gok;have b1:=yy (setC 1 gs) c1ok;unfold Slt.val at kg;have r5:=(FALL.out _ _ H3.out (by simp)).2.s1;obtain⟨SC,hSC⟩:∃y,t.s1.cells=y:=⟨_,rfl⟩;rw[hSC]at kg si r5;obtain⟨GC,hGC⟩:∃y,gs.cells=y:=⟨_,rfl⟩;rw[hGC]at kg gi go1 gsz q2 bs;obtain⟨C1,hC1⟩:∃y,(setC 1 gs).cells=y:=⟨_,rfl⟩;rw[hC1]at bs b1
    have gfit:0+GC.size≤zbj.size:=by rw[gsz];decide
    have gmany:zg zbj 0 GC.toList=GC:=by rw[zd _ _ (by rw[Array.length_toList,gsz];rfl),Array.toArray_toList]
    have KG:=za kg;have SI:=za si;have GI:=za gi;have GO:=za go1;have GF:=za gfit;have GM:=za gmany;have Q2:=za q2;have BS:=za bs;have B1:=za b1;have R5:=za r5;have HC1:=za hC1;have C1OK:=za c1ok;clear kg si gi go1 gfit gmany q2 bs b1 r5 gsz sok c1ok gok hSC hGC hC1
    go_wp2_with (with_reducible refine zb 26 rfl (by kernel_rfl) 26 (.tmp 25) rfl g 36 rfl SC _ R5.out Tryz.underlying26 rfl SI.out ?_)
    refine(KG.out _ _ H3.out).mono ?_;rintro e wa ⟨rfl,ha⟩;have HA:=za (ha.alloc (.cells zbj 26));clear ha H3 R5 KG
    go_wp2_with (with_reducible refine zc rfl 26 (.tmp 6) (.tmp 28) rfl (g:=wa.heap.size) (off:=0) GC rfl rfl HA.out GF.out GI.out GO.out ?_;intro wb hb;refine Hid.out ?_)
    refine za ?_;rw[GM.out]at hb;obtain⟨g6,hblk⟩:∃y,wa.heap.size=y:=⟨_,rfl⟩;rw[hblk]at hb ⊢;have HB:=za hb;clear hb HA hblk;have ca7:=(FALL.out _ _ HB.out (by simp)).2.act;have cs7:=(FALL.out _ _ HB.out (by simp)).2.st1;rw[HAC.out]at ca7;rw[HSO.out]at cs7;have bfa:=ja 0;have okA:(actC 0).tos.Ok:=zS_ok;have ba2:=yy (actC 0) okA;obtain⟨CA,hCA⟩:∃y,(actC 0).cells=y:=⟨_,rfl⟩;rw[hCA]at bfa ba2;have BA:=za bfa;have BA2:=za ba2;have HCA:=za hCA;clear bfa ba2 hCA
    by_cases h2:sto=2
    ·have he:er=0:=by rw[←HER.out];exact OK7.out _ RSS.out.2 (HSO.out.trans h2)
     have b2:(sto==2)=true:=by simpa using h2
     have HL:=za (show[setC 1 gs,actC 0]=l1 by rw[←HL1.out,if_neg (by decide),show t.at_ 1=t.s1 from rfl,HSO.out,if_pos b2,HGS.out];rfl);subst he;clear h2;have R6:=za (Q2.out _ _ g6 HB.out (List.mem_cons_self ..))
     go_wp2_with (first|(with_reducible refine zb 44 rfl (by kernel_rfl) 26 (.tmp 6) rfl g6 0 rfl GC _ R6.out Tryz.underlying26 rfl GI.out ?_)|(with_reducible refine zh rfl 147 _ rfl _ ?_ (BS.out _) ?_;·go_simp)|(refine zw rfl 94 1 _ rfl _ (by kernel_rfl) B1.out HB.out ?_;intro bm wn hn;refine Hid.out ?_))
     refine za ?_;have hn2:=hn.perm (L':=(bm,.cells C1 147 (0,0))::([(b0,.cells #[] 147 (0,0))]++((g6,.cells GC 26 (0,0))::(g,.cells C 29 (0,0))::F))) (ze (fun i a=>by simp only[List.count_append,List.count_cons,List.count_nil];try omega));clear hn;refine y8 (cs:=[]) rfl (.tmp 41) (.tmp 46) rfl (setC 1 gs) C1OK.out HC1.out rfl (Row.empty 147 40 b0) hn2 rfl 1 rfl (by omega) ?_;intro A5 c5 w5 L5 hr5 h5;clear hn2;have HR5:=za hr5;have H5:=za h5;clear hr5 h5 HB R6 ca7 cs7
     go_wp2_with (first|(with_reducible refine zh rfl 147 _ rfl _ ?_ (BA.out _) ?_;·go_simp)|(refine zw rfl 94 1 _ rfl _ (by kernel_rfl) BA2.out H5.out ?_;intro bn wn hn;refine Hid.out ?_))
     refine za ?_;have hn2:=hn.perm (L':=(bn,.cells CA 147 (0,0))::(L5++((bm,.cells C1 147 (0,0))::(g6,.cells GC 26 (0,0))::(g,.cells C 29 (0,0))::F))) (ze (fun i a=>by simp only[List.count_append,List.count_cons,List.count_nil];try omega));clear hn;refine y8 rfl (.tmp 48) (.tmp 51) rfl (actC 0) okA HCA.out rfl HR5.out hn2 rfl 2 rfl (by omega) ?_;intro A6 c6 w6 L6 hr6 h6;clear hn2;have HR6:=za hr6;have H6:=za h6;clear hr6 h6 H5 HR5
     have e2:n1=2:=by rw[←HN1.out,←HL.out];rfl
     subst e2;go_wp2_with fail;go_meet;exact⟨A6,c6,L6,[_,_,_],rfl,by rw[←HL.out];exact HR6.out,H6.out⟩
    ·have b2:(sto==2)=false:=by simpa using h2
     have HL:=za (show[actC 0]=l1 by rw[←HL1.out,if_neg (by decide),show t.at_ 1=t.s1 from rfl,HSO.out,if_neg (by rw[b2];decide)];rfl);clear h2
     go_wp2_with (first|(with_reducible refine zh rfl 147 _ rfl _ ?_ (BA.out _) ?_;·go_simp)|(refine zw rfl 94 1 _ rfl _ (by kernel_rfl) BA2.out HB.out ?_;intro bm wn hn;refine Hid.out ?_))
     refine za ?_;have hn2:=hn.perm (L':=(bm,.cells CA 147 (0,0))::([(b0,.cells #[] 147 (0,0))]++((g6,.cells GC 26 (0,0))::(g,.cells C 29 (0,0))::F))) (ze (fun i a=>by simp only[List.count_append,List.count_cons,List.count_nil];try omega));clear hn;refine y8 (cs:=[]) rfl (.tmp 48) (.tmp 51) rfl (actC 0) okA HCA.out rfl (Row.empty 147 40 b0) hn2 rfl 1 rfl (by omega) ?_;intro A6 c6 w6 L6 hr6 h6;clear hn2;have HR6:=za hr6;have H6:=za h6;clear hr6 h6 HB ca7 cs7
     have e2:n1=1:=by rw[←HN1.out,←HL.out];rfl
     subst e2;go_wp2_with fail;go_meet;exact⟨A6,c6,L6,[_,_],rfl,by rw[←HL.out];exact HR6.out,H6.out⟩
  case rest=>
   obtain⟨A,c,L,D,rfl,hr,hx⟩:=hcut;have HX:=za hx;have HR:=za hr;have cs:=(FALL.out _ _ hx (by simp)).2.st0;rw[HSP.out]at cs;clear hx hr H3 ca;have bfb:=jg 0;have okB:(booC 0).tos.Ok:=zS_ok;have bb2:=yy (booC 0) okB;obtain⟨CB,hCB⟩:∃y,(booC 0).cells=y:=⟨_,rfl⟩;rw[hCB]at bfb bb2;have BBO:=za bfb;have BB2:=za bb2;have HCB:=za hCB;clear bfb bb2 hCB
   by_cases h2:stp=2
   ·have b2:(stp==2)=true:=by simpa using h2
    have HST:=za (show((t.at_ 0).st==2)=true by rw[show t.at_ 0=t.s0 from rfl,HSP.out];exact b2);clear h2;have sok:=OK.out.s0
    have kg:=fun(v:World) (X:List (Nat × Obj)) (hv:St W v J X)=>ref_try t.s0 sok hv
    have gok:(tryS t.s0).1.Ok:=zaa sok;have si:=yg sok;have gi:=yg gok;have go1:=(tryS t.s0).1.one;have gsz:=Slt.size gok.dig;unfold SPost at kg;obtain⟨gs,hgs⟩:∃y,(tryS t.s0).1=y:=⟨_,rfl⟩;obtain⟨er,her⟩:∃y,(tryS t.s0).2=y:=⟨_,rfl⟩;have HGS:=za hgs;have HER:=za her;rw[hgs,her]at kg;rw[hgs]at gok gi go1 gsz;clear hgs her
    have q2:∀(v:World) (X:List (Nat × Obj)) (b:Nat),St W v J X→(b,Obj.cells gs.cells 26 (0,0))∈X→v.rangeAt b 0 gs.cells.toList:=fun v X b hv hm j u hj=>by rw[Nat.zero_add,hv.cell hm j];simpa using hj
    have bs:=yx 0 gs gok;have c1ok:(setC 0 gs).tos.Ok:=gok;have b1:=yy (setC 0 gs) c1ok;unfold Slt.val at kg;have r5:=(FALL.out _ _ HX.out (by simp)).2.s0;obtain⟨SC,hSC⟩:∃y,t.s0.cells=y:=⟨_,rfl⟩;rw[hSC]at kg si r5;obtain⟨GC,hGC⟩:∃y,gs.cells=y:=⟨_,rfl⟩;rw[hGC]at kg gi go1 gsz q2 bs;obtain⟨C1,hC1⟩:∃y,(setC 0 gs).cells=y:=⟨_,rfl⟩;rw[hC1]at bs b1
    have gfit:0+GC.size≤zbj.size:=by rw[gsz];decide
    have gmany:zg zbj 0 GC.toList=GC:=by rw[zd _ _ (by rw[Array.length_toList,gsz];rfl),Array.toArray_toList]
    have KG:=za kg;have SI:=za si;have GI:=za gi;have GO:=za go1;have GF:=za gfit;have GM:=za gmany;have Q2:=za q2;have BS:=za bs;have B1:=za b1;have R5:=za r5;have HC1:=za hC1;have C1OK:=za c1ok;clear kg si gi go1 gfit gmany q2 bs b1 r5 gsz sok c1ok gok hSC hGC hC1
    go_wp2_with (with_reducible refine zb 63 rfl (by kernel_rfl) 26 (.tmp 62) rfl g 0 rfl SC _ R5.out Tryz.underlying26 rfl SI.out ?_)
    refine(KG.out _ _ HX.out).mono ?_;rintro e wa ⟨rfl,ha⟩;have HA:=za (ha.alloc (.cells zbj 26));clear ha HX R5 KG
    go_wp2_with (with_reducible refine zc rfl 26 (.tmp 8) (.tmp 65) rfl (g:=wa.heap.size) (off:=0) GC rfl rfl HA.out GF.out GI.out GO.out ?_;intro wb hb;refine Hid.out ?_)
    refine za ?_;rw[GM.out]at hb;obtain⟨g8,hblk⟩:∃y,wa.heap.size=y:=⟨_,rfl⟩;rw[hblk]at hb ⊢;have HB:=za hb;clear hb HA hblk;have R6:=za (Q2.out _ _ g8 HB.out (List.mem_cons_self ..));clear cs
    go_wp2_with (first|(with_reducible refine zb 69 rfl (by kernel_rfl) 26 (.tmp 8) rfl g8 0 rfl GC _ R6.out Tryz.underlying26 rfl GI.out ?_)|(with_reducible refine zh rfl 147 _ rfl _ ?_ (BS.out _) ?_;·go_simp)|(refine zw rfl 94 1 _ rfl _ (by kernel_rfl) B1.out HB.out ?_;intro bm wn hn;refine Hid.out ?_))
    refine za ?_;have hn2:=hn.perm (L':=(bm,.cells C1 147 (0,0))::(L++((g8,.cells GC 26 (0,0))::(D++((g,.cells C 29 (0,0))::F))))) (ze (fun i a=>by simp only[List.count_append,List.count_cons,List.count_nil];try omega));clear hn;refine y8 rfl (.tmp 67) (.tmp 71) rfl (setC 0 gs) C1OK.out HC1.out rfl HR.out hn2 rfl (n1+1) rfl (by omega) ?_;intro A5 c5 w5 L5 hr5 h5;clear hn2;have HR5:=za hr5;have H5:=za h5;clear hr5 h5 HB R6
    go_wp2_with (first|(with_reducible refine zh rfl 147 _ rfl _ ?_ (BBO.out _) ?_;·go_simp)|(refine zw rfl 94 1 _ rfl _ (by kernel_rfl) BB2.out H5.out ?_;intro bn wn hn;refine Hid.out ?_))
    refine za ?_;have hn2:=hn.perm (L':=(bn,.cells CB 147 (0,0))::(L5++((bm,.cells C1 147 (0,0))::(g8,.cells GC 26 (0,0))::(D++((g,.cells C 29 (0,0))::F))))) (ze (fun i a=>by simp only[List.count_append,List.count_cons,List.count_nil];try omega));clear hn;refine y8 rfl (.tmp 73) (.tmp 76) rfl (booC 0) okB HCB.out rfl HR5.out hn2 rfl (n1+1+1) rfl (by omega) ?_;intro A6 c6 w6 L6 hr6 h6;clear hn2
    have hlen:(l1++((if ((t.at_ 0).st==2)=true then [setC 0 (tryS (t.at_ 0)).1] else [])++[booC 0])).length=n1+1+1:=by rw[if_pos HST.out,List.length_append,HN1.out];rfl
    have hrow:Row 147 40 (.slice A6 (n1+1+1) c6) (n1+1+1) (cgs (l1++((if ((t.at_ 0).st==2)=true then [setC 0 (tryS (t.at_ 0)).1] else [])++[booC 0]))) L6:=by
     rw[if_pos HST.out,show(tryS (t.at_ 0)).1=gs from HGS.out,←List.append_assoc];exact hr6
    have HE:=za (CP.out 0 _ HY.out _ A6 (n1+1+1) c6 L6 ((bn,.cells CB 147 (0,0))::(bm,.cells C1 147 (0,0))::(g8,.cells GC 26 (0,0))::(D++[(g,.cells C 29 (0,0))])) hlen.symm hrow (by simpa using h6));clear h6 hr6 hrow hlen H5 HR5;go_wp2_with fail
    go_ret2
    exact HE.out
   ·have b2:(stp==2)=false:=by simpa using h2
    have HST:=za (show ¬((t.at_ 0).st==2)=true by rw[show t.at_ 0=t.s0 from rfl,HSP.out,b2];decide);clear h2
    go_wp2_with (first|(with_reducible refine zh rfl 147 _ rfl _ ?_ (BBO.out _) ?_;·go_simp)|(refine zw rfl 94 1 _ rfl _ (by kernel_rfl) BB2.out HX.out ?_;intro bn wn hn;refine Hid.out ?_))
    refine za ?_;have hn2:=hn.perm (L':=(bn,.cells CB 147 (0,0))::(L++(D++((g,.cells C 29 (0,0))::F)))) (ze (fun i a=>by simp only[List.count_append,List.count_cons,List.count_nil];try omega));clear hn;refine y8 rfl (.tmp 73) (.tmp 76) rfl (booC 0) okB HCB.out rfl HR.out hn2 rfl (n1+1) rfl (by omega) ?_;intro A6 c6 w6 L6 hr6 h6;clear hn2
    have hlen:(l1++((if ((t.at_ 0).st==2)=true then [setC 0 (tryS (t.at_ 0)).1] else [])++[booC 0])).length=n1+1:=by rw[if_neg HST.out,List.length_append,HN1.out];rfl
    have hrow:Row 147 40 (.slice A6 (n1+1) c6) (n1+1) (cgs (l1++((if ((t.at_ 0).st==2)=true then [setC 0 (tryS (t.at_ 0)).1] else [])++[booC 0]))) L6:=by
     rw[if_neg HST.out];exact hr6
    have HE:=za (CP.out 0 _ HY.out _ A6 (n1+1) c6 L6 ((bn,.cells CB 147 (0,0))::(D++[(g,.cells C 29 (0,0))])) hlen.symm hrow (by simpa using h6));clear h6 hr6 hrow hlen HX HR cs;go_wp2_with fail
    go_ret2
    exact HE.out
 ·have hrt : zx t = true := by
   by_cases hr:zx t=true
   ·exact hr
   ·have:=HZ.out
    rw[if_neg hr]at this
    omega
  have hpk:pickT t=1:=by
   have:=HZ.out;rw[if_pos hrt]at this
   omega
  have HY:=za (YES.out 1 hrt hpk (by decide));have RSS:=za (RS.out hrt);have hact:=jp hrt;subst hz;clear hrt hpk;obtain⟨ac,hac⟩:∃y,t.act=y:=⟨_,rfl⟩;have HAC:=za hac;have ca:=(FALL.out _ _ H3.out (by simp)).2.act;rw[hac]at ca hact HY;clear hac;obtain⟨l1,hl1⟩:∃y,(if (1:Int)=ac then [] else (if ((t.at_ ac).st==2)=true then [setC ac (badS (t.at_ ac)).1] else [])++[actC 1])=y:=⟨_,rfl⟩;rw[hl1]at HY
  have len1:l1.length≤2:=by rw[←hl1];split<;>simp;split<;>simp
  obtain⟨n1,hn1⟩:∃y,l1.length=y:=⟨_,rfl⟩;rw[hn1]at len1;have HN1:=za hn1;have HL1:=za hl1;clear hn1 hl1;obtain⟨sto,hsto⟩:∃y,t.s0.st=y:=⟨_,rfl⟩;obtain⟨stp,hstp⟩:∃y,t.s1.st=y:=⟨_,rfl⟩;have HSO:=za hsto;have HSP:=za hstp;clear hsto hstp
  go_upto_if 20 with fail
  rw[HB0.out]
  go_cut [5] (fun s5 wx=>∃A c L D,s5=.slice A n1 c∧Row 147 40 (.slice A n1 c) n1 (cgs l1) L∧St W wx J (L++(D++((g,.cells C 29 (0,0))::F))))
  case first=>
   rcases hact with rfl|rfl
   ·have bb:((1:Int) != 0)=true:=rfl
    have sok:=OK.out.s0
    have kg:=fun(v:World) (X:List (Nat × Obj)) (hv:St W v J X)=>zbc t.s0 sok hv
    have gok:(badS t.s0).1.Ok:=un;have si:=yg sok;have gi:=yg gok;have go1:=(badS t.s0).1.one;have gsz:=Slt.size gok.dig;unfold SPost at kg;obtain⟨gs,hgs⟩:∃y,(badS t.s0).1=y:=⟨_,rfl⟩;obtain⟨er,her⟩:∃y,(badS t.s0).2=y:=⟨_,rfl⟩;have HGS:=za hgs;have HER:=za her;rw[hgs,her]at kg;rw[hgs]at gok gi go1 gsz;clear hgs her
    have q2:∀(v:World) (X:List (Nat × Obj)) (b:Nat),St W v J X→(b,Obj.cells gs.cells 26 (0,0))∈X→v.rangeAt b 0 gs.cells.toList:=fun v X b hv hm j u hj=>by rw[Nat.zero_add,hv.cell hm j];simpa using hj
    have bs:=yx 0 gs gok;have c1ok:(setC 0 gs).tos.Ok:=gok;have b1:=yy (setC 0 gs) c1ok;unfold Slt.val at kg;have r5:=(FALL.out _ _ H3.out (by simp)).2.s0;obtain⟨SC,hSC⟩:∃y,t.s0.cells=y:=⟨_,rfl⟩;rw[hSC]at kg si r5;obtain⟨GC,hGC⟩:∃y,gs.cells=y:=⟨_,rfl⟩;rw[hGC]at kg gi go1 gsz q2 bs;obtain⟨C1,hC1⟩:∃y,(setC 0 gs).cells=y:=⟨_,rfl⟩;rw[hC1]at bs b1
    have gfit:0+GC.size≤zbj.size:=by rw[gsz];decide
    have gmany:zg zbj 0 GC.toList=GC:=by rw[zd _ _ (by rw[Array.length_toList,gsz];rfl),Array.toArray_toList]
    have KG:=za kg;have SI:=za si;have GI:=za gi;have GO:=za go1;have GF:=za gfit;have GM:=za gmany;have Q2:=za q2;have BS:=za bs;have B1:=za b1;have R5:=za r5;have HC1:=za hC1;have C1OK:=za c1ok;clear kg si gi go1 gfit gmany q2 bs b1 r5 gsz sok c1ok gok hSC hGC hC1
    go_wp2_with (with_reducible refine zb 26 rfl (by kernel_rfl) 26 (.tmp 25) rfl g 0 rfl SC _ R5.out Tryz.underlying26 rfl SI.out ?_)
    refine(KG.out _ _ H3.out).mono ?_;rintro e wa ⟨rfl,ha⟩;have HA:=za (ha.alloc (.cells zbj 26));clear ha H3 R5 KG
    go_wp2_with (with_reducible refine zc rfl 26 (.tmp 6) (.tmp 28) rfl (g:=wa.heap.size) (off:=0) GC rfl rfl HA.out GF.out GI.out GO.out ?_;intro wb hb;refine Hid.out ?_)
    refine za ?_;rw[GM.out]at hb;obtain⟨g6,hblk⟩:∃y,wa.heap.size=y:=⟨_,rfl⟩;rw[hblk]at hb ⊢;have HB:=za hb;clear hb HA hblk;have ca7:=(FALL.out _ _ HB.out (by simp)).2.act;have cs7:=(FALL.out _ _ HB.out (by simp)).2.st0;rw[HAC.out]at ca7;rw[HSO.out]at cs7;have bfa:=ja 1;have okA:(actC 1).tos.Ok:=zS_ok;have ba2:=yy (actC 1) okA;obtain⟨CA,hCA⟩:∃y,(actC 1).cells=y:=⟨_,rfl⟩;rw[hCA]at bfa ba2;have BA:=za bfa;have BA2:=za ba2;have HCA:=za hCA;clear bfa ba2 hCA
    by_cases h2:sto=2
    ·have he:er=0:=by rw[←HER.out];exact OK7.out _ RSS.out.1 (HSO.out.trans h2)
     have b2:(sto==2)=true:=by simpa using h2
     have HL:=za (show[setC 0 gs,actC 1]=l1 by rw[←HL1.out,if_neg (by decide),show t.at_ 0=t.s0 from rfl,HSO.out,if_pos b2,HGS.out];rfl);subst he;clear h2;have R6:=za (Q2.out _ _ g6 HB.out (List.mem_cons_self ..))
     go_wp2_with (first|(with_reducible refine zb 44 rfl (by kernel_rfl) 26 (.tmp 6) rfl g6 0 rfl GC _ R6.out Tryz.underlying26 rfl GI.out ?_)|(with_reducible refine zh rfl 147 _ rfl _ ?_ (BS.out _) ?_;·go_simp)|(refine zw rfl 94 1 _ rfl _ (by kernel_rfl) B1.out HB.out ?_;intro bm wn hn;refine Hid.out ?_))
     refine za ?_;have hn2:=hn.perm (L':=(bm,.cells C1 147 (0,0))::([(b0,.cells #[] 147 (0,0))]++((g6,.cells GC 26 (0,0))::(g,.cells C 29 (0,0))::F))) (ze (fun i a=>by simp only[List.count_append,List.count_cons,List.count_nil];try omega));clear hn;refine y8 (cs:=[]) rfl (.tmp 41) (.tmp 46) rfl (setC 0 gs) C1OK.out HC1.out rfl (Row.empty 147 40 b0) hn2 rfl 1 rfl (by omega) ?_;intro A5 c5 w5 L5 hr5 h5;clear hn2;have HR5:=za hr5;have H5:=za h5;clear hr5 h5 HB R6 ca7 cs7
     go_wp2_with (first|(with_reducible refine zh rfl 147 _ rfl _ ?_ (BA.out _) ?_;·go_simp)|(refine zw rfl 94 1 _ rfl _ (by kernel_rfl) BA2.out H5.out ?_;intro bn wn hn;refine Hid.out ?_))
     refine za ?_;have hn2:=hn.perm (L':=(bn,.cells CA 147 (0,0))::(L5++((bm,.cells C1 147 (0,0))::(g6,.cells GC 26 (0,0))::(g,.cells C 29 (0,0))::F))) (ze (fun i a=>by simp only[List.count_append,List.count_cons,List.count_nil];try omega));clear hn;refine y8 rfl (.tmp 48) (.tmp 51) rfl (actC 1) okA HCA.out rfl HR5.out hn2 rfl 2 rfl (by omega) ?_;intro A6 c6 w6 L6 hr6 h6;clear hn2;have HR6:=za hr6;have H6:=za h6;clear hr6 h6 H5 HR5
     have e2:n1=2:=by rw[←HN1.out,←HL.out];rfl
     subst e2;go_wp2_with fail;go_meet;exact⟨A6,c6,L6,[_,_,_],rfl,by rw[←HL.out];exact HR6.out,H6.out⟩
    ·have b2:(sto==2)=false:=by simpa using h2
     have HL:=za (show[actC 1]=l1 by rw[←HL1.out,if_neg (by decide),show t.at_ 0=t.s0 from rfl,HSO.out,if_neg (by rw[b2];decide)];rfl);clear h2
     go_wp2_with (first|(with_reducible refine zh rfl 147 _ rfl _ ?_ (BA.out _) ?_;·go_simp)|(refine zw rfl 94 1 _ rfl _ (by kernel_rfl) BA2.out HB.out ?_;intro bm wn hn;refine Hid.out ?_))
     refine za ?_;have hn2:=hn.perm (L':=(bm,.cells CA 147 (0,0))::([(b0,.cells #[] 147 (0,0))]++((g6,.cells GC 26 (0,0))::(g,.cells C 29 (0,0))::F))) (ze (fun i a=>by simp only[List.count_append,List.count_cons,List.count_nil];try omega));clear hn;refine y8 (cs:=[]) rfl (.tmp 48) (.tmp 51) rfl (actC 1) okA HCA.out rfl (Row.empty 147 40 b0) hn2 rfl 1 rfl (by omega) ?_;intro A6 c6 w6 L6 hr6 h6;clear hn2;have HR6:=za hr6;have H6:=za h6;clear hr6 h6 HB ca7 cs7
     have e2:n1=1:=by rw[←HN1.out,←HL.out];rfl
     subst e2;go_wp2_with fail;go_meet;exact⟨A6,c6,L6,[_,_],rfl,by rw[←HL.out];exact HR6.out,H6.out⟩
   ·have bb:((1:Int) != 1)=false:=rfl
    have e1:l1=[]:=by rw[←HL1.out,if_pos rfl]
    have e2:n1=0:=by rw[←HN1.out,e1];rfl
    subst e1;subst e2;go_wp2_with fail;go_meet;exact⟨_,_,_,[],rfl,Row.empty 147 40 b0,H3.out⟩
  case rest=>
   obtain⟨A,c,L,D,rfl,hr,hx⟩:=hcut;have HX:=za hx;have HR:=za hr;have cs:=(FALL.out _ _ hx (by simp)).2.st1;rw[HSP.out]at cs;clear hx hr H3 ca;have bfb:=jg 1;have okB:(booC 1).tos.Ok:=zS_ok;have bb2:=yy (booC 1) okB;obtain⟨CB,hCB⟩:∃y,(booC 1).cells=y:=⟨_,rfl⟩;rw[hCB]at bfb bb2;have BBO:=za bfb;have BB2:=za bb2;have HCB:=za hCB;clear bfb bb2 hCB
   by_cases h2:stp=2
   ·have b2:(stp==2)=true:=by simpa using h2
    have HST:=za (show((t.at_ 1).st==2)=true by rw[show t.at_ 1=t.s1 from rfl,HSP.out];exact b2);clear h2;have sok:=OK.out.s1
    have kg:=fun(v:World) (X:List (Nat × Obj)) (hv:St W v J X)=>ref_try t.s1 sok hv
    have gok:(tryS t.s1).1.Ok:=zaa sok;have si:=yg sok;have gi:=yg gok;have go1:=(tryS t.s1).1.one;have gsz:=Slt.size gok.dig;unfold SPost at kg;obtain⟨gs,hgs⟩:∃y,(tryS t.s1).1=y:=⟨_,rfl⟩;obtain⟨er,her⟩:∃y,(tryS t.s1).2=y:=⟨_,rfl⟩;have HGS:=za hgs;have HER:=za her;rw[hgs,her]at kg;rw[hgs]at gok gi go1 gsz;clear hgs her
    have q2:∀(v:World) (X:List (Nat × Obj)) (b:Nat),St W v J X→(b,Obj.cells gs.cells 26 (0,0))∈X→v.rangeAt b 0 gs.cells.toList:=fun v X b hv hm j u hj=>by rw[Nat.zero_add,hv.cell hm j];simpa using hj
    have bs:=yx 1 gs gok;have c1ok:(setC 1 gs).tos.Ok:=gok;have b1:=yy (setC 1 gs) c1ok;unfold Slt.val at kg;have r5:=(FALL.out _ _ HX.out (by simp)).2.s1;obtain⟨SC,hSC⟩:∃y,t.s1.cells=y:=⟨_,rfl⟩;rw[hSC]at kg si r5;obtain⟨GC,hGC⟩:∃y,gs.cells=y:=⟨_,rfl⟩;rw[hGC]at kg gi go1 gsz q2 bs;obtain⟨C1,hC1⟩:∃y,(setC 1 gs).cells=y:=⟨_,rfl⟩;rw[hC1]at bs b1
    have gfit:0+GC.size≤zbj.size:=by rw[gsz];decide
    have gmany:zg zbj 0 GC.toList=GC:=by rw[zd _ _ (by rw[Array.length_toList,gsz];rfl),Array.toArray_toList]
    have KG:=za kg;have SI:=za si;have GI:=za gi;have GO:=za go1;have GF:=za gfit;have GM:=za gmany;have Q2:=za q2;have BS:=za bs;have B1:=za b1;have R5:=za r5;have HC1:=za hC1;have C1OK:=za c1ok;clear kg si gi go1 gfit gmany q2 bs b1 r5 gsz sok c1ok gok hSC hGC hC1
    go_wp2_with (with_reducible refine zb 63 rfl (by kernel_rfl) 26 (.tmp 62) rfl g 36 rfl SC _ R5.out Tryz.underlying26 rfl SI.out ?_)
    refine(KG.out _ _ HX.out).mono ?_;rintro e wa ⟨rfl,ha⟩;have HA:=za (ha.alloc (.cells zbj 26));clear ha HX R5 KG
    go_wp2_with (with_reducible refine zc rfl 26 (.tmp 8) (.tmp 65) rfl (g:=wa.heap.size) (off:=0) GC rfl rfl HA.out GF.out GI.out GO.out ?_;intro wb hb;refine Hid.out ?_)
    refine za ?_;rw[GM.out]at hb;obtain⟨g8,hblk⟩:∃y,wa.heap.size=y:=⟨_,rfl⟩;rw[hblk]at hb ⊢;have HB:=za hb;clear hb HA hblk;have R6:=za (Q2.out _ _ g8 HB.out (List.mem_cons_self ..));clear cs
    go_wp2_with (first|(with_reducible refine zb 69 rfl (by kernel_rfl) 26 (.tmp 8) rfl g8 0 rfl GC _ R6.out Tryz.underlying26 rfl GI.out ?_)|(with_reducible refine zh rfl 147 _ rfl _ ?_ (BS.out _) ?_;·go_simp)|(refine zw rfl 94 1 _ rfl _ (by kernel_rfl) B1.out HB.out ?_;intro bm wn hn;refine Hid.out ?_))
    refine za ?_;have hn2:=hn.perm (L':=(bm,.cells C1 147 (0,0))::(L++((g8,.cells GC 26 (0,0))::(D++((g,.cells C 29 (0,0))::F))))) (ze (fun i a=>by simp only[List.count_append,List.count_cons,List.count_nil];try omega));clear hn;refine y8 rfl (.tmp 67) (.tmp 71) rfl (setC 1 gs) C1OK.out HC1.out rfl HR.out hn2 rfl (n1+1) rfl (by omega) ?_;intro A5 c5 w5 L5 hr5 h5;clear hn2;have HR5:=za hr5;have H5:=za h5;clear hr5 h5 HB R6
    go_wp2_with (first|(with_reducible refine zh rfl 147 _ rfl _ ?_ (BBO.out _) ?_;·go_simp)|(refine zw rfl 94 1 _ rfl _ (by kernel_rfl) BB2.out H5.out ?_;intro bn wn hn;refine Hid.out ?_))
    refine za ?_;have hn2:=hn.perm (L':=(bn,.cells CB 147 (0,0))::(L5++((bm,.cells C1 147 (0,0))::(g8,.cells GC 26 (0,0))::(D++((g,.cells C 29 (0,0))::F))))) (ze (fun i a=>by simp only[List.count_append,List.count_cons,List.count_nil];try omega));clear hn;refine y8 rfl (.tmp 73) (.tmp 76) rfl (booC 1) okB HCB.out rfl HR5.out hn2 rfl (n1+1+1) rfl (by omega) ?_;intro A6 c6 w6 L6 hr6 h6;clear hn2
    have hlen:(l1++((if ((t.at_ 1).st==2)=true then [setC 1 (tryS (t.at_ 1)).1] else [])++[booC 1])).length=n1+1+1:=by rw[if_pos HST.out,List.length_append,HN1.out];rfl
    have hrow:Row 147 40 (.slice A6 (n1+1+1) c6) (n1+1+1) (cgs (l1++((if ((t.at_ 1).st==2)=true then [setC 1 (tryS (t.at_ 1)).1] else [])++[booC 1]))) L6:=by
     rw[if_pos HST.out,show(tryS (t.at_ 1)).1=gs from HGS.out,←List.append_assoc];exact hr6
    have HE:=za (CP.out 1 _ HY.out _ A6 (n1+1+1) c6 L6 ((bn,.cells CB 147 (0,0))::(bm,.cells C1 147 (0,0))::(g8,.cells GC 26 (0,0))::(D++[(g,.cells C 29 (0,0))])) hlen.symm hrow (by simpa using h6));clear h6 hr6 hrow hlen H5 HR5;go_wp2_with fail
    go_ret2
    exact HE.out
   ·have b2:(stp==2)=false:=by simpa using h2
    have HST:=za (show ¬((t.at_ 1).st==2)=true by rw[show t.at_ 1=t.s1 from rfl,HSP.out,b2];decide);clear h2
    go_wp2_with (first|(with_reducible refine zh rfl 147 _ rfl _ ?_ (BBO.out _) ?_;·go_simp)|(refine zw rfl 94 1 _ rfl _ (by kernel_rfl) BB2.out HX.out ?_;intro bn wn hn;refine Hid.out ?_))
    refine za ?_;have hn2:=hn.perm (L':=(bn,.cells CB 147 (0,0))::(L++(D++((g,.cells C 29 (0,0))::F)))) (ze (fun i a=>by simp only[List.count_append,List.count_cons,List.count_nil];try omega));clear hn;refine y8 rfl (.tmp 73) (.tmp 76) rfl (booC 1) okB HCB.out rfl HR.out hn2 rfl (n1+1) rfl (by omega) ?_;intro A6 c6 w6 L6 hr6 h6;clear hn2
    have hlen:(l1++((if ((t.at_ 1).st==2)=true then [setC 1 (tryS (t.at_ 1)).1] else [])++[booC 1])).length=n1+1:=by rw[if_neg HST.out,List.length_append,HN1.out];rfl
    have hrow:Row 147 40 (.slice A6 (n1+1) c6) (n1+1) (cgs (l1++((if ((t.at_ 1).st==2)=true then [setC 1 (tryS (t.at_ 1)).1] else [])++[booC 1]))) L6:=by
     rw[if_neg HST.out];exact hr6
    have HE:=za (CP.out 1 _ HY.out _ A6 (n1+1) c6 L6 ((bn,.cells CB 147 (0,0))::(D++[(g,.cells C 29 (0,0))])) hlen.symm hrow (by simpa using h6));clear h6 hr6 hrow hlen HX HR cs;go_wp2_with fail
    go_ret2
    exact HE.out
end
end Go.Proofs.YtnjnooeldkideaaGreatDoor
