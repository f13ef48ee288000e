/- boot: what is planned. -/
import Derived.Test.YtnjnooeldkideaaGreatDoorOrB
import Derived.OwnWalk
namespace Go.Proofs.YtnjnooeldkideaaGreatDoor
set_option maxRecDepth 100000
set_option maxHeartbeats 16000000
set_option linter.unusedVariables false
set_option linter.unusedSimpArgs false
open Go.RowKit Go.Lib Go.Deep
section
variable {W w:World} {J:Nat→Option Obj} {t:Tb} {F:List (Nat × Obj)}
theorem zaa {s:Slt} (ok:s.Ok):(tryS s).1.Ok:=by
 unfold tryS
 split
 ·rename_i h
  have q0:0≤s.tr∧s.tr≤7:=by
   simp only[Bool.and_eq_true,beq_iff_eq]at h;obtain⟨h1,h2,-⟩:=h;unfold rightS at h1;rw[h2,if_neg (by omega),if_pos rfl]at h1;simp only[Bool.and_eq_true,decide_eq_true_eq]at h1;exact⟨h1.1,h1.2.1⟩
  exact⟨ok.dig,ok.st0,ok.st1,by show(-9223372036854775808:Int)≤s.tr-1;omega,by show s.tr-1≤(9223372036854775807:Int);omega,ok.ver0,ok.ver1,ok.sz0,ok.sz1⟩
 ·exact zS_ok
theorem u3 (h:zx t=true):pickT t=-1∨pickT t=0∨pickT t=1:=by
 have ha:=jp h;unfold pickT
 split
 ·exact Or.inr ha
 ·split
  ·omega
  ·exact Or.inl rfl
def planL (p a:Int) (B1:Bool) (gs:Slt) (B2:Bool) (ts:Slt):List Cg:=(if p=a then [] else (if B1=true then [setC a gs] else [])++[actC p])++((if B2=true then [setC p ts] else [])++[booC p])
def planT (t:Tb):Int × List Cg:=if zx t=true∧pickT t≠-1 then (pickT t,planL (pickT t) t.act ((t.at_ t.act).st==2) (badS (t.at_ t.act)).1 ((t.at_ (pickT t)).st==2) (tryS (t.at_ (pickT t))).1) else (-1,[])
def PPost (W:World) (J:Nat→Option Obj) (F:List (Nat × Obj)) (r:Int × List Cg) (e:Ending) (w':World):Prop:=
 ∃A c L,e=.returned (.tuple #[.int .i64 r.1,.slice A r.2.length c])∧Row 147 40 (.slice A r.2.length c) r.2.length (cgs r.2) L∧St W w' J (L++F)
theorem zu {ops:Array Oper} {rest:List Oper} {o:Oper} {a:Act} {Q:Exit→Act→World→Prop} (hgd:o.guard=none) (s x:Operand)
  (ho:o.op=.call { callee:=.builtin .append,args:=#[s,x],argTypes:=#[94,94] }) (c:Cg) (okc:c.tos.Ok) {X:Array Value} (hX:c.cells=X)
  {L:List (Nat × Obj)} {v:Value} {n:Nat} {cs:List Cg} (hs:a.eval s=v) (hrow:Row 147 40 v n (cgs cs) L) (hst:St W w J (L++F)) {b:Nat} (hb:w.heap.size=b) (hx:a.eval x=.slice (some ⟨b,0,none⟩) 1 1)
  (k:Nat) (hk:n+1=k) (h8:k≤8)
  (h:∀A' c' w' L',Row 147 40 (.slice A' k c') k (cgs (cs++[c])) L'→St W w' J (L'++F)→wpList Tryz.prog ops Q rest (a.put o.dst (.slice A' k c')) w'):wpList Tryz.prog ops Q (o::rest) a (w.alloc (.cells X 147)):=by
 subst hX hb;have h2:=hst.alloc (.cells c.cells 147)
 have hsrc:Src (w.alloc (.cells c.cells 147)) 40 (some ⟨w.heap.size,0,none⟩) 1 c.cells.toList:=by
  have q:=(jb (g:=w.heap.size) okc).src (w:=w.alloc (.cells c.cells 147)) (fun p hp=>by simp only[List.mem_singleton]at hp;subst hp;exact h2.own _ (List.mem_cons_self ..))
  rwa [show cgs [c]=c.cells.toList by simp[cgs]]at q
 have one:∀u∈c.cells.toList,u.oneCell'=true:=fun u hu=>List.all_eq_true.1 (by have h:=Cg.one c;rw[←Array.all_toList]at h;exact h) u hu
 exact yn (F:=F) hgd s x 94 ho 147 (.agg (⟨0,0,0,zS,0⟩:Cg).cells) 40 96 Tryz.underlying94 jw (by kernel_rfl) (by omega) hs hrow (St.alloc_ hst _) hx hsrc one k hk (cgs (cs++[c])) (by simp[cgs]) (by unfold maxLen;omega) (by omega) h
theorem b_plan (ok:t.Ok) (h:St W w J F):Calls Tryz.prog 105 #[t.val] w (PPost W J F (planT t)):=by
 have h1:=h.alloc (.cells t.cells 29);obtain⟨g,hg⟩:∃g,w.heap.size=g:=⟨_,rfl⟩;rw[hg]at h1
 have kP:=fun(ha:t.act=0∨t.act=1) (v:World) (X:List (Nat × Obj)) (hv:St W v J X)=>v_pick ok ha hv
 have kI:=fun(i:Int) (hi:i=0∨i=1) (v:World) (X:List (Nat × Obj)) (hv:St W v J X)=>v_is i 2 ok hi hv
 have hno:¬(zx t=true∧pickT t≠-1)→∀v,St W v J F→PPost W J F (planT t) (.returned (.tuple #[.int .i64 (-1),.slice none 0 0])) v:=fun hc v hv=>by unfold planT;rw[if_neg hc];exact⟨none,0,[],rfl,Row.nil _ _,hv⟩
 have hyes:zx t=true→pickT t≠-1→planT t=(pickT t,planL (pickT t) t.act ((t.at_ t.act).st==2) (badS (t.at_ t.act)).1 ((t.at_ (pickT t)).st==2) (tryS (t.at_ (pickT t))).1):=fun h1 h2=>by unfold planT;rw[if_pos ⟨h1,h2⟩]
 have hpr:=u3 (t:=t);obtain⟨V,hV⟩:∃V,zx t=V:=⟨_,rfl⟩
 have kL:=fun(v:World) (X:List (Nat × Obj)) (hv:St W v J X)=>zbg t ok hv
 rw[hV]at kL;have hsz:=Tb.size ok;have hti:=z7 ok;have hvi:=u6 ok;have htone:=t.one
 have tbv:=fun(v:World) (X:List (Nat × Obj)) (b:Nat) (hv:St W v J X) (hm:(b,Obj.cells t.cells 161 (0,0))∈X)=>hv.tb (T:=161) ok hm
 have tbb:=fun(v:World) (X:List (Nat × Obj)) (hv:St W v J X) (hm:(g,Obj.cells t.cells 29 (0,0))∈X)=>(hv.tb (T:=29) ok hm).all
 unfold Tb.val at *;obtain⟨C,hC⟩:∃C,t.cells=C:=⟨_,rfl⟩;rw[hC]at kL hsz hti hvi htone tbv tbb
 have hvfit:0+C.size≤(Tryz.zeroCells161).size:=by rw[hsz,zview];omega
 have hvmany:zg Tryz.zeroCells161 0 C.toList=C:=by rw[zd _ _ (by rw[Array.length_toList,hsz,zview]),Array.toArray_toList]
 have HCC:=za hC;have HVV:=za hV;have KL:=za kL;have HTI:=za hti;have HVI:=za hvi;have HTONE:=za htone;have TBV:=za tbv;have TBB:=za tbb;have HVFIT:=za hvfit;have HVMANY:=za hvmany;clear kL hti hvi htone tbv tbb hvfit hvmany hV hsz;generalize planT t=R at *;rw[HCC.out]at h1 kP kI ⊢;obtain⟨p,hP⟩:∃p,pickT t=p:=⟨_,rfl⟩;rw[hP]at kP hyes hno hpr;have HNO:=za hno;have HYES:=za hyes;have KP:=za kP;have KI:=za kI;have HPR:=za hpr;have H1:=za h1;clear h h1 hno hyes kP kI hpr hC hP
 go_enter Tryz.func105,Tryz.ntmps105
 go_wp2_with (with_reducible refine zb 13 rfl (by kernel_rfl) 29 (.tmp 1) rfl g 0 rfl C _ (TBB.out _ _ H1.out (by simp)) Tryz.underlying29 rfl HTI.out ?_)
 refine(KL.out _ _ H1.out).mono ?_;rintro e w2 ⟨rfl,h2⟩;have h3:=h2.alloc (.cells Tryz.zeroCells161 161);have H3:=za h3;clear h2 h3
 go_wp2_with (with_reducible refine zc rfl 161 (.tmp 4) (.tmp 15) rfl (g:=w2.heap.size) (off:=0) C rfl rfl H3.out HVFIT.out HVI.out HTONE.out ?_;intro w4 h4;refine Hid.out ?_)
 refine za ?_;rw[HVMANY.out]at h4;obtain⟨gv,hgv⟩:∃x,w2.heap.size=x:=⟨_,rfl⟩;rw[hgv]at h4 ⊢;obtain⟨vs0,vs1,vact,vboo,vflo,vall,vst0,vst1⟩:=TBV.out _ _ gv h4 (List.mem_cons_self ..);rw[HCC.out]at vall;have H4:=za h4;have VS0:=za vs0;have VS1:=za vs1;have VALL:=za vall;clear h4 H3 vs0 vs1 vall hgv KL;clear vact vboo vflo vst0 vst1
 cases V with
 | false=>
  have HN:=za (HNO.out (fun x=>by rw[HVV.out]at x;cases x.1));go_wp2_with fail
  go_ret2
  exact HN.out _ (H4.out.weaken (A:=[_,_]))
 | true=>
  have ha:=jp HVV.out;have KP4:=za (KP.out ha _ _ H4.out);have hp:=HPR.out HVV.out;have HA:=za ha;clear ha KP HPR
  go_wp2_with (with_reducible refine zb 18 rfl (by kernel_rfl) 161 (.tmp 4) rfl gv 0 rfl C _ VALL.out Tryz.underlying161 rfl HVI.out ?_)
  refine KP4.out.mono ?_;rintro e w5 ⟨rfl,h5⟩;have HW:=za h5;clear h5 H4 VALL VS0 VS1 KP4
  rcases hp with rfl|rfl|rfl
  ·have HN:=za (HNO.out (fun x=>x.2 rfl))
   go_wp2_with fail
   go_ret2
   exact HN.out _ (HW.out.weaken (A:=[_,_]))
  ·rcases HA.out with ha|ha
   ·as_aux_lemma =>
     have hy:=HYES.out HVV.out (by decide);rw[ha]at hy;have HAC:=za ha
     have kT:=fun(v:World) (X:List (Nat × Obj)) (hv:St W v J X)=>zau (t.at_ 0) (t.at_ok ok 0) hv
     have kIP:=KI.out 0 (by omega);have gokp:=zaa (t.at_ok ok 0);obtain⟨⟨gp,ep⟩,hgp⟩:∃r,tryS (t.at_ 0)=r:=⟨_,rfl⟩;rw[hgp]at gokp kT hy;obtain⟨B2,hB2⟩:∃B,((t.at_ 0).st==2)=B:=⟨_,rfl⟩;have isp:=zl (t.at_ok ok 0).dig;obtain⟨SP,hSP⟩:∃S,(t.at_ 0).cells=S:=⟨_,rfl⟩;unfold SPost Slt.val at kT;simp only at kT gokp hy;rw[hB2]at kIP hy;rw[hSP]at kT isp
     have tf:∀(v:World) (X:List (Nat × Obj)),St W v J X→(gv,Obj.cells C 161 (0,0))∈X→(v.cell? ⟨gv,72,none⟩=some (.int .i64 0)∧v.rangeAt gv 0 C.toList)∧v.rangeAt gv 0 SP.toList∧v.rangeAt gv 0 SP.toList:=fun v X hv hm=>by
      have x:=TBV.out v X gv hv hm;exact⟨⟨x.act.trans (by rw[HAC.out]),by have y:=x.all;rwa [HCC.out]at y⟩,by rw[←hSP];exact x.s0,by rw[←hSP];exact x.s0⟩
     have ginp:=zl gokp.dig;have gonp:=gp.one;have gszp:=gokp.len
     have gsvp:∀(v:World) (X:List (Nat × Obj)) (b:Nat),St W v J X→(b,Obj.cells gp.cells 26 (0,0))∈X→v.rangeAt b 0 gp.cells.toList:=fun v X b hv hm j u hj=>by rw[Nat.zero_add,hv.cell hm j];simpa using hj
     have kSp:=fun(v:World) (X:List (Nat × Obj)) (hv:St W v J X)=>b_set 0 gp gokp hv
     have hzp:=Cg.size (c:=setC 0 gp) gokp;unfold Slt.val Cg.val at kSp;obtain⟨GP,hGp⟩:∃C,gp.cells=C:=⟨_,rfl⟩;obtain⟨CP,hCp⟩:∃C,(setC 0 gp).cells=C:=⟨_,rfl⟩;rw[hGp]at ginp gonp gszp gsvp kSp kT;rw[hCp]at hzp kSp
     have gfitp:0+GP.size≤zbj.size:=by rw[gszp];decide
     have gmanyp:zg zbj 0 GP.toList=GP:=by rw[zd _ _ (by rw[Array.length_toList,gszp];rfl),Array.toArray_toList]
     have hfoldp:Array.foldl (fun cs (x:Value × Nat)=>cs.setIfInBounds x.snd x.fst) zbi CP.zipIdx 0 40=CP:=yj CP _ 40 hzp rfl;have GINP:=za ginp;have GONP:=za gonp;have GSVP:=za gsvp;have KSP:=za kSp;have GFITP:=za gfitp;have GMANYP:=za gmanyp;have HCP:=za hCp;clear ginp gonp gsvp kSp gfitp gmanyp gszp hGp hCp;have hzb:=Cg.size (c:=booC 0) zS_ok;have hbb:=jg 0;obtain⟨CB,hCb⟩:∃C,(booC 0).cells=C:=⟨_,rfl⟩;rw[hCb]at hzb hbb;have hfoldb:Array.foldl (fun cs (x:Value × Nat)=>cs.setIfInBounds x.snd x.fst) zbi CB.zipIdx 0 40=CB:=yj CB _ 40 hzb rfl;have HCB:=za hCb;clear hCb;have HY:=za hy;have KT:=za kT;have KIP:=za kIP;have ISP:=za isp;have TF:=za tf;have HBB:=za hbb;clear hy kT kIP isp tf hbb hgp hB2 hSP ha HAC HYES HNO KI TBV;obtain⟨⟨vact,-⟩,-,-⟩:=TF.out _ _ HW.out (by simp);have HR:Hid (Row 147 40 (.slice none 0 0) 0 (cgs []) []):=za (Row.nil _ _);obtain⟨⟨vact,va⟩,-,sp⟩:=TF.out _ _ HW.out (by simp);have VA:=za va;have KIN:=za (KIP.out _ _ HW.out);clear va sp
     go_wp2_with (with_reducible refine zb 56 rfl (by kernel_rfl) 161 (.tmp 4) rfl gv 0 rfl C _ VA.out Tryz.underlying161 rfl HVI.out ?_)
     refine KIN.out.mono ?_;rintro e wt ⟨rfl,ht⟩;have HW:=za ht;clear ht VA KIN
     cases B2 with
     | false=>
      go_wp2_with (first|(with_reducible refine zh rfl 147 _ rfl _ ?_ (HBB.out _) ?_;·go_simp)|(at_builtin;refine Hid.out ?_))
      refine za ?_;refine zu (F:=(gv,.cells C 161 (0,0))::(g,.cells C 29 (0,0))::F) (L:=[]) (cs:=[]) rfl (.tmp 75) (.tmp 78) rfl (booC 0) zS_ok HCB.out rfl HR.out HW.out rfl rfl 1 rfl (by omega) ?_;intro AZ cZ wZ LZ hrZ hZ;have HE:=za (St.mid (A:=LZ) (B:=[_,_]) hZ);have HRZ:=za hrZ;clear hZ hrZ HW HR;go_wp2_with fail
      go_ret2
      rw[HY.out];exact⟨_,_,_,rfl,HRZ.out,HE.out⟩
     | true=>
      obtain⟨-,-,sp⟩:=TF.out _ _ HW.out (by simp);have SPX:=za sp;have KTN:=za (KT.out _ _ HW.out);clear sp
      go_wp2_with (with_reducible refine zb 64 rfl (by kernel_rfl) 26 (.tmp 63) rfl gv 0 rfl SP _ SPX.out Tryz.underlying26 rfl ISP.out ?_)
      refine KTN.out.mono ?_;rintro e wu ⟨rfl,hu⟩;have hu2:=hu.alloc (.cells zbj 26);have HU:=za hu2;clear hu hu2 SPX KTN
      go_wp2_with (with_reducible refine zc rfl 26 (.tmp 10) (.tmp 66) rfl (g:=wu.heap.size) (off:=0) GP rfl rfl HU.out GFITP.out GINP.out GONP.out ?_;intro wv hv;refine Hid.out ?_)
      refine za ?_;rw[GMANYP.out]at hv;obtain⟨gt,hgt⟩:∃x,wu.heap.size=x:=⟨_,rfl⟩;rw[hgt]at hv ⊢;have r:=GSVP.out _ _ gt hv (List.mem_cons_self ..);have RX:=za r;have KSN:=za (KSP.out _ _ hv);clear r hv HU hgt
      go_wp2_with (with_reducible refine zb 70 rfl (by kernel_rfl) 26 (.tmp 10) rfl gt 0 rfl GP _ RX.out Tryz.underlying26 rfl GINP.out ?_)
      refine KSN.out.mono ?_;rintro e wx ⟨rfl,hx⟩;have hx2:=hx.perm (L':=[]++((gt,.cells GP 26 (0,0))::(gv,.cells C 161 (0,0))::(g,.cells C 29 (0,0))::F)) ze;have HX:=za hx2;clear hx hx2 RX KSN HW
      go_wp2_with ((at_builtin;refine Hid.out ?_))
      refine za ?_;refine zu (F:=(gt,.cells GP 26 (0,0))::(gv,.cells C 161 (0,0))::(g,.cells C 29 (0,0))::F) (L:=[]) (cs:=[]) rfl (.tmp 68) (.tmp 72) rfl (setC 0 gp) gokp HCP.out rfl HR.out HX.out rfl rfl 1 rfl (by omega) ?_;intro Ay cy wy Ly hry hy;clear HR HX;have HW:=za hy;have HR:=za hry;clear hy hry
      go_wp2_with (first|(with_reducible refine zh rfl 147 _ rfl _ ?_ (HBB.out _) ?_;·go_simp)|(at_builtin;refine Hid.out ?_))
      refine za ?_;refine zu (F:=(gt,.cells GP 26 (0,0))::(gv,.cells C 161 (0,0))::(g,.cells C 29 (0,0))::F) (L:=Ly) (cs:=[]++[setC 0 gp]) rfl (.tmp 75) (.tmp 78) rfl (booC 0) zS_ok HCB.out rfl HR.out HW.out rfl rfl 2 rfl (by omega) ?_;intro AZ cZ wZ LZ hrZ hZ;have HE:=za (St.mid (A:=LZ) (B:=[_,_,_]) hZ);have HRZ:=za hrZ;clear hZ hrZ HW HR;go_wp2_with fail
      go_ret2
      rw[HY.out];exact⟨_,_,_,rfl,HRZ.out,HE.out⟩
   ·as_aux_lemma =>
     have hy:=HYES.out HVV.out (by decide);rw[ha]at hy;have HAC:=za ha
     have kT:=fun(v:World) (X:List (Nat × Obj)) (hv:St W v J X)=>zau (t.at_ 0) (t.at_ok ok 0) hv
     have kIP:=KI.out 0 (by omega);have gokp:=zaa (t.at_ok ok 0);obtain⟨⟨gp,ep⟩,hgp⟩:∃r,tryS (t.at_ 0)=r:=⟨_,rfl⟩;rw[hgp]at gokp kT hy;obtain⟨B2,hB2⟩:∃B,((t.at_ 0).st==2)=B:=⟨_,rfl⟩;have isp:=zl (t.at_ok ok 0).dig;obtain⟨SP,hSP⟩:∃S,(t.at_ 0).cells=S:=⟨_,rfl⟩;unfold SPost Slt.val at kT;simp only at kT gokp hy
     have kB:=fun(v:World) (X:List (Nat × Obj)) (hv:St W v J X)=>zbd (t.at_ 1) (t.at_ok ok 1) hv
     have kIA:=KI.out 1 (by omega);have goka:=un (s:=t.at_ 1);obtain⟨⟨ga,ea⟩,hga⟩:∃r,badS (t.at_ 1)=r:=⟨_,rfl⟩;rw[hga]at goka kB hy;obtain⟨B1,hB1⟩:∃B,((t.at_ 1).st==2)=B:=⟨_,rfl⟩;rw[hB1]at kIA hy;have isa:=zl (t.at_ok ok 1).dig;obtain⟨SA,hSA⟩:∃S,(t.at_ 1).cells=S:=⟨_,rfl⟩;unfold SPost Slt.val at kB;simp only at kB goka hy;rw[hSA]at kB isa;rw[hB2]at kIP hy;rw[hSP]at kT isp
     have tf:∀(v:World) (X:List (Nat × Obj)),St W v J X→(gv,Obj.cells C 161 (0,0))∈X→(v.cell? ⟨gv,72,none⟩=some (.int .i64 1)∧v.rangeAt gv 0 C.toList)∧v.rangeAt gv 36 SA.toList∧v.rangeAt gv 0 SP.toList:=fun v X hv hm=>by
      have x:=TBV.out v X gv hv hm;exact⟨⟨x.act.trans (by rw[HAC.out]),by have y:=x.all;rwa [HCC.out]at y⟩,by rw[←hSA];exact x.s1,by rw[←hSP];exact x.s0⟩
     have ginp:=zl gokp.dig;have gonp:=gp.one;have gszp:=gokp.len
     have gsvp:∀(v:World) (X:List (Nat × Obj)) (b:Nat),St W v J X→(b,Obj.cells gp.cells 26 (0,0))∈X→v.rangeAt b 0 gp.cells.toList:=fun v X b hv hm j u hj=>by rw[Nat.zero_add,hv.cell hm j];simpa using hj
     have kSp:=fun(v:World) (X:List (Nat × Obj)) (hv:St W v J X)=>b_set 0 gp gokp hv
     have hzp:=Cg.size (c:=setC 0 gp) gokp;unfold Slt.val Cg.val at kSp;obtain⟨GP,hGp⟩:∃C,gp.cells=C:=⟨_,rfl⟩;obtain⟨CP,hCp⟩:∃C,(setC 0 gp).cells=C:=⟨_,rfl⟩;rw[hGp]at ginp gonp gszp gsvp kSp kT;rw[hCp]at hzp kSp
     have gfitp:0+GP.size≤zbj.size:=by rw[gszp];decide
     have gmanyp:zg zbj 0 GP.toList=GP:=by rw[zd _ _ (by rw[Array.length_toList,gszp];rfl),Array.toArray_toList]
     have hfoldp:Array.foldl (fun cs (x:Value × Nat)=>cs.setIfInBounds x.snd x.fst) zbi CP.zipIdx 0 40=CP:=yj CP _ 40 hzp rfl;have GINP:=za ginp;have GONP:=za gonp;have GSVP:=za gsvp;have KSP:=za kSp;have GFITP:=za gfitp;have GMANYP:=za gmanyp;have HCP:=za hCp;clear ginp gonp gsvp kSp gfitp gmanyp gszp hGp hCp;have gina:=zl goka.dig;have gona:=ga.one;have gsza:=goka.len
     have gsva:∀(v:World) (X:List (Nat × Obj)) (b:Nat),St W v J X→(b,Obj.cells ga.cells 26 (0,0))∈X→v.rangeAt b 0 ga.cells.toList:=fun v X b hv hm j u hj=>by rw[Nat.zero_add,hv.cell hm j];simpa using hj
     have kSa:=fun(v:World) (X:List (Nat × Obj)) (hv:St W v J X)=>b_set 1 ga goka hv
     have hza:=Cg.size (c:=setC 1 ga) goka;unfold Slt.val Cg.val at kSa;obtain⟨GA,hGa⟩:∃C,ga.cells=C:=⟨_,rfl⟩;obtain⟨CA,hCa⟩:∃C,(setC 1 ga).cells=C:=⟨_,rfl⟩;rw[hGa]at gina gona gsza gsva kSa kB;rw[hCa]at hza kSa
     have gfita:0+GA.size≤zbj.size:=by rw[gsza];decide
     have gmanya:zg zbj 0 GA.toList=GA:=by rw[zd _ _ (by rw[Array.length_toList,gsza];rfl),Array.toArray_toList]
     have hfolda:Array.foldl (fun cs (x:Value × Nat)=>cs.setIfInBounds x.snd x.fst) zbi CA.zipIdx 0 40=CA:=yj CA _ 40 hza rfl;have GINA:=za gina;have GONA:=za gona;have GSVA:=za gsva;have KSA:=za kSa;have GFITA:=za gfita;have GMANYA:=za gmanya;have HCA:=za hCa;clear gina gona gsva kSa gfita gmanya gsza hGa hCa;have hzx:=Cg.size (c:=actC 0) zS_ok
     have kX:=fun(v:World) (X:List (Nat × Obj)) (hv:St W v J X)=>zag 0 hv
     unfold Cg.val at kX;obtain⟨CX,hCx⟩:∃C,(actC 0).cells=C:=⟨_,rfl⟩;rw[hCx]at hzx kX;have hfoldx:Array.foldl (fun cs (x:Value × Nat)=>cs.setIfInBounds x.snd x.fst) zbi CX.zipIdx 0 40=CX:=yj CX _ 40 hzx rfl;have HCX:=za hCx;clear hCx;have hzb:=Cg.size (c:=booC 0) zS_ok;have hbb:=jg 0;obtain⟨CB,hCb⟩:∃C,(booC 0).cells=C:=⟨_,rfl⟩;rw[hCb]at hzb hbb;have hfoldb:Array.foldl (fun cs (x:Value × Nat)=>cs.setIfInBounds x.snd x.fst) zbi CB.zipIdx 0 40=CB:=yj CB _ 40 hzb rfl;have HCB:=za hCb;clear hCb;have HY:=za hy;have KT:=za kT;have KIP:=za kIP;have ISP:=za isp;have TF:=za tf;have HBB:=za hbb;have KB:=za kB;have KIA:=za kIA;have ISA:=za isa;have KACT:=za kX;clear hy kT kIP isp tf hbb hgp hB2 hSP ha HAC HYES HNO KI TBV kB kIA isa kX hga hB1 hSA;obtain⟨⟨vact,va⟩,-,-⟩:=TF.out _ _ HW.out (by simp);have VA:=za va;have KIN:=za (KIA.out _ _ HW.out);clear va
     go_wp2_with (with_reducible refine zb 27 rfl (by kernel_rfl) 161 (.tmp 4) rfl gv 0 rfl C _ VA.out Tryz.underlying161 rfl HVI.out ?_)
     refine KIN.out.mono ?_;rintro e w6 ⟨rfl,h6⟩;clear HW VA KIN vact
     cases B1 with
     | false=>
      have HW:=za h6;clear h6;have HR:Hid (Row 147 40 (.slice none 0 0) 0 (cgs []) []):=za (Row.nil _ _);have KAN:=za (KACT.out _ _ HW.out);go_wp2_with fail;refine KAN.out.mono ?_;rintro e wp ⟨rfl,hp⟩;have HW2:=za hp;clear hp KAN HW
      go_wp2_with ((at_builtin;refine Hid.out ?_))
      refine za ?_;refine zu (F:=(gv,.cells C 161 (0,0))::(g,.cells C 29 (0,0))::F) (L:=[]) (cs:=[]) rfl (.tmp 51) (.tmp 54) rfl (actC 0) zS_ok HCX.out rfl HR.out HW2.out rfl rfl 1 rfl (by omega) ?_;intro Aq cq wq Lq hrq hq;clear HR HW2;have HW:=za hq;have HR:=za hrq;clear hq hrq;obtain⟨⟨vact,va⟩,-,sp⟩:=TF.out _ _ HW.out (by simp);have VA:=za va;have KIN:=za (KIP.out _ _ HW.out);clear va sp vact
      go_wp2_with (with_reducible refine zb 56 rfl (by kernel_rfl) 161 (.tmp 4) rfl gv 0 rfl C _ VA.out Tryz.underlying161 rfl HVI.out ?_)
      refine KIN.out.mono ?_;rintro e wt ⟨rfl,ht⟩;have HW:=za ht;clear ht VA KIN
      cases B2 with
      | false=>
       go_wp2_with (first|(with_reducible refine zh rfl 147 _ rfl _ ?_ (HBB.out _) ?_;·go_simp)|(at_builtin;refine Hid.out ?_))
       refine za ?_;refine zu (F:=(gv,.cells C 161 (0,0))::(g,.cells C 29 (0,0))::F) (L:=Lq) (cs:=[]++[actC 0]) rfl (.tmp 75) (.tmp 78) rfl (booC 0) zS_ok HCB.out rfl HR.out HW.out rfl rfl 2 rfl (by omega) ?_;intro AZ cZ wZ LZ hrZ hZ;have HE:=za (St.mid (A:=LZ) (B:=[_,_]) hZ);have HRZ:=za hrZ;clear hZ hrZ HW HR;go_wp2_with fail
       go_ret2
       rw[HY.out];exact⟨_,_,_,rfl,HRZ.out,HE.out⟩
      | true=>
       obtain⟨-,-,sp⟩:=TF.out _ _ HW.out (by simp);have SPX:=za sp;have KTN:=za (KT.out _ _ HW.out);clear sp
       go_wp2_with (with_reducible refine zb 64 rfl (by kernel_rfl) 26 (.tmp 63) rfl gv 0 rfl SP _ SPX.out Tryz.underlying26 rfl ISP.out ?_)
       refine KTN.out.mono ?_;rintro e wu ⟨rfl,hu⟩;have hu2:=hu.alloc (.cells zbj 26);have HU:=za hu2;clear hu hu2 SPX KTN
       go_wp2_with (with_reducible refine zc rfl 26 (.tmp 10) (.tmp 66) rfl (g:=wu.heap.size) (off:=0) GP rfl rfl HU.out GFITP.out GINP.out GONP.out ?_;intro wv hv;refine Hid.out ?_)
       refine za ?_;rw[GMANYP.out]at hv;obtain⟨gt,hgt⟩:∃x,wu.heap.size=x:=⟨_,rfl⟩;rw[hgt]at hv ⊢;have r:=GSVP.out _ _ gt hv (List.mem_cons_self ..);have RX:=za r;have KSN:=za (KSP.out _ _ hv);clear r hv HU hgt
       go_wp2_with (with_reducible refine zb 70 rfl (by kernel_rfl) 26 (.tmp 10) rfl gt 0 rfl GP _ RX.out Tryz.underlying26 rfl GINP.out ?_)
       refine KSN.out.mono ?_;rintro e wx ⟨rfl,hx⟩;have hx2:=hx.perm (L':=Lq++((gt,.cells GP 26 (0,0))::(gv,.cells C 161 (0,0))::(g,.cells C 29 (0,0))::F)) ze;have HX:=za hx2;clear hx hx2 RX KSN HW
       go_wp2_with ((at_builtin;refine Hid.out ?_))
       refine za ?_;refine zu (F:=(gt,.cells GP 26 (0,0))::(gv,.cells C 161 (0,0))::(g,.cells C 29 (0,0))::F) (L:=Lq) (cs:=[]++[actC 0]) rfl (.tmp 68) (.tmp 72) rfl (setC 0 gp) gokp HCP.out rfl HR.out HX.out rfl rfl 2 rfl (by omega) ?_;intro Ay cy wy Ly hry hy;clear HR HX;have HW:=za hy;have HR:=za hry;clear hy hry
       go_wp2_with (first|(with_reducible refine zh rfl 147 _ rfl _ ?_ (HBB.out _) ?_;·go_simp)|(at_builtin;refine Hid.out ?_))
       refine za ?_;refine zu (F:=(gt,.cells GP 26 (0,0))::(gv,.cells C 161 (0,0))::(g,.cells C 29 (0,0))::F) (L:=Ly) (cs:=[]++[actC 0]++[setC 0 gp]) rfl (.tmp 75) (.tmp 78) rfl (booC 0) zS_ok HCB.out rfl HR.out HW.out rfl rfl 3 rfl (by omega) ?_;intro AZ cZ wZ LZ hrZ hZ;have HE:=za (St.mid (A:=LZ) (B:=[_,_,_]) hZ);have HRZ:=za hrZ;clear hZ hrZ HW HR;go_wp2_with fail
       go_ret2
       rw[HY.out];exact⟨_,_,_,rfl,HRZ.out,HE.out⟩
     | true=>
      obtain⟨⟨vact,-⟩,sa,-⟩:=TF.out _ _ h6 (by simp);have SAX:=za sa;have KBN:=za (KB.out _ _ h6);clear sa h6
      go_wp2_with (with_reducible refine zb 39 rfl (by kernel_rfl) 26 (.tmp 38) rfl gv 36 rfl SA _ SAX.out Tryz.underlying26 rfl ISA.out ?_)
      refine KBN.out.mono ?_;rintro e w7 ⟨rfl,h7⟩;have h8:=h7.alloc (.cells zbj 26);have H8:=za h8;clear h7 h8 SAX KBN vact
      go_wp2_with (with_reducible refine zc rfl 26 (.tmp 8) (.tmp 41) rfl (g:=w7.heap.size) (off:=0) GA rfl rfl H8.out GFITA.out GINA.out GONA.out ?_;intro w8 h9;refine Hid.out ?_)
      refine za ?_;rw[GMANYA.out]at h9;obtain⟨g8,hg8⟩:∃x,w7.heap.size=x:=⟨_,rfl⟩;rw[hg8]at h9 ⊢;have r:=GSVA.out _ _ g8 h9 (List.mem_cons_self ..);obtain⟨⟨vact,-⟩,-,-⟩:=TF.out _ _ h9 (by simp);have RX:=za r;have KSN:=za (KSA.out _ _ h9);clear r h9 H8 hg8
      go_wp2_with (with_reducible refine zb 47 rfl (by kernel_rfl) 26 (.tmp 8) rfl g8 0 rfl GA _ RX.out Tryz.underlying26 rfl GINA.out ?_)
      refine KSN.out.mono ?_;rintro e w10 ⟨rfl,h10⟩;have H10:=za h10;clear h10 RX KSN vact
      go_wp2_with ((at_builtin;refine Hid.out ?_))
      refine za ?_;refine zu (F:=(g8,.cells GA 26 (0,0))::(gv,.cells C 161 (0,0))::(g,.cells C 29 (0,0))::F) (L:=[]) (cs:=[]) rfl (.tmp 43) (.tmp 49) rfl (setC 1 ga) goka HCA.out rfl (Row.nil _ _) H10.out rfl rfl 1 rfl (by omega) ?_;intro A1 c1 w11 L1 hr1 h11;have HW:=za h11;have HR:=za hr1;clear h11 hr1 H10;have KAN:=za (KACT.out _ _ HW.out);go_wp2_with fail;refine KAN.out.mono ?_;rintro e wp ⟨rfl,hp⟩;have HW2:=za hp;clear hp KAN HW
      go_wp2_with ((at_builtin;refine Hid.out ?_))
      refine za ?_;refine zu (F:=(g8,.cells GA 26 (0,0))::(gv,.cells C 161 (0,0))::(g,.cells C 29 (0,0))::F) (L:=L1) (cs:=([]++[setC 1 ga])) rfl (.tmp 51) (.tmp 54) rfl (actC 0) zS_ok HCX.out rfl HR.out HW2.out rfl rfl 2 rfl (by omega) ?_;intro Aq cq wq Lq hrq hq;clear HR HW2;have HW:=za hq;have HR:=za hrq;clear hq hrq;obtain⟨⟨vact,va⟩,-,sp⟩:=TF.out _ _ HW.out (by simp);have VA:=za va;have KIN:=za (KIP.out _ _ HW.out);clear va sp vact
      go_wp2_with (with_reducible refine zb 56 rfl (by kernel_rfl) 161 (.tmp 4) rfl gv 0 rfl C _ VA.out Tryz.underlying161 rfl HVI.out ?_)
      refine KIN.out.mono ?_;rintro e wt ⟨rfl,ht⟩;have HW:=za ht;clear ht VA KIN
      cases B2 with
      | false=>
       go_wp2_with (first|(with_reducible refine zh rfl 147 _ rfl _ ?_ (HBB.out _) ?_;·go_simp)|(at_builtin;refine Hid.out ?_))
       refine za ?_;refine zu (F:=(g8,.cells GA 26 (0,0))::(gv,.cells C 161 (0,0))::(g,.cells C 29 (0,0))::F) (L:=Lq) (cs:=([]++[setC 1 ga])++[actC 0]) rfl (.tmp 75) (.tmp 78) rfl (booC 0) zS_ok HCB.out rfl HR.out HW.out rfl rfl 3 rfl (by omega) ?_;intro AZ cZ wZ LZ hrZ hZ;have HE:=za (St.mid (A:=LZ) (B:=[_,_,_]) hZ);have HRZ:=za hrZ;clear hZ hrZ HW HR;go_wp2_with fail
       go_ret2
       rw[HY.out];exact⟨_,_,_,rfl,HRZ.out,HE.out⟩
      | true=>
       obtain⟨-,-,sp⟩:=TF.out _ _ HW.out (by simp);have SPX:=za sp;have KTN:=za (KT.out _ _ HW.out);clear sp
       go_wp2_with (with_reducible refine zb 64 rfl (by kernel_rfl) 26 (.tmp 63) rfl gv 0 rfl SP _ SPX.out Tryz.underlying26 rfl ISP.out ?_)
       refine KTN.out.mono ?_;rintro e wu ⟨rfl,hu⟩;have hu2:=hu.alloc (.cells zbj 26);have HU:=za hu2;clear hu hu2 SPX KTN
       go_wp2_with (with_reducible refine zc rfl 26 (.tmp 10) (.tmp 66) rfl (g:=wu.heap.size) (off:=0) GP rfl rfl HU.out GFITP.out GINP.out GONP.out ?_;intro wv hv;refine Hid.out ?_)
       refine za ?_;rw[GMANYP.out]at hv;obtain⟨gt,hgt⟩:∃x,wu.heap.size=x:=⟨_,rfl⟩;rw[hgt]at hv ⊢;have r:=GSVP.out _ _ gt hv (List.mem_cons_self ..);have RX:=za r;have KSN:=za (KSP.out _ _ hv);clear r hv HU hgt
       go_wp2_with (with_reducible refine zb 70 rfl (by kernel_rfl) 26 (.tmp 10) rfl gt 0 rfl GP _ RX.out Tryz.underlying26 rfl GINP.out ?_)
       refine KSN.out.mono ?_;rintro e wx ⟨rfl,hx⟩;have hx2:=hx.perm (L':=Lq++((gt,.cells GP 26 (0,0))::(g8,.cells GA 26 (0,0))::(gv,.cells C 161 (0,0))::(g,.cells C 29 (0,0))::F)) ze;have HX:=za hx2;clear hx hx2 RX KSN HW
       go_wp2_with ((at_builtin;refine Hid.out ?_))
       refine za ?_;refine zu (F:=(gt,.cells GP 26 (0,0))::(g8,.cells GA 26 (0,0))::(gv,.cells C 161 (0,0))::(g,.cells C 29 (0,0))::F) (L:=Lq) (cs:=([]++[setC 1 ga])++[actC 0]) rfl (.tmp 68) (.tmp 72) rfl (setC 0 gp) gokp HCP.out rfl HR.out HX.out rfl rfl 3 rfl (by omega) ?_;intro Ay cy wy Ly hry hy;clear HR HX;have HW:=za hy;have HR:=za hry;clear hy hry
       go_wp2_with (first|(with_reducible refine zh rfl 147 _ rfl _ ?_ (HBB.out _) ?_;·go_simp)|(at_builtin;refine Hid.out ?_))
       refine za ?_;refine zu (F:=(gt,.cells GP 26 (0,0))::(g8,.cells GA 26 (0,0))::(gv,.cells C 161 (0,0))::(g,.cells C 29 (0,0))::F) (L:=Ly) (cs:=([]++[setC 1 ga])++[actC 0]++[setC 0 gp]) rfl (.tmp 75) (.tmp 78) rfl (booC 0) zS_ok HCB.out rfl HR.out HW.out rfl rfl 4 rfl (by omega) ?_;intro AZ cZ wZ LZ hrZ hZ;have HE:=za (St.mid (A:=LZ) (B:=[_,_,_,_]) hZ);have HRZ:=za hrZ;clear hZ hrZ HW HR;go_wp2_with fail
       go_ret2
       rw[HY.out];exact⟨_,_,_,rfl,HRZ.out,HE.out⟩
  ·rcases HA.out with ha|ha
   ·as_aux_lemma =>
     have hy:=HYES.out HVV.out (by decide);rw[ha]at hy;have HAC:=za ha
     have kT:=fun(v:World) (X:List (Nat × Obj)) (hv:St W v J X)=>zau (t.at_ 1) (t.at_ok ok 1) hv
     have kIP:=KI.out 1 (by omega);have gokp:=zaa (t.at_ok ok 1);obtain⟨⟨gp,ep⟩,hgp⟩:∃r,tryS (t.at_ 1)=r:=⟨_,rfl⟩;rw[hgp]at gokp kT hy;obtain⟨B2,hB2⟩:∃B,((t.at_ 1).st==2)=B:=⟨_,rfl⟩;have isp:=zl (t.at_ok ok 1).dig;obtain⟨SP,hSP⟩:∃S,(t.at_ 1).cells=S:=⟨_,rfl⟩;unfold SPost Slt.val at kT;simp only at kT gokp hy
     have kB:=fun(v:World) (X:List (Nat × Obj)) (hv:St W v J X)=>zbd (t.at_ 0) (t.at_ok ok 0) hv
     have kIA:=KI.out 0 (by omega);have goka:=un (s:=t.at_ 0);obtain⟨⟨ga,ea⟩,hga⟩:∃r,badS (t.at_ 0)=r:=⟨_,rfl⟩;rw[hga]at goka kB hy;obtain⟨B1,hB1⟩:∃B,((t.at_ 0).st==2)=B:=⟨_,rfl⟩;rw[hB1]at kIA hy;have isa:=zl (t.at_ok ok 0).dig;obtain⟨SA,hSA⟩:∃S,(t.at_ 0).cells=S:=⟨_,rfl⟩;unfold SPost Slt.val at kB;simp only at kB goka hy;rw[hSA]at kB isa;rw[hB2]at kIP hy;rw[hSP]at kT isp
     have tf:∀(v:World) (X:List (Nat × Obj)),St W v J X→(gv,Obj.cells C 161 (0,0))∈X→(v.cell? ⟨gv,72,none⟩=some (.int .i64 0)∧v.rangeAt gv 0 C.toList)∧v.rangeAt gv 0 SA.toList∧v.rangeAt gv 36 SP.toList:=fun v X hv hm=>by
      have x:=TBV.out v X gv hv hm;exact⟨⟨x.act.trans (by rw[HAC.out]),by have y:=x.all;rwa [HCC.out]at y⟩,by rw[←hSA];exact x.s0,by rw[←hSP];exact x.s1⟩
     have ginp:=zl gokp.dig;have gonp:=gp.one;have gszp:=gokp.len
     have gsvp:∀(v:World) (X:List (Nat × Obj)) (b:Nat),St W v J X→(b,Obj.cells gp.cells 26 (0,0))∈X→v.rangeAt b 0 gp.cells.toList:=fun v X b hv hm j u hj=>by rw[Nat.zero_add,hv.cell hm j];simpa using hj
     have kSp:=fun(v:World) (X:List (Nat × Obj)) (hv:St W v J X)=>b_set 1 gp gokp hv
     have hzp:=Cg.size (c:=setC 1 gp) gokp;unfold Slt.val Cg.val at kSp;obtain⟨GP,hGp⟩:∃C,gp.cells=C:=⟨_,rfl⟩;obtain⟨CP,hCp⟩:∃C,(setC 1 gp).cells=C:=⟨_,rfl⟩;rw[hGp]at ginp gonp gszp gsvp kSp kT;rw[hCp]at hzp kSp
     have gfitp:0+GP.size≤zbj.size:=by rw[gszp];decide
     have gmanyp:zg zbj 0 GP.toList=GP:=by rw[zd _ _ (by rw[Array.length_toList,gszp];rfl),Array.toArray_toList]
     have hfoldp:Array.foldl (fun cs (x:Value × Nat)=>cs.setIfInBounds x.snd x.fst) zbi CP.zipIdx 0 40=CP:=yj CP _ 40 hzp rfl;have GINP:=za ginp;have GONP:=za gonp;have GSVP:=za gsvp;have KSP:=za kSp;have GFITP:=za gfitp;have GMANYP:=za gmanyp;have HCP:=za hCp;clear ginp gonp gsvp kSp gfitp gmanyp gszp hGp hCp;have gina:=zl goka.dig;have gona:=ga.one;have gsza:=goka.len
     have gsva:∀(v:World) (X:List (Nat × Obj)) (b:Nat),St W v J X→(b,Obj.cells ga.cells 26 (0,0))∈X→v.rangeAt b 0 ga.cells.toList:=fun v X b hv hm j u hj=>by rw[Nat.zero_add,hv.cell hm j];simpa using hj
     have kSa:=fun(v:World) (X:List (Nat × Obj)) (hv:St W v J X)=>b_set 0 ga goka hv
     have hza:=Cg.size (c:=setC 0 ga) goka;unfold Slt.val Cg.val at kSa;obtain⟨GA,hGa⟩:∃C,ga.cells=C:=⟨_,rfl⟩;obtain⟨CA,hCa⟩:∃C,(setC 0 ga).cells=C:=⟨_,rfl⟩;rw[hGa]at gina gona gsza gsva kSa kB;rw[hCa]at hza kSa
     have gfita:0+GA.size≤zbj.size:=by rw[gsza];decide
     have gmanya:zg zbj 0 GA.toList=GA:=by rw[zd _ _ (by rw[Array.length_toList,gsza];rfl),Array.toArray_toList]
     have hfolda:Array.foldl (fun cs (x:Value × Nat)=>cs.setIfInBounds x.snd x.fst) zbi CA.zipIdx 0 40=CA:=yj CA _ 40 hza rfl;have GINA:=za gina;have GONA:=za gona;have GSVA:=za gsva;have KSA:=za kSa;have GFITA:=za gfita;have GMANYA:=za gmanya;have HCA:=za hCa;clear gina gona gsva kSa gfita gmanya gsza hGa hCa;have hzx:=Cg.size (c:=actC 1) zS_ok
     have kX:=fun(v:World) (X:List (Nat × Obj)) (hv:St W v J X)=>zag 1 hv
     unfold Cg.val at kX;obtain⟨CX,hCx⟩:∃C,(actC 1).cells=C:=⟨_,rfl⟩;rw[hCx]at hzx kX;have hfoldx:Array.foldl (fun cs (x:Value × Nat)=>cs.setIfInBounds x.snd x.fst) zbi CX.zipIdx 0 40=CX:=yj CX _ 40 hzx rfl;have HCX:=za hCx;clear hCx;have hzb:=Cg.size (c:=booC 1) zS_ok;have hbb:=jg 1;obtain⟨CB,hCb⟩:∃C,(booC 1).cells=C:=⟨_,rfl⟩;rw[hCb]at hzb hbb;have hfoldb:Array.foldl (fun cs (x:Value × Nat)=>cs.setIfInBounds x.snd x.fst) zbi CB.zipIdx 0 40=CB:=yj CB _ 40 hzb rfl;have HCB:=za hCb;clear hCb;have HY:=za hy;have KT:=za kT;have KIP:=za kIP;have ISP:=za isp;have TF:=za tf;have HBB:=za hbb;have KB:=za kB;have KIA:=za kIA;have ISA:=za isa;have KACT:=za kX;clear hy kT kIP isp tf hbb hgp hB2 hSP ha HAC HYES HNO KI TBV kB kIA isa kX hga hB1 hSA;obtain⟨⟨vact,va⟩,-,-⟩:=TF.out _ _ HW.out (by simp);have VA:=za va;have KIN:=za (KIA.out _ _ HW.out);clear va
     go_wp2_with (with_reducible refine zb 27 rfl (by kernel_rfl) 161 (.tmp 4) rfl gv 0 rfl C _ VA.out Tryz.underlying161 rfl HVI.out ?_)
     refine KIN.out.mono ?_;rintro e w6 ⟨rfl,h6⟩;clear HW VA KIN vact
     cases B1 with
     | false=>
      have HW:=za h6;clear h6;have HR:Hid (Row 147 40 (.slice none 0 0) 0 (cgs []) []):=za (Row.nil _ _);have KAN:=za (KACT.out _ _ HW.out);go_wp2_with fail;refine KAN.out.mono ?_;rintro e wp ⟨rfl,hp⟩;have HW2:=za hp;clear hp KAN HW
      go_wp2_with ((at_builtin;refine Hid.out ?_))
      refine za ?_;refine zu (F:=(gv,.cells C 161 (0,0))::(g,.cells C 29 (0,0))::F) (L:=[]) (cs:=[]) rfl (.tmp 51) (.tmp 54) rfl (actC 1) zS_ok HCX.out rfl HR.out HW2.out rfl rfl 1 rfl (by omega) ?_;intro Aq cq wq Lq hrq hq;clear HR HW2;have HW:=za hq;have HR:=za hrq;clear hq hrq;obtain⟨⟨vact,va⟩,-,sp⟩:=TF.out _ _ HW.out (by simp);have VA:=za va;have KIN:=za (KIP.out _ _ HW.out);clear va sp vact
      go_wp2_with (with_reducible refine zb 56 rfl (by kernel_rfl) 161 (.tmp 4) rfl gv 0 rfl C _ VA.out Tryz.underlying161 rfl HVI.out ?_)
      refine KIN.out.mono ?_;rintro e wt ⟨rfl,ht⟩;have HW:=za ht;clear ht VA KIN
      cases B2 with
      | false=>
       go_wp2_with (first|(with_reducible refine zh rfl 147 _ rfl _ ?_ (HBB.out _) ?_;·go_simp)|(at_builtin;refine Hid.out ?_))
       refine za ?_;refine zu (F:=(gv,.cells C 161 (0,0))::(g,.cells C 29 (0,0))::F) (L:=Lq) (cs:=[]++[actC 1]) rfl (.tmp 75) (.tmp 78) rfl (booC 1) zS_ok HCB.out rfl HR.out HW.out rfl rfl 2 rfl (by omega) ?_;intro AZ cZ wZ LZ hrZ hZ;have HE:=za (St.mid (A:=LZ) (B:=[_,_]) hZ);have HRZ:=za hrZ;clear hZ hrZ HW HR;go_wp2_with fail
       go_ret2
       rw[HY.out];exact⟨_,_,_,rfl,HRZ.out,HE.out⟩
      | true=>
       obtain⟨-,-,sp⟩:=TF.out _ _ HW.out (by simp);have SPX:=za sp;have KTN:=za (KT.out _ _ HW.out);clear sp
       go_wp2_with (with_reducible refine zb 64 rfl (by kernel_rfl) 26 (.tmp 63) rfl gv 36 rfl SP _ SPX.out Tryz.underlying26 rfl ISP.out ?_)
       refine KTN.out.mono ?_;rintro e wu ⟨rfl,hu⟩;have hu2:=hu.alloc (.cells zbj 26);have HU:=za hu2;clear hu hu2 SPX KTN
       go_wp2_with (with_reducible refine zc rfl 26 (.tmp 10) (.tmp 66) rfl (g:=wu.heap.size) (off:=0) GP rfl rfl HU.out GFITP.out GINP.out GONP.out ?_;intro wv hv;refine Hid.out ?_)
       refine za ?_;rw[GMANYP.out]at hv;obtain⟨gt,hgt⟩:∃x,wu.heap.size=x:=⟨_,rfl⟩;rw[hgt]at hv ⊢;have r:=GSVP.out _ _ gt hv (List.mem_cons_self ..);have RX:=za r;have KSN:=za (KSP.out _ _ hv);clear r hv HU hgt
       go_wp2_with (with_reducible refine zb 70 rfl (by kernel_rfl) 26 (.tmp 10) rfl gt 0 rfl GP _ RX.out Tryz.underlying26 rfl GINP.out ?_)
       refine KSN.out.mono ?_;rintro e wx ⟨rfl,hx⟩;have hx2:=hx.perm (L':=Lq++((gt,.cells GP 26 (0,0))::(gv,.cells C 161 (0,0))::(g,.cells C 29 (0,0))::F)) ze;have HX:=za hx2;clear hx hx2 RX KSN HW
       go_wp2_with ((at_builtin;refine Hid.out ?_))
       refine za ?_;refine zu (F:=(gt,.cells GP 26 (0,0))::(gv,.cells C 161 (0,0))::(g,.cells C 29 (0,0))::F) (L:=Lq) (cs:=[]++[actC 1]) rfl (.tmp 68) (.tmp 72) rfl (setC 1 gp) gokp HCP.out rfl HR.out HX.out rfl rfl 2 rfl (by omega) ?_;intro Ay cy wy Ly hry hy;clear HR HX;have HW:=za hy;have HR:=za hry;clear hy hry
       go_wp2_with (first|(with_reducible refine zh rfl 147 _ rfl _ ?_ (HBB.out _) ?_;·go_simp)|(at_builtin;refine Hid.out ?_))
       refine za ?_;refine zu (F:=(gt,.cells GP 26 (0,0))::(gv,.cells C 161 (0,0))::(g,.cells C 29 (0,0))::F) (L:=Ly) (cs:=[]++[actC 1]++[setC 1 gp]) rfl (.tmp 75) (.tmp 78) rfl (booC 1) zS_ok HCB.out rfl HR.out HW.out rfl rfl 3 rfl (by omega) ?_;intro AZ cZ wZ LZ hrZ hZ;have HE:=za (St.mid (A:=LZ) (B:=[_,_,_]) hZ);have HRZ:=za hrZ;clear hZ hrZ HW HR;go_wp2_with fail
       go_ret2
       rw[HY.out];exact⟨_,_,_,rfl,HRZ.out,HE.out⟩
     | true=>
      obtain⟨⟨vact,-⟩,sa,-⟩:=TF.out _ _ h6 (by simp);have SAX:=za sa;have KBN:=za (KB.out _ _ h6);clear sa h6
      go_wp2_with (with_reducible refine zb 39 rfl (by kernel_rfl) 26 (.tmp 38) rfl gv 0 rfl SA _ SAX.out Tryz.underlying26 rfl ISA.out ?_)
      refine KBN.out.mono ?_;rintro e w7 ⟨rfl,h7⟩;have h8:=h7.alloc (.cells zbj 26);have H8:=za h8;clear h7 h8 SAX KBN vact
      go_wp2_with (with_reducible refine zc rfl 26 (.tmp 8) (.tmp 41) rfl (g:=w7.heap.size) (off:=0) GA rfl rfl H8.out GFITA.out GINA.out GONA.out ?_;intro w8 h9;refine Hid.out ?_)
      refine za ?_;rw[GMANYA.out]at h9;obtain⟨g8,hg8⟩:∃x,w7.heap.size=x:=⟨_,rfl⟩;rw[hg8]at h9 ⊢;have r:=GSVA.out _ _ g8 h9 (List.mem_cons_self ..);obtain⟨⟨vact,-⟩,-,-⟩:=TF.out _ _ h9 (by simp);have RX:=za r;have KSN:=za (KSA.out _ _ h9);clear r h9 H8 hg8
      go_wp2_with (with_reducible refine zb 47 rfl (by kernel_rfl) 26 (.tmp 8) rfl g8 0 rfl GA _ RX.out Tryz.underlying26 rfl GINA.out ?_)
      refine KSN.out.mono ?_;rintro e w10 ⟨rfl,h10⟩;have H10:=za h10;clear h10 RX KSN vact
      go_wp2_with ((at_builtin;refine Hid.out ?_))
      refine za ?_;refine zu (F:=(g8,.cells GA 26 (0,0))::(gv,.cells C 161 (0,0))::(g,.cells C 29 (0,0))::F) (L:=[]) (cs:=[]) rfl (.tmp 43) (.tmp 49) rfl (setC 0 ga) goka HCA.out rfl (Row.nil _ _) H10.out rfl rfl 1 rfl (by omega) ?_;intro A1 c1 w11 L1 hr1 h11;have HW:=za h11;have HR:=za hr1;clear h11 hr1 H10;have KAN:=za (KACT.out _ _ HW.out);go_wp2_with fail;refine KAN.out.mono ?_;rintro e wp ⟨rfl,hp⟩;have HW2:=za hp;clear hp KAN HW
      go_wp2_with ((at_builtin;refine Hid.out ?_))
      refine za ?_;refine zu (F:=(g8,.cells GA 26 (0,0))::(gv,.cells C 161 (0,0))::(g,.cells C 29 (0,0))::F) (L:=L1) (cs:=([]++[setC 0 ga])) rfl (.tmp 51) (.tmp 54) rfl (actC 1) zS_ok HCX.out rfl HR.out HW2.out rfl rfl 2 rfl (by omega) ?_;intro Aq cq wq Lq hrq hq;clear HR HW2;have HW:=za hq;have HR:=za hrq;clear hq hrq;obtain⟨⟨vact,va⟩,-,sp⟩:=TF.out _ _ HW.out (by simp);have VA:=za va;have KIN:=za (KIP.out _ _ HW.out);clear va sp vact
      go_wp2_with (with_reducible refine zb 56 rfl (by kernel_rfl) 161 (.tmp 4) rfl gv 0 rfl C _ VA.out Tryz.underlying161 rfl HVI.out ?_)
      refine KIN.out.mono ?_;rintro e wt ⟨rfl,ht⟩;have HW:=za ht;clear ht VA KIN
      cases B2 with
      | false=>
       go_wp2_with (first|(with_reducible refine zh rfl 147 _ rfl _ ?_ (HBB.out _) ?_;·go_simp)|(at_builtin;refine Hid.out ?_))
       refine za ?_;refine zu (F:=(g8,.cells GA 26 (0,0))::(gv,.cells C 161 (0,0))::(g,.cells C 29 (0,0))::F) (L:=Lq) (cs:=([]++[setC 0 ga])++[actC 1]) rfl (.tmp 75) (.tmp 78) rfl (booC 1) zS_ok HCB.out rfl HR.out HW.out rfl rfl 3 rfl (by omega) ?_;intro AZ cZ wZ LZ hrZ hZ;have HE:=za (St.mid (A:=LZ) (B:=[_,_,_]) hZ);have HRZ:=za hrZ;clear hZ hrZ HW HR;go_wp2_with fail
       go_ret2
       rw[HY.out];exact⟨_,_,_,rfl,HRZ.out,HE.out⟩
      | true=>
       obtain⟨-,-,sp⟩:=TF.out _ _ HW.out (by simp);have SPX:=za sp;have KTN:=za (KT.out _ _ HW.out);clear sp
       go_wp2_with (with_reducible refine zb 64 rfl (by kernel_rfl) 26 (.tmp 63) rfl gv 36 rfl SP _ SPX.out Tryz.underlying26 rfl ISP.out ?_)
       refine KTN.out.mono ?_;rintro e wu ⟨rfl,hu⟩;have hu2:=hu.alloc (.cells zbj 26);have HU:=za hu2;clear hu hu2 SPX KTN
       go_wp2_with (with_reducible refine zc rfl 26 (.tmp 10) (.tmp 66) rfl (g:=wu.heap.size) (off:=0) GP rfl rfl HU.out GFITP.out GINP.out GONP.out ?_;intro wv hv;refine Hid.out ?_)
       refine za ?_;rw[GMANYP.out]at hv;obtain⟨gt,hgt⟩:∃x,wu.heap.size=x:=⟨_,rfl⟩;rw[hgt]at hv ⊢;have r:=GSVP.out _ _ gt hv (List.mem_cons_self ..);have RX:=za r;have KSN:=za (KSP.out _ _ hv);clear r hv HU hgt
       go_wp2_with (with_reducible refine zb 70 rfl (by kernel_rfl) 26 (.tmp 10) rfl gt 0 rfl GP _ RX.out Tryz.underlying26 rfl GINP.out ?_)
       refine KSN.out.mono ?_;rintro e wx ⟨rfl,hx⟩;have hx2:=hx.perm (L':=Lq++((gt,.cells GP 26 (0,0))::(g8,.cells GA 26 (0,0))::(gv,.cells C 161 (0,0))::(g,.cells C 29 (0,0))::F)) ze;have HX:=za hx2;clear hx hx2 RX KSN HW
       go_wp2_with ((at_builtin;refine Hid.out ?_))
       refine za ?_;refine zu (F:=(gt,.cells GP 26 (0,0))::(g8,.cells GA 26 (0,0))::(gv,.cells C 161 (0,0))::(g,.cells C 29 (0,0))::F) (L:=Lq) (cs:=([]++[setC 0 ga])++[actC 1]) rfl (.tmp 68) (.tmp 72) rfl (setC 1 gp) gokp HCP.out rfl HR.out HX.out rfl rfl 3 rfl (by omega) ?_;intro Ay cy wy Ly hry hy;clear HR HX;have HW:=za hy;have HR:=za hry;clear hy hry
       go_wp2_with (first|(with_reducible refine zh rfl 147 _ rfl _ ?_ (HBB.out _) ?_;·go_simp)|(at_builtin;refine Hid.out ?_))
       refine za ?_;refine zu (F:=(gt,.cells GP 26 (0,0))::(g8,.cells GA 26 (0,0))::(gv,.cells C 161 (0,0))::(g,.cells C 29 (0,0))::F) (L:=Ly) (cs:=([]++[setC 0 ga])++[actC 1]++[setC 1 gp]) rfl (.tmp 75) (.tmp 78) rfl (booC 1) zS_ok HCB.out rfl HR.out HW.out rfl rfl 4 rfl (by omega) ?_;intro AZ cZ wZ LZ hrZ hZ;have HE:=za (St.mid (A:=LZ) (B:=[_,_,_,_]) hZ);have HRZ:=za hrZ;clear hZ hrZ HW HR;go_wp2_with fail
       go_ret2
       rw[HY.out];exact⟨_,_,_,rfl,HRZ.out,HE.out⟩
   ·as_aux_lemma =>
     have hy:=HYES.out HVV.out (by decide);rw[ha]at hy;have HAC:=za ha
     have kT:=fun(v:World) (X:List (Nat × Obj)) (hv:St W v J X)=>zau (t.at_ 1) (t.at_ok ok 1) hv
     have kIP:=KI.out 1 (by omega);have gokp:=zaa (t.at_ok ok 1);obtain⟨⟨gp,ep⟩,hgp⟩:∃r,tryS (t.at_ 1)=r:=⟨_,rfl⟩;rw[hgp]at gokp kT hy;obtain⟨B2,hB2⟩:∃B,((t.at_ 1).st==2)=B:=⟨_,rfl⟩;have isp:=zl (t.at_ok ok 1).dig;obtain⟨SP,hSP⟩:∃S,(t.at_ 1).cells=S:=⟨_,rfl⟩;unfold SPost Slt.val at kT;simp only at kT gokp hy;rw[hB2]at kIP hy;rw[hSP]at kT isp
     have tf:∀(v:World) (X:List (Nat × Obj)),St W v J X→(gv,Obj.cells C 161 (0,0))∈X→(v.cell? ⟨gv,72,none⟩=some (.int .i64 1)∧v.rangeAt gv 0 C.toList)∧v.rangeAt gv 36 SP.toList∧v.rangeAt gv 36 SP.toList:=fun v X hv hm=>by
      have x:=TBV.out v X gv hv hm;exact⟨⟨x.act.trans (by rw[HAC.out]),by have y:=x.all;rwa [HCC.out]at y⟩,by rw[←hSP];exact x.s1,by rw[←hSP];exact x.s1⟩
     have ginp:=zl gokp.dig;have gonp:=gp.one;have gszp:=gokp.len
     have gsvp:∀(v:World) (X:List (Nat × Obj)) (b:Nat),St W v J X→(b,Obj.cells gp.cells 26 (0,0))∈X→v.rangeAt b 0 gp.cells.toList:=fun v X b hv hm j u hj=>by rw[Nat.zero_add,hv.cell hm j];simpa using hj
     have kSp:=fun(v:World) (X:List (Nat × Obj)) (hv:St W v J X)=>b_set 1 gp gokp hv
     have hzp:=Cg.size (c:=setC 1 gp) gokp;unfold Slt.val Cg.val at kSp;obtain⟨GP,hGp⟩:∃C,gp.cells=C:=⟨_,rfl⟩;obtain⟨CP,hCp⟩:∃C,(setC 1 gp).cells=C:=⟨_,rfl⟩;rw[hGp]at ginp gonp gszp gsvp kSp kT;rw[hCp]at hzp kSp
     have gfitp:0+GP.size≤zbj.size:=by rw[gszp];decide
     have gmanyp:zg zbj 0 GP.toList=GP:=by rw[zd _ _ (by rw[Array.length_toList,gszp];rfl),Array.toArray_toList]
     have hfoldp:Array.foldl (fun cs (x:Value × Nat)=>cs.setIfInBounds x.snd x.fst) zbi CP.zipIdx 0 40=CP:=yj CP _ 40 hzp rfl;have GINP:=za ginp;have GONP:=za gonp;have GSVP:=za gsvp;have KSP:=za kSp;have GFITP:=za gfitp;have GMANYP:=za gmanyp;have HCP:=za hCp;clear ginp gonp gsvp kSp gfitp gmanyp gszp hGp hCp;have hzb:=Cg.size (c:=booC 1) zS_ok;have hbb:=jg 1;obtain⟨CB,hCb⟩:∃C,(booC 1).cells=C:=⟨_,rfl⟩;rw[hCb]at hzb hbb;have hfoldb:Array.foldl (fun cs (x:Value × Nat)=>cs.setIfInBounds x.snd x.fst) zbi CB.zipIdx 0 40=CB:=yj CB _ 40 hzb rfl;have HCB:=za hCb;clear hCb;have HY:=za hy;have KT:=za kT;have KIP:=za kIP;have ISP:=za isp;have TF:=za tf;have HBB:=za hbb;clear hy kT kIP isp tf hbb hgp hB2 hSP ha HAC HYES HNO KI TBV;obtain⟨⟨vact,-⟩,-,-⟩:=TF.out _ _ HW.out (by simp);have HR:Hid (Row 147 40 (.slice none 0 0) 0 (cgs []) []):=za (Row.nil _ _);obtain⟨⟨vact,va⟩,-,sp⟩:=TF.out _ _ HW.out (by simp);have VA:=za va;have KIN:=za (KIP.out _ _ HW.out);clear va sp
     go_wp2_with (with_reducible refine zb 56 rfl (by kernel_rfl) 161 (.tmp 4) rfl gv 0 rfl C _ VA.out Tryz.underlying161 rfl HVI.out ?_)
     refine KIN.out.mono ?_;rintro e wt ⟨rfl,ht⟩;have HW:=za ht;clear ht VA KIN
     cases B2 with
     | false=>
      go_wp2_with (first|(with_reducible refine zh rfl 147 _ rfl _ ?_ (HBB.out _) ?_;·go_simp)|(at_builtin;refine Hid.out ?_))
      refine za ?_;refine zu (F:=(gv,.cells C 161 (0,0))::(g,.cells C 29 (0,0))::F) (L:=[]) (cs:=[]) rfl (.tmp 75) (.tmp 78) rfl (booC 1) zS_ok HCB.out rfl HR.out HW.out rfl rfl 1 rfl (by omega) ?_;intro AZ cZ wZ LZ hrZ hZ;have HE:=za (St.mid (A:=LZ) (B:=[_,_]) hZ);have HRZ:=za hrZ;clear hZ hrZ HW HR;go_wp2_with fail
      go_ret2
      rw[HY.out];exact⟨_,_,_,rfl,HRZ.out,HE.out⟩
     | true=>
      obtain⟨-,-,sp⟩:=TF.out _ _ HW.out (by simp);have SPX:=za sp;have KTN:=za (KT.out _ _ HW.out);clear sp
      go_wp2_with (with_reducible refine zb 64 rfl (by kernel_rfl) 26 (.tmp 63) rfl gv 36 rfl SP _ SPX.out Tryz.underlying26 rfl ISP.out ?_)
      refine KTN.out.mono ?_;rintro e wu ⟨rfl,hu⟩;have hu2:=hu.alloc (.cells zbj 26);have HU:=za hu2;clear hu hu2 SPX KTN
      go_wp2_with (with_reducible refine zc rfl 26 (.tmp 10) (.tmp 66) rfl (g:=wu.heap.size) (off:=0) GP rfl rfl HU.out GFITP.out GINP.out GONP.out ?_;intro wv hv;refine Hid.out ?_)
      refine za ?_;rw[GMANYP.out]at hv;obtain⟨gt,hgt⟩:∃x,wu.heap.size=x:=⟨_,rfl⟩;rw[hgt]at hv ⊢;have r:=GSVP.out _ _ gt hv (List.mem_cons_self ..);have RX:=za r;have KSN:=za (KSP.out _ _ hv);clear r hv HU hgt
      go_wp2_with (with_reducible refine zb 70 rfl (by kernel_rfl) 26 (.tmp 10) rfl gt 0 rfl GP _ RX.out Tryz.underlying26 rfl GINP.out ?_)
      refine KSN.out.mono ?_;rintro e wx ⟨rfl,hx⟩;have hx2:=hx.perm (L':=[]++((gt,.cells GP 26 (0,0))::(gv,.cells C 161 (0,0))::(g,.cells C 29 (0,0))::F)) ze;have HX:=za hx2;clear hx hx2 RX KSN HW
      go_wp2_with ((at_builtin;refine Hid.out ?_))
      refine za ?_;refine zu (F:=(gt,.cells GP 26 (0,0))::(gv,.cells C 161 (0,0))::(g,.cells C 29 (0,0))::F) (L:=[]) (cs:=[]) rfl (.tmp 68) (.tmp 72) rfl (setC 1 gp) gokp HCP.out rfl HR.out HX.out rfl rfl 1 rfl (by omega) ?_;intro Ay cy wy Ly hry hy;clear HR HX;have HW:=za hy;have HR:=za hry;clear hy hry
      go_wp2_with (first|(with_reducible refine zh rfl 147 _ rfl _ ?_ (HBB.out _) ?_;·go_simp)|(at_builtin;refine Hid.out ?_))
      refine za ?_;refine zu (F:=(gt,.cells GP 26 (0,0))::(gv,.cells C 161 (0,0))::(g,.cells C 29 (0,0))::F) (L:=Ly) (cs:=[]++[setC 1 gp]) rfl (.tmp 75) (.tmp 78) rfl (booC 1) zS_ok HCB.out rfl HR.out HW.out rfl rfl 2 rfl (by omega) ?_;intro AZ cZ wZ LZ hrZ hZ;have HE:=za (St.mid (A:=LZ) (B:=[_,_,_]) hZ);have HRZ:=za hrZ;clear hZ hrZ HW HR;go_wp2_with fail
      go_ret2
      rw[HY.out];exact⟨_,_,_,rfl,HRZ.out,HE.out⟩
end
end Go.Proofs.YtnjnooeldkideaaGreatDoor
