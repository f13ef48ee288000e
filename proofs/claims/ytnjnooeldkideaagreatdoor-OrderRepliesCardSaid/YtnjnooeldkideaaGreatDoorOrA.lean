/- table: changes are applied. -/
import Derived.Test.YtnjnooeldkideaaGreatDoorOrS
namespace Go.Proofs.YtnjnooeldkideaaGreatDoor
set_option maxRecDepth 100000
set_option maxHeartbeats 16000000
set_option linter.unusedVariables false
set_option linter.unusedSimpArgs false
open Go.RowKit Go.Lib Go.Deep
section
variable {W w:World} {J:Nat→Option Obj} {t:Tb} {F:List (Nat × Obj)}
def yl:Tb→List Cg→Option Tb
 | t,[]=>some t
 | t,c::cs=>if c.kind=1 then yl (t.put c.slot c.tos) cs else if c.kind=2 then yl { t with act:=c.n } cs else if c.kind=3 then yl { t with boo:=c.n } cs else if c.ver < t.flo then none else yl { t with flo:=c.ver } cs
def zv (t:Tb) (cs:List Cg):Tb × Int:=if zx t=true∧cs.all crT=true then (match yl t cs with|some u=>(u,0)|none=>(zTb,111)) else (zTb,111)
def APost (W:World) (J:Nat→Option Obj) (F:List (Nat × Obj)) (r:Tb × Int) (e:Ending) (w':World):Prop:=e=.returned (.tuple #[r.1.val,.int .i64 r.2])∧St W w' J F
theorem run_build_ztb (w:World):(Instr.build 29 #[]).run Tryz.prog w=.ok (.agg zTb.cells) w:=run_build w _ _ _ (by kernel_rfl)
theorem b_apply {cs:List Cg} {A:Option Addr} {n c:Nat} {L:List (Nat × Obj)} (ok:t.Ok) (hf:∀c∈cs,FormC c) (hr:Row 147 40 (.slice A n c) n (cgs cs) L) (h8:cs.length≤8) (h:St W w J (L++F)) :
  Calls Tryz.prog 65 #[t.val,.slice A n c] w (APost W J (L++F) (zv t cs)):=by
 obtain⟨hn,hrow⟩:=zba hf hr;have h1:=(h.alloc (.cells t.cells 29)).alloc (.cells Tryz.zeroCells29 29);have h0:=h.alloc (.cells t.cells 29);obtain⟨g,hg⟩:∃g,w.heap.size=g:=⟨_,rfl⟩;rw[World.size_alloc,hg]at h1;rw[hg]at h0
 have kR:=fun(v:World) (X:List (Nat × Obj)) (hv:St W v J X)=>tb_right t ok hv
 have kT:=fun(v:World) (X:List (Nat × Obj)) (hv:St W v J (L++X))=>b_trans hf hr h8 hv
 obtain⟨V,hV⟩:∃V,zx t=V:=⟨_,rfl⟩;obtain⟨Q,hQ⟩:∃V,cs.all crT=V:=⟨_,rfl⟩
 have hcr:Q=true→∀x∈cs,crT x=true:=fun hq=>by rw[←hQ,List.all_eq_true]at hq;exact hq
 obtain⟨R,hR⟩:∃R,zv t cs=R:=⟨_,rfl⟩;rw[hR];unfold zv at hR;rw[hV,hQ]at hR;rw[hV]at kR;rw[hQ]at kT
 have tall:∀(v:World) (X:List (Nat × Obj)) (b:Nat) (u:Tb),u.Ok→St W v J X→(b,Obj.cells u.cells 29 (0,0))∈X→v.rangeAt b 0 u.cells.toList:=fun v X b u uok hv hm=>(hv.tb (T:=29) uok hm).all
 have ti:=z7 ok;obtain⟨ZT,hZT⟩:∃Z,zTb.cells=Z:=⟨_,rfl⟩;have zsz:=Tb.size zt;have zin:=z7 zt;have zon:=zTb.one;have zbz:=run_build_ztb;rw[hZT]at zsz zin zon zbz;have z75:=qu
 have zf:0+ZT.size≤Tryz.zeroCells29.size:=by rw[zsz,z75];omega
 have zm:zg Tryz.zeroCells29 0 ZT.toList=ZT:=by rw[zd _ _ (by rw[Array.length_toList,zsz,z75]),Array.toArray_toList]
 have HZT:=za hZT;have HZI:=za zin;have HZO:=za zon;have HBZ:=za zbz;have HZF:=za zf;have HZM:=za zm;have HZ75:=za z75;have HR:=za hR;have KR:=za (kR _ _ h1);have KT:=za kT;have TALL:=za tall;have HCR:=za hcr;have HROW:=za hrow;have HFC:=za hf;have H1:=za h1;have HTI:=za ti;have HN:=za hn;have HOK:=za ok;have RT0:=za (tall _ _ g t ok h1 (by simp))
 have n8:(n:Int)≤8:=by omega
 clear h h0 h1 kR kT hcr hR tall hrow hf ti hV hQ hr h8 hn hZT zsz zin zon zbz zf zm z75;unfold Tb.val at *;obtain⟨C0,hC0⟩:∃C,t.cells=C:=⟨_,rfl⟩;have HC0:=za hC0;rw[hC0]at KR H1 HTI RT0 ⊢;clear hC0 ok
 go_enter Tryz.func65,Tryz.ntmps65
 go_wp2_with (with_reducible refine zb 8 rfl (by kernel_rfl) 29 (.tmp 2) rfl g 0 rfl C0 _ RT0.out Tryz.underlying29 rfl HTI.out ?_)
 refine KR.out.mono ?_;rintro e w2 ⟨rfl,h2⟩
 cases V with
 | false=>
  have HR2:Hid (R=(zTb,(111:Int))):=za (by rw[←HR.out];simp);have H2:=za h2;clear h2 HR;have HR:=HR2
  go_wp2_with (first|(with_reducible refine zh rfl 29 _ rfl _ ?_ (HBZ.out _) ?_;·go_simp)|(with_reducible refine zc rfl 29 (.tmp 4) (.tmp 16) rfl (g:=g+1) (off:=0) ZT rfl rfl H2.out HZF.out HZI.out HZO.out ?_;intro w5 h6;refine Hid.out ?_))
  refine za ?_;rw[HZM.out]at h6;have HZ:=za h6;clear h6 H2;go_wp2_with fail;refine bodyPost_ret (zr rfl _ _ (g+1) 29 ZT (0,0) _ _ rfl rfl (HZ.out.own ((g+1),.cells ZT 29 (0,0)) (by simp)) Tryz.underlying29 (by kernel_rfl) HZI.out) rfl ?_;rw[HR.out];exact⟨by rw[←HZT.out];rfl,HZ.out.keep [(g+1,.cells ZT 29 (0,0)),(g,.cells C0 29 (0,0))]⟩
 | true=>
  have h3:=h2.perm (L':=L++((g+1,.cells Tryz.zeroCells29 29 (0,0))::(g,.cells C0 29 (0,0))::F)) ze;have KT3:=za (KT.out _ _ h3);clear h2 h3 KT;go_wp2_with fail;refine KT3.out.mono ?_;rintro e w3 ⟨rfl,h3⟩;have h4:=h3.perm (L':=(g+1,.cells Tryz.zeroCells29 29 (0,0))::(g,.cells C0 29 (0,0))::(L++F)) ze
  cases Q with
  | false=>
   have HR2:Hid (R=(zTb,(111:Int))):=za (by rw[←HR.out];simp);have H2:=za h4;clear h3 h4 HR;have HR:=HR2
   go_wp2_with (first|(with_reducible refine zh rfl 29 _ rfl _ ?_ (HBZ.out _) ?_;·go_simp)|(with_reducible refine zc rfl 29 (.tmp 4) (.tmp 16) rfl (g:=g+1) (off:=0) ZT rfl rfl H2.out HZF.out HZI.out HZO.out ?_;intro w5 h6;refine Hid.out ?_))
   refine za ?_;rw[HZM.out]at h6;have HZ:=za h6;clear h6 H2;go_wp2_with fail;refine bodyPost_ret (zr rfl _ _ (g+1) 29 ZT (0,0) _ _ rfl rfl (HZ.out.own ((g+1),.cells ZT 29 (0,0)) (by simp)) Tryz.underlying29 (by kernel_rfl) HZI.out) rfl ?_;rw[HR.out];exact⟨by rw[←HZT.out];rfl,HZ.out.keep [(g+1,.cells ZT 29 (0,0)),(g,.cells C0 29 (0,0))]⟩
  | true=>
   have HNONE:Hid (yl t cs=none→R=(zTb,(111:Int))):=za (fun hh=>by rw[←HR.out,hh];simp);have HSOME:Hid (∀u,yl t cs=some u→R=(u,(0:Int))):=za (fun u hh=>by rw[←HR.out,hh];simp);have hall:=HCR.out rfl;have HALL:=za hall;have H4:=za h4;clear h3 h4 HR hall HCR KR RT0 H1;go_wp2_with fail;obtain⟨g4,hg4⟩:∃x,g+1=x:=⟨_,rfl⟩;rw[hg4]at H4 ⊢;rw[←HC0.out]at H4;clear hg4 hg
   go_loopw [19] (fun i wr=>∃(k:Nat) (T:Tb),i=.int .i64 k∧k≤n∧T.Ok∧yl t cs=yl T (cs.drop k)∧St W wr J ((g4,.cells Tryz.zeroCells29 29 (0,0))::(g,.cells T.cells 29 (0,0))::(L++F))) (fun i _=>n-(intOf i).toNat)
   case atStart=>exact⟨0,t,rfl,by omega,HOK.out,rfl,H4.out⟩
   case round=>
    obtain⟨k,T,rfl,hk,hT,hpre,hst⟩:=hrel;clear H4
    by_cases hlt:k < n
    ·have hltI:(k:Int) < (n:Int):=by omega
     have k0:¬(k:Int) < 0:=by omega
     have hlt2:k < cs.length:=by rw[←HN.out];exact hlt
     obtain⟨x,hx⟩:∃x,cs[k]?=some x:=⟨_,List.getElem?_eq_getElem hlt2⟩;obtain⟨gA,off,cur,rfl,rfl,hcell⟩:=HROW.out k x hx;have hfx:=HFC.out x (List.mem_of_getElem? hx);have hcr:=HALL.out x (List.mem_of_getElem? hx)
     have hd:cs.drop k=x::cs.drop (k+1):=by
      have hx':=hx;rw[List.getElem?_eq_getElem hlt2]at hx'
      injection hx' with hx'
      rw[←hx'];exact List.drop_eq_getElem_cons hlt2
     clear HROW HFC HALL hlt2
     cases hfx with
     | set i s h0 h1 ok=>
      have hsz:=Cg.size (c:=setC i s) ok;have hin:=k8 (c:=setC i s) ok;have hon:=Cg.one (setC i s)
      have rg:wr.rangeAt gA (off+k*40) (setC i s).cells.toList:=fun j u hj=>by
       have hl:j < 40:=by have:=(List.getElem?_eq_some_iff.1 hj).1;rw[Array.length_toList,hsz]at this;exact this
       rw[hst.cell (g:=gA) (cs:=cur) (t:=147) (fr:=(0,0)) (by simp) (off+k*40+j),hcell j hl];simpa using hj
      have ct:∀(v:World) (Y:List (Nat × Obj)) (b:Nat),St W v J Y→(b,Obj.cells (setC i s).cells 147 (0,0))∈Y→v.cell? ⟨b,0,none⟩=some (.int .i64 1)∧v.cell? ⟨b,1,none⟩=some (.int .i64 (i))∧v.cell? ⟨b,2,none⟩=some (.int .i64 (0))∧v.cell? ⟨b,39,none⟩=some (.int .u64 (0))∧v.rangeAt b 3 (s).cells.toList:=fun v Y b hv hm=>
       ⟨hv.cell hm 0,hv.cell hm 1,hv.cell hm 2,(hv.cell hm 39).trans (Cg.g39 (c:=setC i s) ok),fun j u hj=>by
        have hj:(setC i s).tos.cells.toList[j]?=some u:=hj
        have hl:j < 36:=by have:=(List.getElem?_eq_some_iff.1 hj).1;rw[Array.length_toList,Slt.Ok.len (s:=(setC i s).tos) ok]at this;exact this
        rw[hv.cell hm (3+j),Cg.gm (c:=setC i s) ok j hl];simpa using hj⟩
      obtain⟨X,hX⟩:∃X,(setC i s).cells=X:=⟨_,rfl⟩;rw[hX]at hsz hin hon rg ct
      have hfit:0+X.size≤(zbi).size:=by rw[hsz];decide
      have hmany:zg zbi 0 X.toList=X:=by rw[zd _ _ (by rw[Array.length_toList,hsz];rfl),Array.toArray_toList]
      have flo0:=hst.cell (g:=g) (cs:=T.cells) (t:=29) (fr:=(0,0)) (by simp) 74;rw[show T.cells[74]?=some (.int .u64 T.flo) from (Tb.gt hT 2)]at flo0;have hts:=Tb.size hT;have fl0:=hT.f0;have fl1:=hT.f1;have ix:=(ul i).1 (by have q:=hcr;simp only[crT,setC,if_true]at q;simp only[Bool.and_eq_true]at q;exact q.1);have sl:=ok.len;have si:=zl ok.dig;have so:=s.one;have q0:=Tb.p0 hT s ok;have q1:=Tb.p1 hT s ok
      have sv:=fun(v:World) (Y:List (Nat × Obj)) (b:Nat) (hv:St W v J Y) (hm:(b,Obj.cells X 147 (0,0))∈Y)=>(ct v Y b hv hm).2.2.2.2
      obtain⟨S,hS⟩:∃S,s.cells=S:=⟨_,rfl⟩;rw[hS]at sl si so q0 q1 ct sv
      have hap:yl T (cs.drop k)=yl (T.put i s) (cs.drop (k+1)):=by rw[hd];rfl
      rw[hap]at hpre;obtain⟨C,hC⟩:∃C,T.cells=C:=⟨_,rfl⟩;rw[hC]at hst hts q0 q1;have HST:=za (hst.alloc (.cells zbi 147));have RG:=za rg;have CT:=za ct;have HIN:=za hin;have HON:=za hon;have HFIT:=za hfit;have HMANY:=za hmany;have HPRE:=za hpre;have HTOK:=za hT;clear hst rg ct hin hon hfit hmany hpre hT hX hC hx hcell hap hd hcr
      go_wp2_with (first|(with_reducible refine zb 22 rfl (by kernel_rfl) 147 (.tmp 21) rfl gA (off+k*40) rfl X _ RG.out Tryz.underlying147 rfl HIN.out ?_)|(with_reducible refine zc rfl 147 (.tmp 7) (.tmp 22) rfl (g:=wr.heap.size) (off:=0) X rfl rfl HST.out HFIT.out HIN.out HON.out ?_;intro w4 h4;refine Hid.out ?_))
      refine za ?_;rw[HMANY.out]at h4;obtain⟨g7,hg7⟩:∃y,wr.heap.size=y:=⟨_,rfl⟩;rw[hg7]at h4 ⊢;obtain⟨c0,c1,c2,c39,c3⟩:=CT.out _ _ g7 h4 (List.mem_cons_self ..);have h5:=h4.perm (L':=(g,.cells C 29 (0,0))::(g7,.cells X 147 (0,0))::(g4,.cells Tryz.zeroCells29 29 (0,0))::([(gA,.cells cur 147 (0,0))]++F)) ze;have flo1:=h4.cell (g:=g) (cs:=C) (t:=29) (fr:=(0,0)) (by simp) 74;have H5:=za h5;have SV:=za (sv _ _ g7 h4 (List.mem_cons_self ..));have HSI:=za si;have HSO:=za so;have Q0:=za q0;have Q1:=za q1;have F0:Hid (0+S.size≤C.size):=za (by rw[hts,sl];omega);have F1:Hid (36+S.size≤C.size):=za (by rw[hts,sl];omega);clear h4 h5 HST RG q0 q1 si so sv c3 flo1 hS
      rcases ix with rfl|rfl
      ·go_wp2_with (first|(with_reducible refine zb 30 rfl (by kernel_rfl) 26 (.tmp 29) rfl g7 3 rfl S _ SV.out Tryz.underlying26 rfl HSI.out ?_)|(with_reducible refine zc rfl 26 (.tmp 32) (.tmp 30) rfl (g:=g) (off:=0) S rfl rfl H5.out F0.out HSI.out HSO.out ?_;intro w5 h6;refine Hid.out ?_))
       refine za ?_;rw[Q0.out]at h6;have HPRE:Hid (yl t cs=yl { T with s0:=s } (cs.drop (k+1))):=HPRE;have h7:=h6.perm (L':=(g4,.cells Tryz.zeroCells29 29 (0,0))::(g,.cells ({ T with s0:=s }:Tb).cells 29 (0,0))::((g7,.cells X 147 (0,0))::([(gA,.cells cur 147 (0,0))]++F))) ze;have H7:=za (St.keep [(g7,.cells X 147 (0,0))] h7 (M:=(g4,.cells Tryz.zeroCells29 29 (0,0))::(g,.cells ({ T with s0:=s }:Tb).cells 29 (0,0))::([(gA,.cells cur 147 (0,0))]++F)) (fun i a=>by simp only[List.count_append,List.count_cons,List.count_nil];omega));clear h6 h7;go_wp2_with fail
       go_roundw
       case rel=>exact⟨k+1,({ T with s0:=s }:Tb),by go_num,by omega,⟨ok,HTOK.out.s1,HTOK.out.a0,HTOK.out.a1,HTOK.out.b0,HTOK.out.b1,HTOK.out.f0,HTOK.out.f1⟩,HPRE.out,H7.out⟩
       case measure=>simp[intOf];omega
      ·go_wp2_with (first|(with_reducible refine zb 30 rfl (by kernel_rfl) 26 (.tmp 29) rfl g7 3 rfl S _ SV.out Tryz.underlying26 rfl HSI.out ?_)|(with_reducible refine zc rfl 26 (.tmp 32) (.tmp 30) rfl (g:=g) (off:=36) S rfl rfl H5.out F1.out HSI.out HSO.out ?_;intro w5 h6;refine Hid.out ?_))
       refine za ?_;rw[Q1.out]at h6;have HPRE:Hid (yl t cs=yl { T with s1:=s } (cs.drop (k+1))):=HPRE;have h7:=h6.perm (L':=(g4,.cells Tryz.zeroCells29 29 (0,0))::(g,.cells ({ T with s1:=s }:Tb).cells 29 (0,0))::((g7,.cells X 147 (0,0))::([(gA,.cells cur 147 (0,0))]++F))) ze;have H7:=za (St.keep [(g7,.cells X 147 (0,0))] h7 (M:=(g4,.cells Tryz.zeroCells29 29 (0,0))::(g,.cells ({ T with s1:=s }:Tb).cells 29 (0,0))::([(gA,.cells cur 147 (0,0))]++F)) (fun i a=>by simp only[List.count_append,List.count_cons,List.count_nil];omega));clear h6 h7;go_wp2_with fail
       go_roundw
       case rel=>exact⟨k+1,({ T with s1:=s }:Tb),by go_num,by omega,⟨HTOK.out.s0,ok,HTOK.out.a0,HTOK.out.a1,HTOK.out.b0,HTOK.out.b1,HTOK.out.f0,HTOK.out.f1⟩,HPRE.out,H7.out⟩
       case measure=>simp[intOf];omega
     | act i h0 h1=>
      have hsz:=Cg.size (c:=actC i) zS_ok;have hin:=k8 (c:=actC i) zS_ok;have hon:=Cg.one (actC i)
      have rg:wr.rangeAt gA (off+k*40) (actC i).cells.toList:=fun j u hj=>by
       have hl:j < 40:=by have:=(List.getElem?_eq_some_iff.1 hj).1;rw[Array.length_toList,hsz]at this;exact this
       rw[hst.cell (g:=gA) (cs:=cur) (t:=147) (fr:=(0,0)) (by simp) (off+k*40+j),hcell j hl];simpa using hj
      have ct:∀(v:World) (Y:List (Nat × Obj)) (b:Nat),St W v J Y→(b,Obj.cells (actC i).cells 147 (0,0))∈Y→v.cell? ⟨b,0,none⟩=some (.int .i64 2)∧v.cell? ⟨b,1,none⟩=some (.int .i64 (0))∧v.cell? ⟨b,2,none⟩=some (.int .i64 (i))∧v.cell? ⟨b,39,none⟩=some (.int .u64 (0))∧v.rangeAt b 3 (zS).cells.toList:=fun v Y b hv hm=>
       ⟨hv.cell hm 0,hv.cell hm 1,hv.cell hm 2,(hv.cell hm 39).trans (Cg.g39 (c:=actC i) zS_ok),fun j u hj=>by
        have hj:(actC i).tos.cells.toList[j]?=some u:=hj
        have hl:j < 36:=by have:=(List.getElem?_eq_some_iff.1 hj).1;rw[Array.length_toList,Slt.Ok.len (s:=(actC i).tos) zS_ok]at this;exact this
        rw[hv.cell hm (3+j),Cg.gm (c:=actC i) zS_ok j hl];simpa using hj⟩
      obtain⟨X,hX⟩:∃X,(actC i).cells=X:=⟨_,rfl⟩;rw[hX]at hsz hin hon rg ct
      have hfit:0+X.size≤(zbi).size:=by rw[hsz];decide
      have hmany:zg zbi 0 X.toList=X:=by rw[zd _ _ (by rw[Array.length_toList,hsz];rfl),Array.toArray_toList]
      have flo0:=hst.cell (g:=g) (cs:=T.cells) (t:=29) (fr:=(0,0)) (by simp) 74;rw[show T.cells[74]?=some (.int .u64 T.flo) from (Tb.gt hT 2)]at flo0;have hts:=Tb.size hT;have fl0:=hT.f0;have fl1:=hT.f1
      have hap:yl T (cs.drop k)=yl { T with act:=i } (cs.drop (k+1)):=by rw[hd];rfl
      have qp:zg T.cells 72 [Value.int .i64 i]=({ T with act:=i }:Tb).cells:=Tb.pa hT i;rw[hap]at hpre;obtain⟨C,hC⟩:∃C,T.cells=C:=⟨_,rfl⟩;rw[hC]at hst hts qp;have HST:=za (hst.alloc (.cells zbi 147));have RG:=za rg;have CT:=za ct;have HIN:=za hin;have HON:=za hon;have HFIT:=za hfit;have HMANY:=za hmany;have HPRE:=za hpre;have HTOK:=za hT;clear hst rg ct hin hon hfit hmany hpre hT hX hC hx hcell hap hd hcr
      go_wp2_with (first|(with_reducible refine zb 22 rfl (by kernel_rfl) 147 (.tmp 21) rfl gA (off+k*40) rfl X _ RG.out Tryz.underlying147 rfl HIN.out ?_)|(with_reducible refine zc rfl 147 (.tmp 7) (.tmp 22) rfl (g:=wr.heap.size) (off:=0) X rfl rfl HST.out HFIT.out HIN.out HON.out ?_;intro w4 h4;refine Hid.out ?_))
      refine za ?_;rw[HMANY.out]at h4;obtain⟨g7,hg7⟩:∃y,wr.heap.size=y:=⟨_,rfl⟩;rw[hg7]at h4 ⊢;obtain⟨c0,c1,c2,c39,c3⟩:=CT.out _ _ g7 h4 (List.mem_cons_self ..);have h5:=h4.perm (L':=(g,.cells C 29 (0,0))::(g7,.cells X 147 (0,0))::(g4,.cells Tryz.zeroCells29 29 (0,0))::([(gA,.cells cur 147 (0,0))]++F)) ze;have flo1:=h4.cell (g:=g) (cs:=C) (t:=29) (fr:=(0,0)) (by simp) 74;have H5:=za h5;have B72:Hid (72 < C.size):=za (by rw[hts];omega);have QP:=za qp;have I1:Hid ((Tryz.prog.info? 3).map (·.size)=some 1):=za (by kernel_rfl);clear h4 h5 HST RG qp c3 flo1
      go_wp2_with (with_reducible refine zk rfl 3 (.tmp 37) (.tmp 36) rfl (g:=g) (off:=72) (.int .i64 i) rfl rfl rfl H5.out B72.out I1.out rfl ?_;intro w5 h6;refine Hid.out ?_)
      refine za ?_;rw[QP.out]at h6;have h7:=h6.perm (L':=(g4,.cells Tryz.zeroCells29 29 (0,0))::(g,.cells ({ T with act:=i }:Tb).cells 29 (0,0))::((g7,.cells X 147 (0,0))::([(gA,.cells cur 147 (0,0))]++F))) ze;have H7:=za (St.keep [(g7,.cells X 147 (0,0))] h7 (M:=(g4,.cells Tryz.zeroCells29 29 (0,0))::(g,.cells ({ T with act:=i }:Tb).cells 29 (0,0))::([(gA,.cells cur 147 (0,0))]++F)) (fun i a=>by simp only[List.count_append,List.count_cons,List.count_nil];omega));clear h6 h7;go_wp2_with fail
      go_roundw
      case rel=>exact⟨k+1,({ T with act:=i }:Tb),by go_num,by omega,⟨HTOK.out.s0,HTOK.out.s1,h0,h1,HTOK.out.b0,HTOK.out.b1,HTOK.out.f0,HTOK.out.f1⟩,HPRE.out,H7.out⟩
      case measure=>simp[intOf];omega
     | boo i h0 h1=>
      have hsz:=Cg.size (c:=booC i) zS_ok;have hin:=k8 (c:=booC i) zS_ok;have hon:=Cg.one (booC i)
      have rg:wr.rangeAt gA (off+k*40) (booC i).cells.toList:=fun j u hj=>by
       have hl:j < 40:=by have:=(List.getElem?_eq_some_iff.1 hj).1;rw[Array.length_toList,hsz]at this;exact this
       rw[hst.cell (g:=gA) (cs:=cur) (t:=147) (fr:=(0,0)) (by simp) (off+k*40+j),hcell j hl];simpa using hj
      have ct:∀(v:World) (Y:List (Nat × Obj)) (b:Nat),St W v J Y→(b,Obj.cells (booC i).cells 147 (0,0))∈Y→v.cell? ⟨b,0,none⟩=some (.int .i64 3)∧v.cell? ⟨b,1,none⟩=some (.int .i64 (0))∧v.cell? ⟨b,2,none⟩=some (.int .i64 (i))∧v.cell? ⟨b,39,none⟩=some (.int .u64 (0))∧v.rangeAt b 3 (zS).cells.toList:=fun v Y b hv hm=>
       ⟨hv.cell hm 0,hv.cell hm 1,hv.cell hm 2,(hv.cell hm 39).trans (Cg.g39 (c:=booC i) zS_ok),fun j u hj=>by
        have hj:(booC i).tos.cells.toList[j]?=some u:=hj
        have hl:j < 36:=by have:=(List.getElem?_eq_some_iff.1 hj).1;rw[Array.length_toList,Slt.Ok.len (s:=(booC i).tos) zS_ok]at this;exact this
        rw[hv.cell hm (3+j),Cg.gm (c:=booC i) zS_ok j hl];simpa using hj⟩
      obtain⟨X,hX⟩:∃X,(booC i).cells=X:=⟨_,rfl⟩;rw[hX]at hsz hin hon rg ct
      have hfit:0+X.size≤(zbi).size:=by rw[hsz];decide
      have hmany:zg zbi 0 X.toList=X:=by rw[zd _ _ (by rw[Array.length_toList,hsz];rfl),Array.toArray_toList]
      have flo0:=hst.cell (g:=g) (cs:=T.cells) (t:=29) (fr:=(0,0)) (by simp) 74;rw[show T.cells[74]?=some (.int .u64 T.flo) from (Tb.gt hT 2)]at flo0;have hts:=Tb.size hT;have fl0:=hT.f0;have fl1:=hT.f1
      have hap:yl T (cs.drop k)=yl { T with boo:=i } (cs.drop (k+1)):=by rw[hd];rfl
      have qp:zg T.cells 73 [Value.int .i64 i]=({ T with boo:=i }:Tb).cells:=Tb.pb hT i;rw[hap]at hpre;obtain⟨C,hC⟩:∃C,T.cells=C:=⟨_,rfl⟩;rw[hC]at hst hts qp;have HST:=za (hst.alloc (.cells zbi 147));have RG:=za rg;have CT:=za ct;have HIN:=za hin;have HON:=za hon;have HFIT:=za hfit;have HMANY:=za hmany;have HPRE:=za hpre;have HTOK:=za hT;clear hst rg ct hin hon hfit hmany hpre hT hX hC hx hcell hap hd hcr
      go_wp2_with (first|(with_reducible refine zb 22 rfl (by kernel_rfl) 147 (.tmp 21) rfl gA (off+k*40) rfl X _ RG.out Tryz.underlying147 rfl HIN.out ?_)|(with_reducible refine zc rfl 147 (.tmp 7) (.tmp 22) rfl (g:=wr.heap.size) (off:=0) X rfl rfl HST.out HFIT.out HIN.out HON.out ?_;intro w4 h4;refine Hid.out ?_))
      refine za ?_;rw[HMANY.out]at h4;obtain⟨g7,hg7⟩:∃y,wr.heap.size=y:=⟨_,rfl⟩;rw[hg7]at h4 ⊢;obtain⟨c0,c1,c2,c39,c3⟩:=CT.out _ _ g7 h4 (List.mem_cons_self ..);have h5:=h4.perm (L':=(g,.cells C 29 (0,0))::(g7,.cells X 147 (0,0))::(g4,.cells Tryz.zeroCells29 29 (0,0))::([(gA,.cells cur 147 (0,0))]++F)) ze;have flo1:=h4.cell (g:=g) (cs:=C) (t:=29) (fr:=(0,0)) (by simp) 74;have H5:=za h5;have B73:Hid (73 < C.size):=za (by rw[hts];omega);have QP:=za qp;have I1:Hid ((Tryz.prog.info? 3).map (·.size)=some 1):=za (by kernel_rfl);clear h4 h5 HST RG qp c3 flo1
      go_wp2_with (with_reducible refine zk rfl 3 (.tmp 42) (.tmp 41) rfl (g:=g) (off:=73) (.int .i64 i) rfl rfl rfl H5.out B73.out I1.out rfl ?_;intro w5 h6;refine Hid.out ?_)
      refine za ?_;rw[QP.out]at h6;have h7:=h6.perm (L':=(g4,.cells Tryz.zeroCells29 29 (0,0))::(g,.cells ({ T with boo:=i }:Tb).cells 29 (0,0))::((g7,.cells X 147 (0,0))::([(gA,.cells cur 147 (0,0))]++F))) ze;have H7:=za (St.keep [(g7,.cells X 147 (0,0))] h7 (M:=(g4,.cells Tryz.zeroCells29 29 (0,0))::(g,.cells ({ T with boo:=i }:Tb).cells 29 (0,0))::([(gA,.cells cur 147 (0,0))]++F)) (fun i a=>by simp only[List.count_append,List.count_cons,List.count_nil];omega));clear h6 h7;go_wp2_with fail
      go_roundw
      case rel=>exact⟨k+1,({ T with boo:=i }:Tb),by go_num,by omega,⟨HTOK.out.s0,HTOK.out.s1,HTOK.out.a0,HTOK.out.a1,h0,h1,HTOK.out.f0,HTOK.out.f1⟩,HPRE.out,H7.out⟩
      case measure=>simp[intOf];omega
     | flo i h0 h1=>
      have hsz:=Cg.size (c:=floC i) zS_ok;have hin:=k8 (c:=floC i) zS_ok;have hon:=Cg.one (floC i)
      have rg:wr.rangeAt gA (off+k*40) (floC i).cells.toList:=fun j u hj=>by
       have hl:j < 40:=by have:=(List.getElem?_eq_some_iff.1 hj).1;rw[Array.length_toList,hsz]at this;exact this
       rw[hst.cell (g:=gA) (cs:=cur) (t:=147) (fr:=(0,0)) (by simp) (off+k*40+j),hcell j hl];simpa using hj
      have ct:∀(v:World) (Y:List (Nat × Obj)) (b:Nat),St W v J Y→(b,Obj.cells (floC i).cells 147 (0,0))∈Y→v.cell? ⟨b,0,none⟩=some (.int .i64 4)∧v.cell? ⟨b,1,none⟩=some (.int .i64 (0))∧v.cell? ⟨b,2,none⟩=some (.int .i64 (0))∧v.cell? ⟨b,39,none⟩=some (.int .u64 (i))∧v.rangeAt b 3 (zS).cells.toList:=fun v Y b hv hm=>
       ⟨hv.cell hm 0,hv.cell hm 1,hv.cell hm 2,(hv.cell hm 39).trans (Cg.g39 (c:=floC i) zS_ok),fun j u hj=>by
        have hj:(floC i).tos.cells.toList[j]?=some u:=hj
        have hl:j < 36:=by have:=(List.getElem?_eq_some_iff.1 hj).1;rw[Array.length_toList,Slt.Ok.len (s:=(floC i).tos) zS_ok]at this;exact this
        rw[hv.cell hm (3+j),Cg.gm (c:=floC i) zS_ok j hl];simpa using hj⟩
      obtain⟨X,hX⟩:∃X,(floC i).cells=X:=⟨_,rfl⟩;rw[hX]at hsz hin hon rg ct
      have hfit:0+X.size≤(zbi).size:=by rw[hsz];decide
      have hmany:zg zbi 0 X.toList=X:=by rw[zd _ _ (by rw[Array.length_toList,hsz];rfl),Array.toArray_toList]
      have flo0:=hst.cell (g:=g) (cs:=T.cells) (t:=29) (fr:=(0,0)) (by simp) 74;rw[show T.cells[74]?=some (.int .u64 T.flo) from (Tb.gt hT 2)]at flo0;have hts:=Tb.size hT;have fl0:=hT.f0;have fl1:=hT.f1
      have hap:yl T (cs.drop k)=if i < T.flo then none else yl { T with flo:=i } (cs.drop (k+1)):=by rw[hd];rfl
      have qp:zg T.cells 74 [Value.int .u64 i]=({ T with flo:=i }:Tb).cells:=Tb.pf hT i;rw[hap]at hpre;have hfc:=Tb.gt hT 2;obtain⟨C,hC⟩:∃C,T.cells=C:=⟨_,rfl⟩;rw[hC]at hst hts qp hfc;have HFC74:=za hfc;clear hfc;have HST:=za (hst.alloc (.cells zbi 147));have RG:=za rg;have CT:=za ct;have HIN:=za hin;have HON:=za hon;have HFIT:=za hfit;have HMANY:=za hmany;have HPRE:=za hpre;have HTOK:=za hT;clear hst rg ct hin hon hfit hmany hpre hT hX hC hx hcell hap hd hcr
      go_wp2_with (first|(with_reducible refine zb 22 rfl (by kernel_rfl) 147 (.tmp 21) rfl gA (off+k*40) rfl X _ RG.out Tryz.underlying147 rfl HIN.out ?_)|(with_reducible refine zc rfl 147 (.tmp 7) (.tmp 22) rfl (g:=wr.heap.size) (off:=0) X rfl rfl HST.out HFIT.out HIN.out HON.out ?_;intro w4 h4;refine Hid.out ?_))
      refine za ?_;rw[HMANY.out]at h4;obtain⟨g7,hg7⟩:∃y,wr.heap.size=y:=⟨_,rfl⟩;rw[hg7]at h4 ⊢;obtain⟨c0,c1,c2,c39,c3⟩:=CT.out _ _ g7 h4 (List.mem_cons_self ..);have h5:=h4.perm (L':=(g,.cells C 29 (0,0))::(g7,.cells X 147 (0,0))::(g4,.cells Tryz.zeroCells29 29 (0,0))::([(gA,.cells cur 147 (0,0))]++F)) ze;have flo1:=h4.cell (g:=g) (cs:=C) (t:=29) (fr:=(0,0)) (by simp) 74;have H5:=za h5;rw[show C[74]?=some (.int .u64 T.flo) from HFC74.out]at flo1
      by_cases hlt2:i < T.flo
      ·have hp:=HPRE.out
       rw[if_pos hlt2]at hp;have HR:=za (HNONE.out hp);have hz:=h4.perm (L':=(g4,.cells Tryz.zeroCells29 29 (0,0))::(g7,.cells X 147 (0,0))::(g,.cells C 29 (0,0))::([(gA,.cells cur 147 (0,0))]++F)) ze;have H4:=za hz;clear h4 h5 HST RG qp c3 hp hz
       go_wp2_with (first|(with_reducible refine zh rfl 29 _ rfl _ ?_ (HBZ.out _) ?_;·go_simp)|(with_reducible refine zc rfl 29 (.tmp 4) (.tmp 50) rfl (g:=g4) (off:=0) ZT rfl rfl H4.out HZF.out HZI.out HZO.out ?_;intro w5 h6;refine Hid.out ?_))
       refine za ?_;rw[HZM.out]at h6;have HZ:=za h6;clear h6 H4;go_wp2_with fail;refine bodyPost_ret (zr rfl _ _ g4 29 ZT (0,0) _ _ rfl rfl (HZ.out.own (g4,.cells ZT 29 (0,0)) (by simp)) Tryz.underlying29 (by kernel_rfl) HZI.out) rfl ?_;rw[HR.out];exact⟨by rw[←HZT.out];rfl,HZ.out.keep [(g4,.cells ZT 29 (0,0)),(g7,.cells X 147 (0,0)),(g,.cells C 29 (0,0))]⟩
      ·have hp:=HPRE.out
       rw[if_neg hlt2]at hp;have HPRE:=za hp;clear hp;have B74:Hid (74 < C.size):=za (by rw[hts];omega);have QP:=za qp;have I1:Hid ((Tryz.prog.info? 22).map (·.size)=some 1):=za (by kernel_rfl);clear h4 h5 HST RG qp c3
       go_wp2_with (with_reducible refine zk rfl 22 (.tmp 53) (.tmp 52) rfl (g:=g) (off:=74) (.int .u64 i) rfl rfl rfl H5.out B74.out I1.out rfl ?_;intro w5 h6;refine Hid.out ?_)
       refine za ?_;rw[QP.out]at h6;have h7:=h6.perm (L':=(g4,.cells Tryz.zeroCells29 29 (0,0))::(g,.cells ({ T with flo:=i }:Tb).cells 29 (0,0))::((g7,.cells X 147 (0,0))::([(gA,.cells cur 147 (0,0))]++F))) ze;have H7:=za (St.keep [(g7,.cells X 147 (0,0))] h7 (M:=(g4,.cells Tryz.zeroCells29 29 (0,0))::(g,.cells ({ T with flo:=i }:Tb).cells 29 (0,0))::([(gA,.cells cur 147 (0,0))]++F)) (fun i a=>by simp only[List.count_append,List.count_cons,List.count_nil];omega));clear h6 h7;go_wp2_with fail
       go_roundw
       case rel=>exact⟨k+1,({ T with flo:=i }:Tb),by go_num,by omega,⟨HTOK.out.s0,HTOK.out.s1,HTOK.out.a0,HTOK.out.a1,HTOK.out.b0,HTOK.out.b1,h0,h1⟩,HPRE.out,H7.out⟩
       case measure=>simp[intOf];omega
    ·have hge:¬(k:Int) < (n:Int):=by omega
     have hd:cs.drop k=[]:=List.drop_eq_nil_of_le (by rw[←HN.out];omega);rw[hd]at hpre;have HR:=za (HSOME.out T hpre);have rt:=TALL.out _ _ g T hT hst (by simp);have hts:=Tb.size hT;have hti:=z7 hT;have hto:=T.one
     have zf2:0+T.cells.size≤Tryz.zeroCells29.size:=by rw[hts,qu];omega
     have zm2:zg Tryz.zeroCells29 0 T.cells.toList=T.cells:=by rw[zd _ _ (by rw[Array.length_toList,hts,qu]),Array.toArray_toList]
     obtain⟨C,hC⟩:∃C,T.cells=C:=⟨_,rfl⟩;rw[hC]at rt hts hti hto zf2 zm2 hst;have HST:=za hst;have RT:=za rt;have HTI2:=za hti;have HTO:=za hto;have ZF2:=za zf2;have ZM2:=za zm2;have HC:=za hC;clear hst rt hti hto zf2 zm2 hC hts hpre hd HNONE HSOME HALL HROW HFC HTI
     go_wp2_with (first|(with_reducible refine zb 55 rfl (by kernel_rfl) 29 (.tmp 2) rfl g 0 rfl C _ RT.out Tryz.underlying29 rfl HTI2.out ?_)|(with_reducible refine zc rfl 29 (.tmp 4) (.tmp 55) rfl (g:=g4) (off:=0) C rfl rfl HST.out ZF2.out HTI2.out HTO.out ?_;intro w5 h6;refine Hid.out ?_))
     refine za ?_;rw[ZM2.out]at h6;have HZ:=za h6;clear h6 HST RT;go_wp2_with fail;refine bodyPost_ret (zr rfl _ _ g4 29 C (0,0) _ _ rfl rfl (HZ.out.own (g4,.cells C 29 (0,0)) (by simp)) Tryz.underlying29 (by kernel_rfl) HTI2.out) rfl ?_;rw[HR.out,←HC.out];exact⟨rfl,HZ.out.weaken (A:=[_,_])⟩
end
end Go.Proofs.YtnjnooeldkideaaGreatDoor
