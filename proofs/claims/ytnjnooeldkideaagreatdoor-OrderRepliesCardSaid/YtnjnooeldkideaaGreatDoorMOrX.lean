/- boot: which slot may be written, which is booted. boot: which slot is booted. boot: what is wiped, what lands. -/
import Derived.Test.YtnjnooeldkideaaGreatDoorMOrT
import Derived.Deep.RegionHeld3
import Derived.Deep.RegionWith
namespace Go.Proofs.YtnjnooeldkideaaGreatDoor
set_option maxRecDepth 100000
set_option maxHeartbeats 8000000
section
set_option linter.unusedVariables false
set_option linter.unusedSimpArgs false
open Go.RowKit Go.Lib Go.Deep
section
variable {W w:World} {J:Nat→Option Obj} {t:Tb} {F:List (Nat × Obj)}
theorem ul (n:Int):ixB n=true↔n=0∨n=1:=by simp[ixB]
theorem jp {t:Tb} (h:zx t=true):t.act=0∨t.act=1:=by
 unfold zx at h;simp only[Bool.and_eq_true]at h;exact(ul _).1 h.2.2.1
def aimT (t:Tb):Int:=if zx t=true∧t.act=t.boo∧(t.at_ t.act).st=3 then 1-t.act else -1
def pickT (t:Tb):Int:=if bootS (t.at_ t.act)=true then t.act else if bootS (t.at_ (1-t.act))=true then 1-t.act else -1
theorem ja (i:Int) (w:World):(Instr.build 147 #[(0,.int .i64 2),(2,.int .i64 i)]).run Tryz.prog w=.ok (.agg (actC i).cells) w:=run_build w _ _ _ (by kernel_rfl)
theorem jg (i:Int) (w:World):(Instr.build 147 #[(0,.int .i64 3),(2,.int .i64 i)]).run Tryz.prog w=.ok (.agg (booC i).cells) w:=run_build w _ _ _ (by kernel_rfl)
theorem qb (v:Int) (w:World):(Instr.build 147 #[(0,.int .i64 4),(4,.int .u64 v)]).run Tryz.prog w=.ok (.agg (floC v).cells) w:=run_build w _ _ _ (by kernel_rfl)
theorem zag (i:Int) (h:St W w J F):Calls Tryz.prog 104 #[.int .i64 i] w fun e w'=>e=.returned (actC i).val∧St W w' J F:=by
 have h1:=h.alloc (.cells (⟨0,0,0,zS,0⟩:Cg).cells 147);rw[zcg_lit]at h1;have hb:=ja i;have hci:=k8 (c:=actC i) zS_ok;have hsz:=Cg.size (c:=actC i) zS_ok;have hone:=Cg.one (actC i);unfold Cg.val;obtain⟨C,hC⟩:∃C,(actC i).cells=C:=⟨_,rfl⟩;rw[hC]at hb hci hsz hone ⊢
 have hfit:0+C.size≤zbi.size:=by rw[hsz];decide
 have hmany:zg zbi 0 C.toList=C:=by rw[zd _ _ (by rw[Array.length_toList,hsz];rfl),Array.toArray_toList]
 have H1:=za h1;have HB:=za hb;have HCI:=za hci;have HONE:=za hone;have HFIT:=za hfit;have HMANY:=za hmany;clear h h1 hb hci hsz hone hfit hmany hC
 go_enter Tryz.func104,Tryz.ntmps104
 go_wp2_with (first|(with_reducible refine zh rfl 147 _ rfl _ ?_ (HB.out _) ?_;·go_simp)|(with_reducible refine zc rfl 147 (.tmp 2) (.tmp 4) rfl (g:=w.heap.size) (off:=0) C rfl rfl H1.out HFIT.out HCI.out HONE.out ?_;intro w9 h9;rw[HMANY.out]at h9;have H9:=za h9;clear h9))
 refine bodyPost_ret (zp rfl _ _ w.heap.size 147 C (0,0) _ rfl (H9.out.own (w.heap.size,.cells C 147 (0,0)) (List.mem_cons_self ..)) Tryz.underlying147 (by kernel_rfl) HCI.out) rfl ?_;exact⟨rfl,H9.out.weaken (A:=[_])⟩
theorem v_is (i n:Int) (ok:t.Ok) (hi:i=0∨i=1) (h:St W w J F):Calls Tryz.prog 103 #[t.val,.int .i64 i,.int .i64 n] w fun e w'=>e=.returned (.bool ((t.at_ i).st==n))∧St W w' J F:=by
 have h1:=h.alloc (.cells t.cells 161);have x:=h1.tb ok (List.mem_cons_self ..);have e0:=x.st0;have e1:=x.st1;unfold Tb.val;obtain⟨C,hC⟩:∃C,t.cells=C:=⟨_,rfl⟩;rw[hC]at h1 e0 e1 ⊢;have H1:=za h1;clear h h1 x hC ok
 rcases hi with rfl|rfl
 ·rw[show t.at_ 0=t.s0 from rfl]
  go_enter Tryz.func103,Tryz.ntmps103
  go_wp2_with fail;go_ret;exact⟨rfl,H1.out.weaken (A:=[_])⟩
 ·rw[show t.at_ 1=t.s1 from rfl]
  go_enter Tryz.func103,Tryz.ntmps103
  go_wp2_with fail;go_ret;exact⟨rfl,H1.out.weaken (A:=[_])⟩
theorem v_other (ok:t.Ok) (ha:t.act=0∨t.act=1) (h:St W w J F):Calls Tryz.prog 120 #[t.val] w fun e w'=>e=.returned (.int .i64 (1-t.act))∧St W w' J F:=by
 have h1:=h.alloc (.cells t.cells 161);have x:=(h1.tb ok (List.mem_cons_self ..)).act;unfold Tb.val;obtain⟨C,hC⟩:∃C,t.cells=C:=⟨_,rfl⟩;rw[hC]at h1 x ⊢;have H1:=za h1
 have b0:0≤t.act:=by omega
 have b1:t.act≤1:=by omega
 clear h h1 hC ok
 go_enter Tryz.func120,Tryz.ntmps120
 go_wp2_with fail;go_ret;exact⟨rfl,H1.out.weaken (A:=[_])⟩
theorem b_aim (ok:t.Ok) (h:St W w J F):Calls Tryz.prog 97 #[t.val] w fun e w'=>e=.returned (.int .i64 (aimT t))∧St W w' J F:=by
 have h1:=h.alloc (.cells t.cells 29);obtain⟨g,hg⟩:∃g,w.heap.size=g:=⟨_,rfl⟩;rw[hg]at h1
 have kI:=fun(v:World) (X:List (Nat × Obj)) (ha:t.act=0∨t.act=1) (hv:St W v J X)=>v_is t.act 3 ok ha hv
 have kO:=fun(v:World) (X:List (Nat × Obj)) (ha:t.act=0∨t.act=1) (hv:St W v J X)=>v_other ok ha hv
 obtain⟨A,hA⟩:∃A,aimT t=A:=⟨_,rfl⟩;rw[hA];unfold aimT at hA;obtain⟨V,hV⟩:∃V,zx t=V:=⟨_,rfl⟩
 have kL:=fun(v:World) (X:List (Nat × Obj)) (hv:St W v J X)=>zbg t ok hv
 rw[hV]at kL;have hsz:=Tb.size ok;have hti:=z7 ok;have hvi:=u6 ok;have htone:=t.one
 have tbv:=fun(v:World) (X:List (Nat × Obj)) (b:Nat) (hv:St W v J X) (hm:(b,Obj.cells t.cells 161 (0,0))∈X)=>hv.tb (T:=161) ok hm
 have tbb:=fun(v:World) (X:List (Nat × Obj)) (hv:St W v J X) (hm:(g,Obj.cells t.cells 29 (0,0))∈X)=>(hv.tb (T:=29) ok hm).all
 unfold Tb.val at *;obtain⟨C,hC⟩:∃C,t.cells=C:=⟨_,rfl⟩;rw[hC]at kL hsz hti hvi htone tbv tbb
 have hvfit:0+C.size≤(Tryz.zeroCells161).size:=by rw[hsz,zview];omega
 have hvmany:zg Tryz.zeroCells161 0 C.toList=C:=by rw[zd _ _ (by rw[Array.length_toList,hsz,zview]),Array.toArray_toList]
 have HCC:=za hC;have HVV:=za hV;have KL:=za kL;have HTI:=za hti;have HVI:=za hvi;have HTONE:=za htone;have TBV:=za tbv;have TBB:=za tbb;have HVFIT:=za hvfit;have HVMANY:=za hvmany;clear kL hti hvi htone tbv tbb hvfit hvmany hV hsz;rw[HCC.out]at h1 kI kO ⊢;have H1:=za h1;have KI:=za kI;have KO:=za kO;have HA:=za hA
 have ract:=fun(hv:V=true)=>jp (t:=t) (by rw[HVV.out];exact hv)
 clear h h1 kI kO hC hA
 go_enter Tryz.func97,Tryz.ntmps97
 go_wp2_with (with_reducible refine zb 6 rfl (by kernel_rfl) 29 (.tmp 1) rfl g 0 rfl C _ (TBB.out _ _ H1.out (by simp)) Tryz.underlying29 rfl HTI.out ?_)
 refine(KL.out _ _ H1.out).mono ?_;rintro e w2 ⟨rfl,h2⟩;have h3:=h2.alloc (.cells Tryz.zeroCells161 161);have H3:=za h3;clear h2 h3
 go_wp2_with (with_reducible refine zc rfl 161 (.tmp 3) (.tmp 8) rfl (g:=w2.heap.size) (off:=0) C rfl rfl H3.out HVFIT.out HVI.out HTONE.out ?_;intro w4 h4;refine Hid.out ?_)
 refine za ?_;rw[HVMANY.out]at h4;obtain⟨gv,hgv⟩:∃x,w2.heap.size=x:=⟨_,rfl⟩;rw[hgv]at h4 ⊢;obtain⟨vs0,vs1,vact,vboo,vflo,vall,vst0,vst1⟩:=TBV.out _ _ gv h4 (List.mem_cons_self ..);rw[HCC.out]at vall;have H4:=za h4;have VS0:=za vs0;have VS1:=za vs1;have VALL:=za vall;clear h4 H3 vs0 vs1 vall hgv KL
 cases V with
 | false=>
  have HE:Hid (A=-1):=za (by rw[←HA.out,if_neg (by rw[HVV.out];simp)]);go_wp2_with fail;go_ret;exact⟨congrArg (fun z=>Ending.returned (Value.int .i64 z)) HE.out.symm,H4.out.weaken (A:=[_,_])⟩
 | true=>
  have ha:=ract rfl
  by_cases hab:t.act=t.boo
  ·have b1:(t.act != t.boo)=false:=by simp[hab]
   have KI2:=za (KI.out _ _ ha H4.out);obtain⟨q,hq⟩:∃q,((t.at_ t.act).st==3)=q:=⟨_,rfl⟩;have ki:=KI2.out;rw[hq]at ki;have KI3:=za ki;have HQ:=za hq;have HAB:=za hab;have HAA:=za ha;clear ki hq KI2 hab ract ha
   go_wp2_with (with_reducible refine zb 22 rfl (by kernel_rfl) 161 (.tmp 3) rfl gv 0 rfl C _ VALL.out Tryz.underlying161 rfl HVI.out ?_)
   refine KI3.out.mono ?_;rintro e w5 ⟨rfl,h5⟩
   cases q with
   | false=>
    have HE:Hid (A=-1):=za (by rw[←HA.out,if_neg (fun x=>by have h:=HQ.out;rw[x.2.2]at h;simp at h)]);have H5:=za h5;clear h5;go_wp2_with fail;go_ret;exact⟨congrArg (fun z=>Ending.returned (Value.int .i64 z)) HE.out.symm,H5.out.weaken (A:=[_,_])⟩
   | true=>
    have HE:Hid (A=1-t.act):=za (by rw[←HA.out,if_pos ⟨HVV.out,HAB.out,by simpa using HQ.out⟩]);have vall5:=(TBV.out _ _ gv h5 (List.mem_cons_self ..)).all;rw[HCC.out]at vall5;have V5:=za vall5;have KO5:=za (KO.out _ _ HAA.out h5);clear h5 vall5
    go_wp2_with (with_reducible refine zb 29 rfl (by kernel_rfl) 161 (.tmp 3) rfl gv 0 rfl C _ V5.out Tryz.underlying161 rfl HVI.out ?_)
    refine KO5.out.mono ?_;rintro e w6 ⟨rfl,h6⟩;have H6:=za h6;clear h6;go_wp2_with fail;go_ret;exact⟨congrArg (fun z=>Ending.returned (Value.int .i64 z)) HE.out.symm,H6.out.weaken (A:=[_,_])⟩
  ·have b1:(t.act != t.boo)=true:=by simpa using hab
   have HE:Hid (A=-1):=za (by rw[←HA.out,if_neg (fun x=>hab x.2.1)]);clear hab ract ha;go_wp2_with fail;go_ret;exact⟨congrArg (fun z=>Ending.returned (Value.int .i64 z)) HE.out.symm,H4.out.weaken (A:=[_,_])⟩
end
end

section
set_option linter.unusedVariables false
set_option linter.unusedSimpArgs false
open Go.RowKit Go.Lib Go.Deep
section
variable {W w:World} {J:Nat→Option Obj} {t:Tb} {F:List (Nat × Obj)}
theorem v_pick (ok:t.Ok) (ha:t.act=0∨t.act=1) (h:St W w J F):Calls Tryz.prog 122 #[t.val] w fun e w'=>e=.returned (.int .i64 (pickT t))∧St W w' J F:=by
 have h1:=h.alloc (.cells t.cells 161);obtain⟨g,hg⟩:∃g,w.heap.size=g:=⟨_,rfl⟩;rw[hg]at h1
 have kO:=fun(v:World) (X:List (Nat × Obj)) (hv:St W v J X)=>v_other ok ha hv
 have kb0:=fun(v:World) (X:List (Nat × Obj)) (hv:St W v J X)=>slot_boot t.s0 ok.s0 hv
 have kb1:=fun(v:World) (X:List (Nat × Obj)) (hv:St W v J X)=>slot_boot t.s1 ok.s1 hv
 have sv:=fun(v:World) (X:List (Nat × Obj)) (hv:St W v J X) (hm:(g,Obj.cells t.cells 161 (0,0))∈X)=>And.intro (hv.tb (T:=161) ok hm).s0 (hv.tb (T:=161) ok hm).s1
 have av:=fun(v:World) (X:List (Nat × Obj)) (hv:St W v J X) (hm:(g,Obj.cells t.cells 161 (0,0))∈X)=>And.intro (hv.tb (T:=161) ok hm).act (hv.tb (T:=161) ok hm).all
 have vact:=(h1.tb (T:=161) ok (List.mem_cons_self ..)).act;have i0:=zl ok.s0.dig;have i1:=zl ok.s1.dig;have hvi:=u6 ok;obtain⟨A,hA⟩:∃A,pickT t=A:=⟨_,rfl⟩;rw[hA];unfold pickT at hA;unfold Tb.val at kO ⊢;unfold Slt.val at kb0 kb1;obtain⟨C,hC⟩:∃C,t.cells=C:=⟨_,rfl⟩;obtain⟨S0,hS0⟩:∃S,t.s0.cells=S:=⟨_,rfl⟩;obtain⟨S1,hS1⟩:∃S,t.s1.cells=S:=⟨_,rfl⟩;obtain⟨B0,hB0⟩:∃B,bootS t.s0=B:=⟨_,rfl⟩;obtain⟨B1,hB1⟩:∃B,bootS t.s1=B:=⟨_,rfl⟩;rw[hC]at h1 kO sv av hvi vact ⊢;rw[hS0]at kb0 sv i0;rw[hS1]at kb1 sv i1;rw[hB0]at kb0;rw[hB1]at kb1;have HVA:Hid ((Tryz.prog.info? 161).map (·.size)=some C.toList.length):=za (by rw[hvi,Array.length_toList]);have HUV:=za Tryz.underlying161;have H1:=za h1;have KB0:=za kb0;have KB1:=za kb1;have SV:=za sv;have ACT:=za av;have I0:=za i0;have I1:=za i1;clear h h1 kb0 kb1 sv av i0 i1 hvi hC hS0 hS1
 rcases ha with ha|ha
 ·have HAC:=za ha
  have ix0:∀w,(Instr.index 206 (.agg #[.int .i64 0,.int .i64 1]) (.int .i64 0)).run Tryz.prog w=.ok (.int .i64 0) w:=fun w=>by kernel_rfl
  have ix1:∀w,(Instr.index 206 (.agg #[.int .i64 0,.int .i64 1]) (.int .i64 1)).run Tryz.prog w=.ok (.int .i64 1) w:=fun w=>by kernel_rfl
  have hA2:(if B0=true then (0:Int) else if B1=true then 1 else -1)=A:=by
   rw[←hA,ha];simp only[show t.at_ 0=t.s0 from rfl,show(1:Int)-0=1 from rfl,show t.at_ 1=t.s1 from rfl,hB0,hB1]
  rw[ha]at kO vact;rw[show(1:Int)-0=1 from rfl]at kO;have HA:=za hA2;have KO:=za kO;clear hA hA2 kO hB0 hB1 ha
  go_enter Tryz.func122,Tryz.ntmps122
  go_wp2_with fail;have HDW:=za H1.out.drew1;have s0:(w.alloc (.cells C 161)).drew.cell? ⟨g,72,none⟩=some (.int .i64 0)∧(w.alloc (.cells C 161)).drew.rangeAt g 0 C.toList:=⟨(ACT.out _ _ HDW.out (List.mem_cons_self ..)).1.trans (by rw[HAC.out]),(ACT.out _ _ HDW.out (List.mem_cons_self ..)).2⟩;clear vact;refine wp_region_held_drew (S:=fun v=>v.cell? ⟨g,72,none⟩=some (.int .i64 0)∧v.rangeAt g 0 C.toList) (by kernel_rfl) s0 (fun hHeld=>?_)
  refine tk op0 (v:=?_) (by kernel_rfl) ?_ (by assumption) ?_ fun _ _ _ h=>h
  rotate_left
  ·(refine ya rfl fun w hSw=>?_;(try dsimp only at hSw);go_simp;try with_reducible rfl)
  try simp only[Act.put,pu1,pu2,pu3]
  refine tk op1 (v:=?_) (by kernel_rfl) ?_ (by assumption) ?_ fun _ _ _ h=>h
  rotate_left
  ·(refine ya rfl fun w hSw=>?_;(try dsimp only at hSw);go_simp;try with_reducible rfl)
  try simp only[Act.put,pu1,pu2,pu3]
  refine tk op2 (v:=?_) (by kernel_rfl) ?_ (by assumption) ?_ fun _ _ _ h=>h
  rotate_left
  ·((refine Or.inl ⟨by rfl,?_⟩;intro w hSw;obtain⟨hS1,hS2⟩:=hSw;go_simp;try with_reducible rfl))
  try simp only[Act.put,pu1,pu2,pu3]
  refine tk op3 (v:=?_) (by kernel_rfl) ?_ (by assumption) ?_ fun _ _ _ h=>h
  rotate_left
  ·(((refine yieldsIf_load_mid ?_ 161 (.tmp 1) ?_ g 0 ?_ C.toList _ ?_ HUV.out ?_ HVA.out)<;>first|rfl|exact fun w h=>h.2))
  try simp only[Act.put,pu1,pu2,pu3]
  refine tk op6 (v:=?_) (by kernel_rfl) ?_ (by assumption) ?_ fun _ _ _ h=>h
  rotate_left
  ·(refine ya rfl fun w hSw=>?_;(try dsimp only at hSw);go_simp;try with_reducible rfl)
  try simp only[Act.put,pu1,pu2,pu3]
  refine rd1 op4 (by kernel_rfl) fun K hK=>?_
  go_simp
  ((go_at_call 120;(with_reducible refine(KO.out _ _ HDW.out).mono ?_);rintro e wx ⟨rfl,hx⟩;dsimp only))
  refine hK.out _ _ ?_ fun hHeld=>?_
  ·(try dsimp only)<;>((exact⟨(ACT.out _ _ hx (List.mem_cons_self ..)).1.trans (by rw[HAC.out]),(ACT.out _ _ hx (List.mem_cons_self ..)).2⟩))
  clear hK K
  try simp only[Act.put,pu1,pu2,pu3]
  refine tk op5 (v:=?_) (by kernel_rfl) ?_ (by assumption) ?_ fun _ _ _ h=>h
  rotate_left
  ·(refine ya rfl fun w hSw=>?_;(try dsimp only at hSw);go_simp;try with_reducible rfl)
  try simp only[Act.put,pu1,pu2,pu3]
  refine wpAnyH_done (by kernel_rfl) ?_ _;have HX:=za hx;clear hx s0 HDW H1
  try simp only[Array.toArray_toList]
  go_wp2_with fail
  go_loopw [11] (fun i wr=>∃k:Nat,k≤2∧i=.int .i64 k∧St W wr J ((g,.cells C 161 (0,0))::F)∧(1≤k→B0=false)∧(2≤k→B1=false)) (fun i _=>2-(intOf i).toNat)
  case atStart=>exact⟨0,by omega,rfl,HX.out,fun h=>by omega,fun h=>by omega⟩
  case round=>
   obtain⟨k,hk,rfl,hst,h1,h2⟩:=hrel;clear HX
   rcases(by omega:k=0∨k=1∨k=2) with rfl|rfl|rfl
   ·have q:=(SV.out _ _ hst (List.mem_cons_self ..)).1
    have kb:=KB0.out _ _ hst;have Q:=za q;clear q
    cases B0 with
    | true=>
     have KBx:=za kb;clear kb hst
     go_wp2_with (with_reducible refine zb 18 rfl (by kernel_rfl) 26 (.tmp 17) rfl g 0 rfl S0 _ Q.out Tryz.underlying26 rfl I0.out ?_)
     refine KBx.out.mono ?_;rintro e w6 ⟨rfl,h6⟩;have H6:=za h6;clear h6;go_wp2_with fail;go_ret;exact⟨congrArg (fun z=>Ending.returned (Value.int .i64 z)) (by rw[←HA.out];simp),H6.out.weaken (A:=[_])⟩
    | false=>
     have KBx:=za kb;clear kb hst
     go_wp2_with (with_reducible refine zb 18 rfl (by kernel_rfl) 26 (.tmp 17) rfl g 0 rfl S0 _ Q.out Tryz.underlying26 rfl I0.out ?_)
     refine KBx.out.mono ?_;rintro e w6 ⟨rfl,h6⟩;have H6:=za h6;clear h6;go_wp2_with fail
     go_roundw
     case rel=>exact⟨1,by omega,by go_num,H6.out,fun _=>by trivial,fun h=>by omega⟩
     case measure=>simp[intOf]
   ·have q:=(SV.out _ _ hst (List.mem_cons_self ..)).2
    have kb:=KB1.out _ _ hst;have Q:=za q;clear q
    cases B1 with
    | true=>
     have KBx:=za kb;clear kb hst
     go_wp2_with (with_reducible refine zb 18 rfl (by kernel_rfl) 26 (.tmp 17) rfl g 36 rfl S1 _ Q.out Tryz.underlying26 rfl I1.out ?_)
     refine KBx.out.mono ?_;rintro e w6 ⟨rfl,h6⟩;have H6:=za h6;clear h6;go_wp2_with fail;go_ret;exact⟨congrArg (fun z=>Ending.returned (Value.int .i64 z)) (by rw[←HA.out];simp[h1 (by omega)]),H6.out.weaken (A:=[_])⟩
    | false=>
     have KBx:=za kb;clear kb hst
     go_wp2_with (with_reducible refine zb 18 rfl (by kernel_rfl) 26 (.tmp 17) rfl g 36 rfl S1 _ Q.out Tryz.underlying26 rfl I1.out ?_)
     refine KBx.out.mono ?_;rintro e w6 ⟨rfl,h6⟩;have H6:=za h6;clear h6;go_wp2_with fail
     go_roundw
     case rel=>exact⟨2,by omega,by go_num,H6.out,fun _=>h1 (by omega),fun _=>by trivial⟩
     case measure=>simp[intOf]
   ·have b1:=h1 (by omega)
    have b2:=h2 (by omega);have HB:Hid (A=-1):=za (by rw[←HA.out,b1,b2];simp);have HST:=za hst;clear hst h1 h2 b1 b2;go_wp2_with fail;go_ret;exact⟨congrArg (fun z=>Ending.returned (Value.int .i64 z)) HB.out.symm,HST.out.weaken (A:=[_])⟩
 ·have HAC:=za ha
  have ix0:∀w,(Instr.index 206 (.agg #[.int .i64 1,.int .i64 0]) (.int .i64 0)).run Tryz.prog w=.ok (.int .i64 1) w:=fun w=>by kernel_rfl
  have ix1:∀w,(Instr.index 206 (.agg #[.int .i64 1,.int .i64 0]) (.int .i64 1)).run Tryz.prog w=.ok (.int .i64 0) w:=fun w=>by kernel_rfl
  have hA2:(if B1=true then (1:Int) else if B0=true then 0 else -1)=A:=by
   rw[←hA,ha];simp only[show t.at_ 1=t.s1 from rfl,show(1:Int)-1=0 from rfl,show t.at_ 0=t.s0 from rfl,hB0,hB1]
  rw[ha]at kO vact;rw[show(1:Int)-1=0 from rfl]at kO;have HA:=za hA2;have KO:=za kO;clear hA hA2 kO hB0 hB1 ha
  go_enter Tryz.func122,Tryz.ntmps122
  go_wp2_with fail;have HDW:=za H1.out.drew1;have s0:(w.alloc (.cells C 161)).drew.cell? ⟨g,72,none⟩=some (.int .i64 1)∧(w.alloc (.cells C 161)).drew.rangeAt g 0 C.toList:=⟨(ACT.out _ _ HDW.out (List.mem_cons_self ..)).1.trans (by rw[HAC.out]),(ACT.out _ _ HDW.out (List.mem_cons_self ..)).2⟩;clear vact;refine wp_region_held_drew (S:=fun v=>v.cell? ⟨g,72,none⟩=some (.int .i64 1)∧v.rangeAt g 0 C.toList) (by kernel_rfl) s0 (fun hHeld=>?_)
  refine tk op0 (v:=?_) (by kernel_rfl) ?_ (by assumption) ?_ fun _ _ _ h=>h
  rotate_left
  ·(refine ya rfl fun w hSw=>?_;(try dsimp only at hSw);go_simp;try with_reducible rfl)
  try simp only[Act.put,pu1,pu2,pu3]
  refine tk op1 (v:=?_) (by kernel_rfl) ?_ (by assumption) ?_ fun _ _ _ h=>h
  rotate_left
  ·(refine ya rfl fun w hSw=>?_;(try dsimp only at hSw);go_simp;try with_reducible rfl)
  try simp only[Act.put,pu1,pu2,pu3]
  refine tk op2 (v:=?_) (by kernel_rfl) ?_ (by assumption) ?_ fun _ _ _ h=>h
  rotate_left
  ·((refine Or.inl ⟨by rfl,?_⟩;intro w hSw;obtain⟨hS1,hS2⟩:=hSw;go_simp;try with_reducible rfl))
  try simp only[Act.put,pu1,pu2,pu3]
  refine tk op3 (v:=?_) (by kernel_rfl) ?_ (by assumption) ?_ fun _ _ _ h=>h
  rotate_left
  ·(((refine yieldsIf_load_mid ?_ 161 (.tmp 1) ?_ g 0 ?_ C.toList _ ?_ HUV.out ?_ HVA.out)<;>first|rfl|exact fun w h=>h.2))
  try simp only[Act.put,pu1,pu2,pu3]
  refine tk op6 (v:=?_) (by kernel_rfl) ?_ (by assumption) ?_ fun _ _ _ h=>h
  rotate_left
  ·(refine ya rfl fun w hSw=>?_;(try dsimp only at hSw);go_simp;try with_reducible rfl)
  try simp only[Act.put,pu1,pu2,pu3]
  refine rd1 op4 (by kernel_rfl) fun K hK=>?_
  go_simp
  ((go_at_call 120;(with_reducible refine(KO.out _ _ HDW.out).mono ?_);rintro e wx ⟨rfl,hx⟩;dsimp only))
  refine hK.out _ _ ?_ fun hHeld=>?_
  ·(try dsimp only)<;>((exact⟨(ACT.out _ _ hx (List.mem_cons_self ..)).1.trans (by rw[HAC.out]),(ACT.out _ _ hx (List.mem_cons_self ..)).2⟩))
  clear hK K
  try simp only[Act.put,pu1,pu2,pu3]
  refine tk op5 (v:=?_) (by kernel_rfl) ?_ (by assumption) ?_ fun _ _ _ h=>h
  rotate_left
  ·(refine ya rfl fun w hSw=>?_;(try dsimp only at hSw);go_simp;try with_reducible rfl)
  try simp only[Act.put,pu1,pu2,pu3]
  refine wpAnyH_done (by kernel_rfl) ?_ _;have HX:=za hx;clear hx s0 HDW H1
  try simp only[Array.toArray_toList]
  go_wp2_with fail
  go_loopw [11] (fun i wr=>∃k:Nat,k≤2∧i=.int .i64 k∧St W wr J ((g,.cells C 161 (0,0))::F)∧(1≤k→B1=false)∧(2≤k→B0=false)) (fun i _=>2-(intOf i).toNat)
  case atStart=>exact⟨0,by omega,rfl,HX.out,fun h=>by omega,fun h=>by omega⟩
  case round=>
   obtain⟨k,hk,rfl,hst,h1,h2⟩:=hrel;clear HX
   rcases(by omega:k=0∨k=1∨k=2) with rfl|rfl|rfl
   ·have q:=(SV.out _ _ hst (List.mem_cons_self ..)).2
    have kb:=KB1.out _ _ hst;have Q:=za q;clear q
    cases B1 with
    | true=>
     have KBx:=za kb;clear kb hst
     go_wp2_with (with_reducible refine zb 18 rfl (by kernel_rfl) 26 (.tmp 17) rfl g 36 rfl S1 _ Q.out Tryz.underlying26 rfl I1.out ?_)
     refine KBx.out.mono ?_;rintro e w6 ⟨rfl,h6⟩;have H6:=za h6;clear h6;go_wp2_with fail;go_ret;exact⟨congrArg (fun z=>Ending.returned (Value.int .i64 z)) (by rw[←HA.out];simp),H6.out.weaken (A:=[_])⟩
    | false=>
     have KBx:=za kb;clear kb hst
     go_wp2_with (with_reducible refine zb 18 rfl (by kernel_rfl) 26 (.tmp 17) rfl g 36 rfl S1 _ Q.out Tryz.underlying26 rfl I1.out ?_)
     refine KBx.out.mono ?_;rintro e w6 ⟨rfl,h6⟩;have H6:=za h6;clear h6;go_wp2_with fail
     go_roundw
     case rel=>exact⟨1,by omega,by go_num,H6.out,fun _=>by trivial,fun h=>by omega⟩
     case measure=>simp[intOf]
   ·have q:=(SV.out _ _ hst (List.mem_cons_self ..)).1
    have kb:=KB0.out _ _ hst;have Q:=za q;clear q
    cases B0 with
    | true=>
     have KBx:=za kb;clear kb hst
     go_wp2_with (with_reducible refine zb 18 rfl (by kernel_rfl) 26 (.tmp 17) rfl g 0 rfl S0 _ Q.out Tryz.underlying26 rfl I0.out ?_)
     refine KBx.out.mono ?_;rintro e w6 ⟨rfl,h6⟩;have H6:=za h6;clear h6;go_wp2_with fail;go_ret;exact⟨congrArg (fun z=>Ending.returned (Value.int .i64 z)) (by rw[←HA.out];simp[h1 (by omega)]),H6.out.weaken (A:=[_])⟩
    | false=>
     have KBx:=za kb;clear kb hst
     go_wp2_with (with_reducible refine zb 18 rfl (by kernel_rfl) 26 (.tmp 17) rfl g 0 rfl S0 _ Q.out Tryz.underlying26 rfl I0.out ?_)
     refine KBx.out.mono ?_;rintro e w6 ⟨rfl,h6⟩;have H6:=za h6;clear h6;go_wp2_with fail
     go_roundw
     case rel=>exact⟨2,by omega,by go_num,H6.out,fun _=>h1 (by omega),fun _=>by trivial⟩
     case measure=>simp[intOf]
   ·have b1:=h1 (by omega)
    have b2:=h2 (by omega);have HB:Hid (A=-1):=za (by rw[←HA.out,b1,b2];simp);have HST:=za hst;clear hst h1 h2 b1 b2;go_wp2_with fail;go_ret;exact⟨congrArg (fun z=>Ending.returned (Value.int .i64 z)) HB.out.symm,HST.out.weaken (A:=[_])⟩
end
end

section
set_option linter.unusedVariables false
set_option linter.unusedSimpArgs false
open Go.RowKit Go.Lib Go.Deep
section
variable {W w:World} {J:Nat→Option Obj} {t:Tb} {F:List (Nat × Obj)}
def CPost (W:World) (J:Nat→Option Obj) (F:List (Nat × Obj)) (r:List Cg × Int) (e:Ending) (w':World):Prop:=
 ∃A c L,e=.returned (.tuple #[.slice A r.1.length c,.int .i64 r.2])∧Row 147 40 (.slice A r.1.length c) r.1.length (cgs r.1) L∧St W w' J (L++F)
theorem CPost.nothing {w':World} (x:Int) (h:St W w' J F):CPost W J F ([],x) (.returned (.tuple #[.slice none 0 0,.int .i64 x])) w':=⟨none,0,[],rfl,Row.nil _ _,h⟩
theorem jb {g:Nat} {c:Cg} (ok:c.tos.Ok):Row 147 40 (.slice (some ⟨g,0,none⟩) 1 1) 1 (cgs [c]) [(g,.cells c.cells 147 (0,0))]:=by
 have h:=Row.whole 147 40 g 1 c.cells (by rw[Cg.size ok]) (by unfold maxLen;omega)
 rwa [show c.cells.toList=cgs [c] by simp[cgs]]at h
theorem row_two {g:Nat} {c d:Cg} (ok:c.tos.Ok) (okd:d.tos.Ok):Row 147 40 (.slice (some ⟨g,0,none⟩) 2 2) 2 (cgs [c,d]) [(g,.cells (c.cells++d.cells) 147 (0,0))]:=by
 have h:=Row.whole 147 40 g 2 (c.cells++d.cells) (by rw[Array.size_append,Cg.size ok,Cg.size okd]) (by unfold maxLen;omega)
 rwa [show(c.cells++d.cells).toList=cgs [c,d] by simp[cgs]]at h
theorem CPost.one {w':World} {g:Nat} {c:Cg} (ok:c.tos.Ok) (h:St W w' J ((g,.cells c.cells 147 (0,0))::F)):CPost W J F ([c],0) (.returned (.tuple #[.slice (some ⟨g,0,none⟩) 1 1,.int .i64 0])) w':=⟨_,1,_,rfl,jb ok,h⟩
def wipeT (t:Tb):List Cg × Int:=if aimT t=-1 then ([],101) else ([setC (aimT t) (bareS 1)],0)
theorem b_wipe (ok:t.Ok) (h:St W w J F):Calls Tryz.prog 96 #[t.val] w (CPost W J F (wipeT t)):=by
 have h1:=h.alloc (.cells t.cells 29);obtain⟨g,hg⟩:∃g,w.heap.size=g:=⟨_,rfl⟩;rw[hg]at h1
 have kA:=fun(v:World) (X:List (Nat × Obj)) (hv:St W v J X)=>b_aim ok hv
 have hti:=z7 ok;have hrg:=(h1.tb (T:=29) ok (List.mem_cons_self ..)).all;obtain⟨A,hA⟩:∃A,aimT t=A:=⟨_,rfl⟩;rw[hA]at kA;unfold wipeT;rw[hA];unfold Tb.val at kA ⊢;obtain⟨C,hC⟩:∃C,t.cells=C:=⟨_,rfl⟩;rw[hC]at h1 kA hti hrg ⊢
 have kS:=fun(v:World) (X:List (Nat × Obj)) (hv:St W v J X)=>b_set A (bareS 1) (qw 1 (by decide) (by decide)) hv
 have bok:(setC A (bareS 1)).tos.Ok:=qw 1 (by decide) (by decide);have hsz:=Cg.size bok;unfold Slt.val Cg.val at kS;rw[←yh]at kS;obtain⟨SC,hSC⟩:∃SC,(setC A (bareS 1)).cells=SC:=⟨_,rfl⟩;rw[hSC]at kS hsz;have hfold:Array.foldl (fun cs (x:Value × Nat)=>cs.setIfInBounds x.snd x.fst) zbi SC.zipIdx 0 40=SC:=yj SC _ 40 hsz rfl
 have hno:A=-1→∀v,St W v J F→CPost W J F (if A=-1 then ([],101) else ([setC A (bareS 1)],0)) (.returned (.tuple #[.slice none 0 0,.int .i64 101])) v:=fun h v hv=>by rw[if_pos h];exact CPost.nothing 101 hv
 have hyes:A≠-1→∀v b,St W v J ((b,.cells SC 147 (0,0))::F)→CPost W J F (if A=-1 then ([],101) else ([setC A (bareS 1)],0)) (.returned (.tuple #[.slice (some ⟨b,0,none⟩) 1 1,.int .i64 0])) v:=fun h v b hv=>by rw[if_neg h];rw[←hSC]at hv;exact CPost.one bok hv
 generalize (if A=-1 then (([]:List Cg),(101:Int)) else ([setC A (bareS 1)],0))=R at *;have HNO:=za hno;have HYES:=za hyes;have KA:=za kA;have KS:=za kS;have HTI:=za hti;have HRG:=za hrg;have H1:=za h1;clear h h1 kA hti hrg hno hyes kS hC hSC hA bok ok
 go_enter Tryz.func96,Tryz.ntmps96
 go_wp2_with (with_reducible refine zb 5 rfl (by kernel_rfl) 29 (.tmp 1) rfl g 0 rfl C _ HRG.out Tryz.underlying29 rfl HTI.out ?_)
 refine(KA.out _ _ H1.out).mono ?_;rintro e w2 ⟨rfl,h2⟩;have H2:=za h2;clear h2
 by_cases ha:A=-1
 ·have b1:(A==-1)=true:=by simpa using ha
  have HN:=za (HNO.out ha);clear ha;go_wp2_with fail
  go_ret2
  exact HN.out _ (H2.out.weaken (A:=[_]))
 ·have b1:(A==-1)=false:=by simpa using ha
  have HY:=za (HYES.out ha);have KS2:=za (KS.out _ _ H2.out);clear ha;go_wp2_with fail;refine KS2.out.mono ?_;rintro e w3 ⟨rfl,h3⟩;have h4:=h3.alloc (.cells SC 147);have H4:=za (St.mid (A:=[_]) (B:=[_]) h4);clear h3 h4;go_wp2_with fail
  go_ret2
  exact HY.out _ _ H4.out
end
end
end Go.Proofs.YtnjnooeldkideaaGreatDoor
