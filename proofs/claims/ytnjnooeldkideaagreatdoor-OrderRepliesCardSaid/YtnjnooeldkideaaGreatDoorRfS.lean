/- slot: the document's answers: what a slot becomes. -/
import Derived.Test.YtnjnooeldkideaaGreatDoorSlotC
namespace Go.Proofs.YtnjnooeldkideaaGreatDoor
set_option maxRecDepth 100000
set_option maxHeartbeats 4000000
set_option linter.unusedVariables false
set_option linter.unusedSimpArgs false
open Go.RowKit Go.Lib
section
variable {W w:World} {I:Nat→Option Obj} {F:List (Nat × Obj)}
theorem ref_try (s:Slt) (ok:s.Ok) (h:St W w I F) :
  Calls Tryz.prog 82 #[s.val] w (SPost W I F (tryS s)):=by
 have h0:=(h.alloc (.cells s.cells 26)).alloc (.cells zS.cells 26);rw[World.size_alloc]at h0;rw[show zS.cells=zbk from yh 0 ▸ rfl]at h0;obtain⟨b,hb⟩:∃b,w.heap.size=b:=⟨_,rfl⟩;rw[hb]at h0
 have kR:=fun(v:World) (F:List (Nat × Obj)) (hv:St W v I F)=>j9 s ok hv
 cases hR:rightS s with
 | false=>
  have hv:tryS s=(zS,101):=by rw[tryS,hR];rfl
  rw[hR]at kR;have HV:=za hv;have HMI:=za (zl ok.dig);have H0:=za h0;have KR:=za kR;have OK:=za ok;clear h0 h kR ok hv;unfold Slt.val at KR ⊢;clear hR
  go_enter Tryz.func82,Tryz.ntmps82
  go_wp2_with (with_reducible refine zo rfl 26 (.tmp 1) rfl (g:=b) (off:=0) rfl H0.out (cs:=s.cells) (t:=26) (fr:=(0,0)) (by simp) s.cells (fun j hj=>by rw[Nat.zero_add]) _ Tryz.underlying26 rfl HMI.out ?_)
  refine(KR.out _ _ H0.out).mono ?_;rintro e w2 ⟨rfl,h2⟩;have H2:=za h2;clear h2 H0 KR hb;obtain⟨hfit,hsm⟩:=y0 (s:=zS) (t:=zS) zn zn;have hix:=zl (s:=zS) zn;have hone:=Slt.one zS;have hzl:zS.cells=zbk:=yh 0 ▸ rfl;rw[hzl]at hfit hsm hix hone;have HFIT:=za hfit;have HSM:=za hsm;have HIX:=za hix;have HONE:=za hone;have HZL:=za hzl;clear hfit hsm hix hone hzl
  go_wp2_with (with_reducible refine zc rfl 26 (.tmp 2) (.tmp 17) rfl (g:=b+1) (off:=0) zbk rfl rfl H2.out HFIT.out HIX.out HONE.out ?_;intro w9 h9;refine Hid.out ?_)
  refine za ?_;rw[HSM.out,←HZL.out]at h9;go_wp2_with fail;refine bodyPost_ret (y1 (F:=F) h9 zn rfl rfl rfl) rfl ?_;exact⟨by rw[HV.out],St.weaken (A:=[_,_]) h9⟩
 | true=>
  by_cases k2:s.st=2
  ·obtain⟨t0,t7⟩:=rightS_try s hR k2
   by_cases k0:s.tr=0
   ·have hv:tryS s=(zS,101):=by rw[tryS,hR,k2,k0];rfl
    rw[hR]at kR;have HV:=za hv;have HMI:=za (zl ok.dig);have H0:=za h0;have KR:=za kR;have OK:=za ok;clear h0 h kR ok hv;unfold Slt.val at KR ⊢;have S2:=za k2;have S0:=za k0;clear hR k2 k0 t0 t7
    go_enter Tryz.func82,Tryz.ntmps82
    go_wp2_with (with_reducible refine zo rfl 26 (.tmp 1) rfl (g:=b) (off:=0) rfl H0.out (cs:=s.cells) (t:=26) (fr:=(0,0)) (by simp) s.cells (fun j hj=>by rw[Nat.zero_add]) _ Tryz.underlying26 rfl HMI.out ?_)
    refine(KR.out _ _ H0.out).mono ?_;rintro e w2 ⟨rfl,h2⟩;have H2:=za h2;clear h2 H0 KR hb;have c0:=H2.out.cell (g:=b) (cs:=s.cells) (t:=26) (fr:=(0,0)) (by simp) 0;have c1:=H2.out.cell (g:=b) (cs:=s.cells) (t:=26) (fr:=(0,0)) (by simp) 1;have c2:=H2.out.cell (g:=b) (cs:=s.cells) (t:=26) (fr:=(0,0)) (by simp) 2;have c3:=H2.out.cell (g:=b) (cs:=s.cells) (t:=26) (fr:=(0,0)) (by simp) 3;rw[Slt.at0]at c0;rw[Slt.at1]at c1;rw[Slt.at2]at c2;rw[Slt.at3]at c3;have f0:=H2.out.frozen (g:=b) (cs:=s.cells) (t:=26) (by simp) 0;have f1:=H2.out.frozen (g:=b) (cs:=s.cells) (t:=26) (by simp) 1;rw[S2.out]at c0;rw[S0.out]at c1;obtain⟨hfit,hsm⟩:=y0 (s:=zS) (t:=zS) zn zn;have hix:=zl (s:=zS) zn;have hone:=Slt.one zS;have hzl:zS.cells=zbk:=yh 0 ▸ rfl;rw[hzl]at hfit hsm hix hone;have HFIT:=za hfit;have HSM:=za hsm;have HIX:=za hix;have HONE:=za hone;have HZL:=za hzl;clear hfit hsm hix hone hzl
    go_wp2_with (with_reducible refine zc rfl 26 (.tmp 2) (.tmp 17) rfl (g:=b+1) (off:=0) zbk rfl rfl H2.out HFIT.out HIX.out HONE.out ?_;intro w9 h9;refine Hid.out ?_)
    refine za ?_;rw[HSM.out,←HZL.out]at h9;go_wp2_with fail;refine bodyPost_ret (y1 (F:=F) h9 zn rfl rfl rfl) rfl ?_;exact⟨by rw[HV.out],St.weaken (A:=[_,_]) h9⟩
   ·have hv:tryS s=({ s with tr:=s.tr-1 },0):=by rw[tryS,hR,k2,beq_eq_false_iff_ne.2 k0];rfl
    rw[hR]at kR;have HV:=za hv;have HMI:=za (zl ok.dig);have H0:=za h0;have KR:=za kR;have OK:=za ok;clear h0 h kR ok hv;unfold Slt.val at KR ⊢;have S2:=za k2
    have t1:1≤s.tr:=by omega
    have t3:(s.tr==0)=false:=beq_eq_false_iff_ne.2 k0;clear hR k2 k0 t0
    go_enter Tryz.func82,Tryz.ntmps82
    go_wp2_with (with_reducible refine zo rfl 26 (.tmp 1) rfl (g:=b) (off:=0) rfl H0.out (cs:=s.cells) (t:=26) (fr:=(0,0)) (by simp) s.cells (fun j hj=>by rw[Nat.zero_add]) _ Tryz.underlying26 rfl HMI.out ?_)
    refine(KR.out _ _ H0.out).mono ?_;rintro e w2 ⟨rfl,h2⟩;have H2:=za h2;clear h2 H0 KR hb;have c0:=H2.out.cell (g:=b) (cs:=s.cells) (t:=26) (fr:=(0,0)) (by simp) 0;have c1:=H2.out.cell (g:=b) (cs:=s.cells) (t:=26) (fr:=(0,0)) (by simp) 1;have c2:=H2.out.cell (g:=b) (cs:=s.cells) (t:=26) (fr:=(0,0)) (by simp) 2;have c3:=H2.out.cell (g:=b) (cs:=s.cells) (t:=26) (fr:=(0,0)) (by simp) 3;rw[Slt.at0]at c0;rw[Slt.at1]at c1;rw[Slt.at2]at c2;rw[Slt.at3]at c3;have f0:=H2.out.frozen (g:=b) (cs:=s.cells) (t:=26) (by simp) 0;have f1:=H2.out.frozen (g:=b) (cs:=s.cells) (t:=26) (by simp) 1;rw[S2.out]at c0;have h3:=St.set (A:=[(b+1,_)]) H2.out 1 (.int .i64 (s.tr-1));rw[Slt.set1]at h3;have H3:=za h3;clear h3 c2 c3;obtain⟨s',hs'⟩:∃s':Slt,{ s with tr:=s.tr-1 }=s':=⟨_,rfl⟩
    have hd':s'.dig.length=32:=by rw[←hs'];exact OK.out.dig
    rw[hs']at HV H3;clear hs';obtain⟨hfit,hsm⟩:=y0 (s:=zS) (t:=s') zn hd';have hone:=Slt.one s';have hix:=zl (s:=s') hd';rw[show zS.cells=zbk from yh 0 ▸ rfl]at hfit hsm;have HFIT:=za hfit;have HSM:=za hsm;have HIX:=za hix;have HONE:=za hone;clear hfit hsm hone hix;have HMI:=HIX
    go_wp2_with (first|(with_reducible refine zo rfl 26 (.tmp 1) rfl (g:=b) (off:=0) rfl H3.out (cs:=s'.cells) (t:=26) (fr:=(0,0)) (by simp) s'.cells (fun j hj=>by rw[Nat.zero_add]) _ Tryz.underlying26 rfl HMI.out ?_)|(with_reducible refine zc rfl 26 (.tmp 2) (.tmp 22) rfl (g:=b+1) (off:=0) s'.cells rfl rfl H3.out HFIT.out HIX.out HONE.out ?_;intro w9 h9;refine Hid.out ?_))
    refine za ?_;rw[HSM.out]at h9;go_wp2_with fail;refine bodyPost_ret (y1 (t:=s') (F:=F) h9 hd' rfl rfl rfl) rfl ?_;exact⟨by rw[HV.out],St.weaken (A:=[_,_]) h9⟩
  ·have k3:(s.st==2)=false:=beq_eq_false_iff_ne.2 k2
   have k4:(s.st != 2)=true:=by rw[bne,k3];rfl
   have hv:tryS s=(zS,101):=by rw[tryS,hR,k3];rfl
   rw[hR]at kR;have HV:=za hv;have HMI:=za (zl ok.dig);have H0:=za h0;have KR:=za kR;have OK:=za ok;clear h0 h kR ok hv;unfold Slt.val at KR ⊢;clear hR k2
   go_enter Tryz.func82,Tryz.ntmps82
   go_wp2_with (with_reducible refine zo rfl 26 (.tmp 1) rfl (g:=b) (off:=0) rfl H0.out (cs:=s.cells) (t:=26) (fr:=(0,0)) (by simp) s.cells (fun j hj=>by rw[Nat.zero_add]) _ Tryz.underlying26 rfl HMI.out ?_)
   refine(KR.out _ _ H0.out).mono ?_;rintro e w2 ⟨rfl,h2⟩;have H2:=za h2;clear h2 H0 KR hb;have c0:=H2.out.cell (g:=b) (cs:=s.cells) (t:=26) (fr:=(0,0)) (by simp) 0;have c1:=H2.out.cell (g:=b) (cs:=s.cells) (t:=26) (fr:=(0,0)) (by simp) 1;have c2:=H2.out.cell (g:=b) (cs:=s.cells) (t:=26) (fr:=(0,0)) (by simp) 2;have c3:=H2.out.cell (g:=b) (cs:=s.cells) (t:=26) (fr:=(0,0)) (by simp) 3;rw[Slt.at0]at c0;rw[Slt.at1]at c1;rw[Slt.at2]at c2;rw[Slt.at3]at c3;have f0:=H2.out.frozen (g:=b) (cs:=s.cells) (t:=26) (by simp) 0;have f1:=H2.out.frozen (g:=b) (cs:=s.cells) (t:=26) (by simp) 1;obtain⟨hfit,hsm⟩:=y0 (s:=zS) (t:=zS) zn zn;have hix:=zl (s:=zS) zn;have hone:=Slt.one zS;have hzl:zS.cells=zbk:=yh 0 ▸ rfl;rw[hzl]at hfit hsm hix hone;have HFIT:=za hfit;have HSM:=za hsm;have HIX:=za hix;have HONE:=za hone;have HZL:=za hzl;clear hfit hsm hix hone hzl
   go_wp2_with (with_reducible refine zc rfl 26 (.tmp 2) (.tmp 17) rfl (g:=b+1) (off:=0) zbk rfl rfl H2.out HFIT.out HIX.out HONE.out ?_;intro w9 h9;refine Hid.out ?_)
   refine za ?_;rw[HSM.out,←HZL.out]at h9;go_wp2_with fail;refine bodyPost_ret (y1 (F:=F) h9 zn rfl rfl rfl) rfl ?_;exact⟨by rw[HV.out],St.weaken (A:=[_,_]) h9⟩
theorem ref_good (s:Slt) (ok:s.Ok) (h:St W w I F) :
  Calls Tryz.prog 79 #[s.val] w (SPost W I F (goodS s)):=by
 have h0:=(h.alloc (.cells s.cells 26)).alloc (.cells zS.cells 26);rw[World.size_alloc]at h0;rw[show zS.cells=zbk from yh 0 ▸ rfl]at h0;obtain⟨b,hb⟩:∃b,w.heap.size=b:=⟨_,rfl⟩;rw[hb]at h0
 have kR:=fun(v:World) (F:List (Nat × Obj)) (hv:St W v I F)=>j9 s ok hv
 cases hR:rightS s with
 | false=>
  have hv:goodS s=(zS,101):=by rw[goodS,hR];rfl
  rw[hR]at kR;have HV:=za hv;have HMI:=za (zl ok.dig);have H0:=za h0;have KR:=za kR;have OK:=za ok;clear h0 h kR ok hv;unfold Slt.val at KR ⊢;clear hR
  go_enter Tryz.func79,Tryz.ntmps79
  go_wp2_with (with_reducible refine zo rfl 26 (.tmp 1) rfl (g:=b) (off:=0) rfl H0.out (cs:=s.cells) (t:=26) (fr:=(0,0)) (by simp) s.cells (fun j hj=>by rw[Nat.zero_add]) _ Tryz.underlying26 rfl HMI.out ?_)
  refine(KR.out _ _ H0.out).mono ?_;rintro e w2 ⟨rfl,h2⟩;have H2:=za h2;clear h2 H0 KR hb;obtain⟨hfit,hsm⟩:=y0 (s:=zS) (t:=zS) zn zn;have hix:=zl (s:=zS) zn;have hone:=Slt.one zS;have hzl:zS.cells=zbk:=yh 0 ▸ rfl;rw[hzl]at hfit hsm hix hone;have HFIT:=za hfit;have HSM:=za hsm;have HIX:=za hix;have HONE:=za hone;have HZL:=za hzl;clear hfit hsm hix hone hzl
  go_wp2_with (with_reducible refine zc rfl 26 (.tmp 2) (.tmp 17) rfl (g:=b+1) (off:=0) zbk rfl rfl H2.out HFIT.out HIX.out HONE.out ?_;intro w9 h9;refine Hid.out ?_)
  refine za ?_;rw[HSM.out,←HZL.out]at h9;go_wp2_with fail;refine bodyPost_ret (y1 (F:=F) h9 zn rfl rfl rfl) rfl ?_;exact⟨by rw[HV.out],St.weaken (A:=[_,_]) h9⟩
 | true=>
  by_cases k2:s.st=2
  ·have hF:fullS s=true:=by rw[fullS,k2];rfl
   have hv:goodS s=({ s with st:=3,tr:=0 },0):=by rw[goodS,hR,hF];rfl
   rw[hR]at kR;have HV:=za hv;have HMI:=za (zl ok.dig);have H0:=za h0;have KR:=za kR;have OK:=za ok;clear h0 h kR ok hv;unfold Slt.val at KR ⊢;clear hR hF;have S2:=za k2;clear k2
   go_enter Tryz.func79,Tryz.ntmps79
   go_wp2_with (with_reducible refine zo rfl 26 (.tmp 1) rfl (g:=b) (off:=0) rfl H0.out (cs:=s.cells) (t:=26) (fr:=(0,0)) (by simp) s.cells (fun j hj=>by rw[Nat.zero_add]) _ Tryz.underlying26 rfl HMI.out ?_)
   refine(KR.out _ _ H0.out).mono ?_;rintro e w2 ⟨rfl,h2⟩;have H2:=za h2;clear h2 H0 KR hb;have c0:=H2.out.cell (g:=b) (cs:=s.cells) (t:=26) (fr:=(0,0)) (by simp) 0;have c1:=H2.out.cell (g:=b) (cs:=s.cells) (t:=26) (fr:=(0,0)) (by simp) 1;have c2:=H2.out.cell (g:=b) (cs:=s.cells) (t:=26) (fr:=(0,0)) (by simp) 2;have c3:=H2.out.cell (g:=b) (cs:=s.cells) (t:=26) (fr:=(0,0)) (by simp) 3;rw[Slt.at0]at c0;rw[Slt.at1]at c1;rw[Slt.at2]at c2;rw[Slt.at3]at c3;have f0:=H2.out.frozen (g:=b) (cs:=s.cells) (t:=26) (by simp) 0;have f1:=H2.out.frozen (g:=b) (cs:=s.cells) (t:=26) (by simp) 1;rw[S2.out]at c0;obtain⟨s',hs'⟩:∃s':Slt,{ s with st:=3,tr:=0 }=s':=⟨_,rfl⟩
   have hd':s'.dig.length=32:=by rw[←hs'];exact OK.out.dig
   have hbu:=fun w=>run_build_slot3 s.ver s.sz s.dig OK.out.dig w
   rw[show(⟨3,0,s.ver,s.sz,s.dig⟩:Slt)={ s with st:=3,tr:=0 } from rfl,hs']at hbu;rw[hs']at HV
   have hmd:(Tryz.prog.info? 24).map (·.size)=some (bcells s.dig).size:=by rw[um,OK.out.dig];kernel_rfl
   have hg4:∀j,j < (bcells s.dig).size→s.cells[4+j]?=(bcells s.dig)[j]?:=fun j hj=>by rw[Slt.at4];unfold bcells;rw[List.getElem?_toArray]
   have HG4:=za hg4;have HMD:=za hmd;have HBU:=za hbu;clear hg4 hmd hbu hs';obtain⟨hfit,hsm⟩:=y0 (s:=zS) (t:=s') zn hd';have hone:=Slt.one s';have hix:=zl (s:=s') hd';rw[show zS.cells=zbk from yh 0 ▸ rfl]at hfit hsm;have HFIT:=za hfit;have HSM:=za hsm;have HIX:=za hix;have HONE:=za hone;clear hfit hsm hone hix
   go_wp2_with (first|(with_reducible refine zo rfl 24 (.tmp 22) rfl (g:=b) (off:=4) rfl H2.out (cs:=s.cells) (t:=26) (fr:=(0,0)) (by simp) (bcells s.dig) HG4.out _ Tryz.underlying24 rfl HMD.out ?_)|(with_reducible refine wpList_build_st rfl 26 _ rfl _ ?_ (HBU.out _) ?_;·go_simp)|(with_reducible refine zc rfl 26 (.tmp 2) (.tmp 24) rfl (g:=b+1) (off:=0) s'.cells rfl rfl H2.out HFIT.out HIX.out HONE.out ?_;intro w9 h9;refine Hid.out ?_))
   refine za ?_;rw[HSM.out]at h9;go_wp2_with fail;refine bodyPost_ret (y1 (t:=s') (F:=F) h9 hd' rfl rfl rfl) rfl ?_;exact⟨by rw[HV.out],St.weaken (A:=[_,_]) h9⟩
  ·have k3:(s.st==2)=false:=beq_eq_false_iff_ne.2 k2
   have k4:(s.st != 2)=true:=by rw[bne,k3];rfl
   by_cases j2:s.st=3
   ·have hF:fullS s=true:=by rw[fullS,j2];rfl
    have hv:goodS s=({ s with st:=3,tr:=0 },0):=by rw[goodS,hR,hF];rfl
    rw[hR]at kR;have HV:=za hv;have HMI:=za (zl ok.dig);have H0:=za h0;have KR:=za kR;have OK:=za ok;clear h0 h kR ok hv;unfold Slt.val at KR ⊢;clear hR hF;have S2:=za j2;clear k2 k3 k4 j2
    go_enter Tryz.func79,Tryz.ntmps79
    go_wp2_with (with_reducible refine zo rfl 26 (.tmp 1) rfl (g:=b) (off:=0) rfl H0.out (cs:=s.cells) (t:=26) (fr:=(0,0)) (by simp) s.cells (fun j hj=>by rw[Nat.zero_add]) _ Tryz.underlying26 rfl HMI.out ?_)
    refine(KR.out _ _ H0.out).mono ?_;rintro e w2 ⟨rfl,h2⟩;have H2:=za h2;clear h2 H0 KR hb;have c0:=H2.out.cell (g:=b) (cs:=s.cells) (t:=26) (fr:=(0,0)) (by simp) 0;have c1:=H2.out.cell (g:=b) (cs:=s.cells) (t:=26) (fr:=(0,0)) (by simp) 1;have c2:=H2.out.cell (g:=b) (cs:=s.cells) (t:=26) (fr:=(0,0)) (by simp) 2;have c3:=H2.out.cell (g:=b) (cs:=s.cells) (t:=26) (fr:=(0,0)) (by simp) 3;rw[Slt.at0]at c0;rw[Slt.at1]at c1;rw[Slt.at2]at c2;rw[Slt.at3]at c3;have f0:=H2.out.frozen (g:=b) (cs:=s.cells) (t:=26) (by simp) 0;have f1:=H2.out.frozen (g:=b) (cs:=s.cells) (t:=26) (by simp) 1;rw[S2.out]at c0;obtain⟨s',hs'⟩:∃s':Slt,{ s with st:=3,tr:=0 }=s':=⟨_,rfl⟩
    have hd':s'.dig.length=32:=by rw[←hs'];exact OK.out.dig
    have hbu:=fun w=>run_build_slot3 s.ver s.sz s.dig OK.out.dig w
    rw[show(⟨3,0,s.ver,s.sz,s.dig⟩:Slt)={ s with st:=3,tr:=0 } from rfl,hs']at hbu;rw[hs']at HV
    have hmd:(Tryz.prog.info? 24).map (·.size)=some (bcells s.dig).size:=by rw[um,OK.out.dig];kernel_rfl
    have hg4:∀j,j < (bcells s.dig).size→s.cells[4+j]?=(bcells s.dig)[j]?:=fun j hj=>by rw[Slt.at4];unfold bcells;rw[List.getElem?_toArray]
    have HG4:=za hg4;have HMD:=za hmd;have HBU:=za hbu;clear hg4 hmd hbu hs';obtain⟨hfit,hsm⟩:=y0 (s:=zS) (t:=s') zn hd';have hone:=Slt.one s';have hix:=zl (s:=s') hd';rw[show zS.cells=zbk from yh 0 ▸ rfl]at hfit hsm;have HFIT:=za hfit;have HSM:=za hsm;have HIX:=za hix;have HONE:=za hone;clear hfit hsm hone hix
    go_wp2_with (first|(with_reducible refine zo rfl 24 (.tmp 22) rfl (g:=b) (off:=4) rfl H2.out (cs:=s.cells) (t:=26) (fr:=(0,0)) (by simp) (bcells s.dig) HG4.out _ Tryz.underlying24 rfl HMD.out ?_)|(with_reducible refine wpList_build_st rfl 26 _ rfl _ ?_ (HBU.out _) ?_;·go_simp)|(with_reducible refine zc rfl 26 (.tmp 2) (.tmp 24) rfl (g:=b+1) (off:=0) s'.cells rfl rfl H2.out HFIT.out HIX.out HONE.out ?_;intro w9 h9;refine Hid.out ?_))
    refine za ?_;rw[HSM.out]at h9;go_wp2_with fail;refine bodyPost_ret (y1 (t:=s') (F:=F) h9 hd' rfl rfl rfl) rfl ?_;exact⟨by rw[HV.out],St.weaken (A:=[_,_]) h9⟩
   ·have j3:(s.st==3)=false:=beq_eq_false_iff_ne.2 j2
    have j4:(s.st != 3)=true:=by rw[bne,j3];rfl
    have hF:fullS s=false:=by rw[fullS,k3,j3];rfl
    have hv:goodS s=(zS,101):=by rw[goodS,hR,hF];rfl
    rw[hR]at kR;have HV:=za hv;have HMI:=za (zl ok.dig);have H0:=za h0;have KR:=za kR;have OK:=za ok;clear h0 h kR ok hv;unfold Slt.val at KR ⊢;clear hR hF;clear k2 j2
    go_enter Tryz.func79,Tryz.ntmps79
    go_wp2_with (with_reducible refine zo rfl 26 (.tmp 1) rfl (g:=b) (off:=0) rfl H0.out (cs:=s.cells) (t:=26) (fr:=(0,0)) (by simp) s.cells (fun j hj=>by rw[Nat.zero_add]) _ Tryz.underlying26 rfl HMI.out ?_)
    refine(KR.out _ _ H0.out).mono ?_;rintro e w2 ⟨rfl,h2⟩;have H2:=za h2;clear h2 H0 KR hb;have c0:=H2.out.cell (g:=b) (cs:=s.cells) (t:=26) (fr:=(0,0)) (by simp) 0;have c1:=H2.out.cell (g:=b) (cs:=s.cells) (t:=26) (fr:=(0,0)) (by simp) 1;have c2:=H2.out.cell (g:=b) (cs:=s.cells) (t:=26) (fr:=(0,0)) (by simp) 2;have c3:=H2.out.cell (g:=b) (cs:=s.cells) (t:=26) (fr:=(0,0)) (by simp) 3;rw[Slt.at0]at c0;rw[Slt.at1]at c1;rw[Slt.at2]at c2;rw[Slt.at3]at c3;have f0:=H2.out.frozen (g:=b) (cs:=s.cells) (t:=26) (by simp) 0;have f1:=H2.out.frozen (g:=b) (cs:=s.cells) (t:=26) (by simp) 1;obtain⟨hfit,hsm⟩:=y0 (s:=zS) (t:=zS) zn zn;have hix:=zl (s:=zS) zn;have hone:=Slt.one zS;have hzl:zS.cells=zbk:=yh 0 ▸ rfl;rw[hzl]at hfit hsm hix hone;have HFIT:=za hfit;have HSM:=za hsm;have HIX:=za hix;have HONE:=za hone;have HZL:=za hzl;clear hfit hsm hix hone hzl
    go_wp2_with (with_reducible refine zc rfl 26 (.tmp 2) (.tmp 17) rfl (g:=b+1) (off:=0) zbk rfl rfl H2.out HFIT.out HIX.out HONE.out ?_;intro w9 h9;refine Hid.out ?_)
    refine za ?_;rw[HSM.out,←HZL.out]at h9;go_wp2_with fail;refine bodyPost_ret (y1 (F:=F) h9 zn rfl rfl rfl) rfl ?_;exact⟨by rw[HV.out],St.weaken (A:=[_,_]) h9⟩
theorem zbc (s:Slt) (ok:s.Ok) (h:St W w I F) :
  Calls Tryz.prog 80 #[s.val] w (SPost W I F (badS s)):=by
 have h0:=(h.alloc (.cells s.cells 26)).alloc (.cells zS.cells 26);rw[World.size_alloc]at h0;rw[show zS.cells=zbk from yh 0 ▸ rfl]at h0;obtain⟨b,hb⟩:∃b,w.heap.size=b:=⟨_,rfl⟩;rw[hb]at h0
 have kR:=fun(v:World) (F:List (Nat × Obj)) (hv:St W v I F)=>j9 s ok hv
 cases hR:rightS s with
 | false=>
  have hv:badS s=(zS,101):=by rw[badS,hR];rfl
  rw[hR]at kR;have HV:=za hv;have HMI:=za (zl ok.dig);have H0:=za h0;have KR:=za kR;have OK:=za ok;clear h0 h kR ok hv;unfold Slt.val at KR ⊢;clear hR
  go_enter Tryz.func80,Tryz.ntmps80
  go_wp2_with (with_reducible refine zo rfl 26 (.tmp 1) rfl (g:=b) (off:=0) rfl H0.out (cs:=s.cells) (t:=26) (fr:=(0,0)) (by simp) s.cells (fun j hj=>by rw[Nat.zero_add]) _ Tryz.underlying26 rfl HMI.out ?_)
  refine(KR.out _ _ H0.out).mono ?_;rintro e w2 ⟨rfl,h2⟩;have H2:=za h2;clear h2 H0 KR hb;obtain⟨hfit,hsm⟩:=y0 (s:=zS) (t:=zS) zn zn;have hix:=zl (s:=zS) zn;have hone:=Slt.one zS;have hzl:zS.cells=zbk:=yh 0 ▸ rfl;rw[hzl]at hfit hsm hix hone;have HFIT:=za hfit;have HSM:=za hsm;have HIX:=za hix;have HONE:=za hone;have HZL:=za hzl;clear hfit hsm hix hone hzl
  go_wp2_with (with_reducible refine zc rfl 26 (.tmp 2) (.tmp 17) rfl (g:=b+1) (off:=0) zbk rfl rfl H2.out HFIT.out HIX.out HONE.out ?_;intro w9 h9;refine Hid.out ?_)
  refine za ?_;rw[HSM.out,←HZL.out]at h9;go_wp2_with fail;refine bodyPost_ret (y1 (F:=F) h9 zn rfl rfl rfl) rfl ?_;exact⟨by rw[HV.out],St.weaken (A:=[_,_]) h9⟩
 | true=>
  by_cases k2:s.st=2
  ·have hF:fullS s=true:=by rw[fullS,k2];rfl
   have hv:badS s=(bareS 4,0):=by rw[badS,hR,hF];rfl
   rw[hR]at kR;have HV:=za hv;have HMI:=za (zl ok.dig);have H0:=za h0;have KR:=za kR;have OK:=za ok;clear h0 h kR ok hv;unfold Slt.val at KR ⊢;clear hR hF;have S2:=za k2;clear k2
   go_enter Tryz.func80,Tryz.ntmps80
   go_wp2_with (with_reducible refine zo rfl 26 (.tmp 1) rfl (g:=b) (off:=0) rfl H0.out (cs:=s.cells) (t:=26) (fr:=(0,0)) (by simp) s.cells (fun j hj=>by rw[Nat.zero_add]) _ Tryz.underlying26 rfl HMI.out ?_)
   refine(KR.out _ _ H0.out).mono ?_;rintro e w2 ⟨rfl,h2⟩;have H2:=za h2;clear h2 H0 KR hb;have c0:=H2.out.cell (g:=b) (cs:=s.cells) (t:=26) (fr:=(0,0)) (by simp) 0;have c1:=H2.out.cell (g:=b) (cs:=s.cells) (t:=26) (fr:=(0,0)) (by simp) 1;have c2:=H2.out.cell (g:=b) (cs:=s.cells) (t:=26) (fr:=(0,0)) (by simp) 2;have c3:=H2.out.cell (g:=b) (cs:=s.cells) (t:=26) (fr:=(0,0)) (by simp) 3;rw[Slt.at0]at c0;rw[Slt.at1]at c1;rw[Slt.at2]at c2;rw[Slt.at3]at c3;have f0:=H2.out.frozen (g:=b) (cs:=s.cells) (t:=26) (by simp) 0;have f1:=H2.out.frozen (g:=b) (cs:=s.cells) (t:=26) (by simp) 1;rw[S2.out]at c0;obtain⟨hfit,hsm⟩:=y0 (s:=zS) (t:=(bareS 4)) zn zn;have hone:=Slt.one (bareS 4);have hix:=zl (s:=(bareS 4)) zn;rw[show zS.cells=zbk from yh 0 ▸ rfl]at hfit hsm;have HFIT:=za hfit;have HSM:=za hsm;have HIX:=za hix;have HONE:=za hone;clear hfit hsm hone hix;rw[←yh]at *
   go_wp2_with (with_reducible refine zc rfl 26 (.tmp 2) (.tmp 18) rfl (g:=b+1) (off:=0) #[.int .i64 4,.int .i64 0,.int .u64 0,.int .i64 0,.int .u8 0,.int .u8 0,.int .u8 0,.int .u8 0,.int .u8 0,.int .u8 0,.int .u8 0,.int .u8 0,.int .u8 0,.int .u8 0,.int .u8 0,.int .u8 0,.int .u8 0,.int .u8 0,.int .u8 0,.int .u8 0,.int .u8 0,.int .u8 0,.int .u8 0,.int .u8 0,.int .u8 0,.int .u8 0,.int .u8 0,.int .u8 0,.int .u8 0,.int .u8 0,.int .u8 0,.int .u8 0,.int .u8 0,.int .u8 0,.int .u8 0,.int .u8 0] rfl rfl H2.out HFIT.out HIX.out HONE.out ?_;intro w9 h9;refine Hid.out ?_)
   refine za ?_;rw[HSM.out]at h9;go_wp2_with fail;refine bodyPost_ret (y1 (t:=(bareS 4)) (F:=F) h9 zn rfl rfl rfl) rfl ?_;exact⟨by rw[HV.out],St.weaken (A:=[_,_]) h9⟩
  ·have k3:(s.st==2)=false:=beq_eq_false_iff_ne.2 k2
   have k4:(s.st != 2)=true:=by rw[bne,k3];rfl
   by_cases j2:s.st=3
   ·have hF:fullS s=true:=by rw[fullS,j2];rfl
    have hv:badS s=(bareS 4,0):=by rw[badS,hR,hF];rfl
    rw[hR]at kR;have HV:=za hv;have HMI:=za (zl ok.dig);have H0:=za h0;have KR:=za kR;have OK:=za ok;clear h0 h kR ok hv;unfold Slt.val at KR ⊢;clear hR hF;have S2:=za j2;clear k2 k3 k4 j2
    go_enter Tryz.func80,Tryz.ntmps80
    go_wp2_with (with_reducible refine zo rfl 26 (.tmp 1) rfl (g:=b) (off:=0) rfl H0.out (cs:=s.cells) (t:=26) (fr:=(0,0)) (by simp) s.cells (fun j hj=>by rw[Nat.zero_add]) _ Tryz.underlying26 rfl HMI.out ?_)
    refine(KR.out _ _ H0.out).mono ?_;rintro e w2 ⟨rfl,h2⟩;have H2:=za h2;clear h2 H0 KR hb;have c0:=H2.out.cell (g:=b) (cs:=s.cells) (t:=26) (fr:=(0,0)) (by simp) 0;have c1:=H2.out.cell (g:=b) (cs:=s.cells) (t:=26) (fr:=(0,0)) (by simp) 1;have c2:=H2.out.cell (g:=b) (cs:=s.cells) (t:=26) (fr:=(0,0)) (by simp) 2;have c3:=H2.out.cell (g:=b) (cs:=s.cells) (t:=26) (fr:=(0,0)) (by simp) 3;rw[Slt.at0]at c0;rw[Slt.at1]at c1;rw[Slt.at2]at c2;rw[Slt.at3]at c3;have f0:=H2.out.frozen (g:=b) (cs:=s.cells) (t:=26) (by simp) 0;have f1:=H2.out.frozen (g:=b) (cs:=s.cells) (t:=26) (by simp) 1;rw[S2.out]at c0;obtain⟨hfit,hsm⟩:=y0 (s:=zS) (t:=(bareS 4)) zn zn;have hone:=Slt.one (bareS 4);have hix:=zl (s:=(bareS 4)) zn;rw[show zS.cells=zbk from yh 0 ▸ rfl]at hfit hsm;have HFIT:=za hfit;have HSM:=za hsm;have HIX:=za hix;have HONE:=za hone;clear hfit hsm hone hix;rw[←yh]at *
    go_wp2_with (with_reducible refine zc rfl 26 (.tmp 2) (.tmp 18) rfl (g:=b+1) (off:=0) #[.int .i64 4,.int .i64 0,.int .u64 0,.int .i64 0,.int .u8 0,.int .u8 0,.int .u8 0,.int .u8 0,.int .u8 0,.int .u8 0,.int .u8 0,.int .u8 0,.int .u8 0,.int .u8 0,.int .u8 0,.int .u8 0,.int .u8 0,.int .u8 0,.int .u8 0,.int .u8 0,.int .u8 0,.int .u8 0,.int .u8 0,.int .u8 0,.int .u8 0,.int .u8 0,.int .u8 0,.int .u8 0,.int .u8 0,.int .u8 0,.int .u8 0,.int .u8 0,.int .u8 0,.int .u8 0,.int .u8 0,.int .u8 0] rfl rfl H2.out HFIT.out HIX.out HONE.out ?_;intro w9 h9;refine Hid.out ?_)
    refine za ?_;rw[HSM.out]at h9;go_wp2_with fail;refine bodyPost_ret (y1 (t:=(bareS 4)) (F:=F) h9 zn rfl rfl rfl) rfl ?_;exact⟨by rw[HV.out],St.weaken (A:=[_,_]) h9⟩
   ·have j3:(s.st==3)=false:=beq_eq_false_iff_ne.2 j2
    have j4:(s.st != 3)=true:=by rw[bne,j3];rfl
    have hF:fullS s=false:=by rw[fullS,k3,j3];rfl
    have hv:badS s=(zS,101):=by rw[badS,hR,hF];rfl
    rw[hR]at kR;have HV:=za hv;have HMI:=za (zl ok.dig);have H0:=za h0;have KR:=za kR;have OK:=za ok;clear h0 h kR ok hv;unfold Slt.val at KR ⊢;clear hR hF;clear k2 j2
    go_enter Tryz.func80,Tryz.ntmps80
    go_wp2_with (with_reducible refine zo rfl 26 (.tmp 1) rfl (g:=b) (off:=0) rfl H0.out (cs:=s.cells) (t:=26) (fr:=(0,0)) (by simp) s.cells (fun j hj=>by rw[Nat.zero_add]) _ Tryz.underlying26 rfl HMI.out ?_)
    refine(KR.out _ _ H0.out).mono ?_;rintro e w2 ⟨rfl,h2⟩;have H2:=za h2;clear h2 H0 KR hb;have c0:=H2.out.cell (g:=b) (cs:=s.cells) (t:=26) (fr:=(0,0)) (by simp) 0;have c1:=H2.out.cell (g:=b) (cs:=s.cells) (t:=26) (fr:=(0,0)) (by simp) 1;have c2:=H2.out.cell (g:=b) (cs:=s.cells) (t:=26) (fr:=(0,0)) (by simp) 2;have c3:=H2.out.cell (g:=b) (cs:=s.cells) (t:=26) (fr:=(0,0)) (by simp) 3;rw[Slt.at0]at c0;rw[Slt.at1]at c1;rw[Slt.at2]at c2;rw[Slt.at3]at c3;have f0:=H2.out.frozen (g:=b) (cs:=s.cells) (t:=26) (by simp) 0;have f1:=H2.out.frozen (g:=b) (cs:=s.cells) (t:=26) (by simp) 1;obtain⟨hfit,hsm⟩:=y0 (s:=zS) (t:=zS) zn zn;have hix:=zl (s:=zS) zn;have hone:=Slt.one zS;have hzl:zS.cells=zbk:=yh 0 ▸ rfl;rw[hzl]at hfit hsm hix hone;have HFIT:=za hfit;have HSM:=za hsm;have HIX:=za hix;have HONE:=za hone;have HZL:=za hzl;clear hfit hsm hix hone hzl
    go_wp2_with (with_reducible refine zc rfl 26 (.tmp 2) (.tmp 17) rfl (g:=b+1) (off:=0) zbk rfl rfl H2.out HFIT.out HIX.out HONE.out ?_;intro w9 h9;refine Hid.out ?_)
    refine za ?_;rw[HSM.out,←HZL.out]at h9;go_wp2_with fail;refine bodyPost_ret (y1 (F:=F) h9 zn rfl rfl rfl) rfl ?_;exact⟨by rw[HV.out],St.weaken (A:=[_,_]) h9⟩
theorem ref_boot (s:Slt) (ok:s.Ok) (h:St W w I F) :
  Calls Tryz.prog 108 #[s.val] w fun e w'=>e=.returned (.bool (bootS s))∧St W w' I F:=by
 have h0:=h.alloc (.cells s.cells 26);obtain⟨b,hb⟩:∃b,w.heap.size=b:=⟨_,rfl⟩;rw[hb]at h0
 have kR:=fun(v:World) (F:List (Nat × Obj)) (hv:St W v I F)=>j9 s ok hv
 have hr:=bootS.eq_1 s;generalize rightS s=R at *;have HMI:=za (zl ok.dig);have H0:=za h0;have KR:=za kR;have HR:=za hr;clear h0 h kR ok hr;unfold Slt.val at KR ⊢
 cases R with
 | false=>
  have hB:bootS s=false:=by rw[HR.out];rfl
  have HB:=za hB;clear hB HR
  go_enter Tryz.func108,Tryz.ntmps108
  go_wp2_with (with_reducible refine zo rfl 26 (.tmp 1) rfl (g:=b) (off:=0) rfl H0.out (cs:=s.cells) (t:=26) (fr:=(0,0)) (by simp) s.cells (fun j hj=>by rw[Nat.zero_add]) _ Tryz.underlying26 rfl HMI.out ?_)
  refine(KR.out _ _ H0.out).mono ?_;rintro e w2 ⟨rfl,h2⟩;have H2:=za h2;clear h2 H0 KR hb;go_wp2_with fail;go_ret;exact⟨by rw[HB.out];(rfl),St.weaken (A:=[_]) H2.out⟩
 | true=>
  by_cases k3:s.st=3
  ·have S3:=za k3
   clear k3
   have hB:bootS s=true:=by rw[HR.out];simp[S3.out]
   have HB:=za hB;clear hB HR
   go_enter Tryz.func108,Tryz.ntmps108
   go_wp2_with (with_reducible refine zo rfl 26 (.tmp 1) rfl (g:=b) (off:=0) rfl H0.out (cs:=s.cells) (t:=26) (fr:=(0,0)) (by simp) s.cells (fun j hj=>by rw[Nat.zero_add]) _ Tryz.underlying26 rfl HMI.out ?_)
   refine(KR.out _ _ H0.out).mono ?_;rintro e w2 ⟨rfl,h2⟩;have c0:=h2.slt.1;have c1:=h2.slt.2.1;rw[S3.out]at c0;have H2:=za h2;clear h2 H0 KR hb;go_wp2_with fail;go_ret;exact⟨by rw[HB.out];(rfl),St.weaken (A:=[_]) H2.out⟩
  ·have j3:(s.st==3)=false:=beq_eq_false_iff_ne.2 k3
   by_cases k2:s.st=2
   ·have S2:=za k2
    clear k2 k3 j3
    by_cases t0:0 < s.tr
    ·have hB:bootS s=true:=by rw[HR.out];simp[S2.out,t0]
     have HB:=za hB;clear hB HR
     go_enter Tryz.func108,Tryz.ntmps108
     go_wp2_with (with_reducible refine zo rfl 26 (.tmp 1) rfl (g:=b) (off:=0) rfl H0.out (cs:=s.cells) (t:=26) (fr:=(0,0)) (by simp) s.cells (fun j hj=>by rw[Nat.zero_add]) _ Tryz.underlying26 rfl HMI.out ?_)
     refine(KR.out _ _ H0.out).mono ?_;rintro e w2 ⟨rfl,h2⟩;have c0:=h2.slt.1;have c1:=h2.slt.2.1;rw[S2.out]at c0;have H2:=za h2;clear h2 H0 KR hb;go_wp2_with fail;go_ret;exact⟨by rw[HB.out];(simp;omega),St.weaken (A:=[_]) H2.out⟩
    ·have hB:bootS s=false:=by rw[HR.out];simp[S2.out,t0]
     have HB:=za hB;clear hB HR
     go_enter Tryz.func108,Tryz.ntmps108
     go_wp2_with (with_reducible refine zo rfl 26 (.tmp 1) rfl (g:=b) (off:=0) rfl H0.out (cs:=s.cells) (t:=26) (fr:=(0,0)) (by simp) s.cells (fun j hj=>by rw[Nat.zero_add]) _ Tryz.underlying26 rfl HMI.out ?_)
     refine(KR.out _ _ H0.out).mono ?_;rintro e w2 ⟨rfl,h2⟩;have c0:=h2.slt.1;have c1:=h2.slt.2.1;rw[S2.out]at c0;have H2:=za h2;clear h2 H0 KR hb;go_wp2_with fail;go_ret;exact⟨by rw[HB.out];(simp;omega),St.weaken (A:=[_]) H2.out⟩
   ·have j2:(s.st==2)=false:=beq_eq_false_iff_ne.2 k2
    have hB:bootS s=false:=by rw[HR.out];simp[j3,j2]
    have HB:=za hB;clear hB HR k2 k3
    go_enter Tryz.func108,Tryz.ntmps108
    go_wp2_with (with_reducible refine zo rfl 26 (.tmp 1) rfl (g:=b) (off:=0) rfl H0.out (cs:=s.cells) (t:=26) (fr:=(0,0)) (by simp) s.cells (fun j hj=>by rw[Nat.zero_add]) _ Tryz.underlying26 rfl HMI.out ?_)
    refine(KR.out _ _ H0.out).mono ?_;rintro e w2 ⟨rfl,h2⟩;have c0:=h2.slt.1;have c1:=h2.slt.2.1;have H2:=za h2;clear h2 H0 KR hb;go_wp2_with fail;go_ret;exact⟨by rw[HB.out];(rfl),St.weaken (A:=[_]) H2.out⟩
end
end Go.Proofs.YtnjnooeldkideaaGreatDoor
