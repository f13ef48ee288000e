/- slot: what a slot becomes: walks. -/
import Derived.Test.YtnjnooeldkideaaGreatDoorMSlotB
namespace Go.Proofs.YtnjnooeldkideaaGreatDoor
set_option maxRecDepth 100000
set_option maxHeartbeats 4000000
set_option linter.unusedVariables false
set_option linter.unusedSimpArgs false
open Go.RowKit Go.Lib
theorem Slt.set0 (s:Slt) (x:Int):s.cells.setIfInBounds 0 (.int .i64 x)=({ s with st:=x }:Slt).cells:=by
 unfold Slt.cells
 simp
theorem Slt.set1 (s:Slt) (x:Int):s.cells.setIfInBounds 1 (.int .i64 x)=({ s with tr:=x }:Slt).cells:=by
 unfold Slt.cells
 simp
theorem y0 {s t:Slt} (hs:s.dig.length=32) (ht:t.dig.length=32):0+t.cells.size≤s.cells.size∧zg s.cells 0 t.cells.toList=t.cells:=by
 refine⟨by rw[Slt.size hs,Slt.size ht];omega,?_⟩;rw[zd _ _ (by rw[Array.length_toList,Slt.size hs,Slt.size ht]),Array.toArray_toList]
theorem rightS_try (s:Slt) (h:rightS s=true) (h2:s.st=2):0≤s.tr∧s.tr≤7:=by
 unfold rightS at h;rw[h2]at h
 simp at h
 omega
theorem y1 {fn:Func} {p q:Tmp} {w:World} {I:Nat→Option Obj} {L F:List (Nat × Obj)} {W:World} {g:Nat} {t:Slt} {e:Int} {tmps:Array Value} (hst:St W w I ((g,.cells t.cells 26 (0,0))::L)) (ht:t.dig.length=32)
  (h:fn.results=#[.cell p 26,.tmp q]) (hp:tmps.getD p undef=.pointer (some ⟨g,0,none⟩)) (hq:tmps.getD q undef=.int .i64 e) :
  (results fn tmps).run Tryz.prog w=.ok (.tuple #[.agg t.cells,.int .i64 e]) w:=
 zr h _ w g 26 t.cells (0,0) _ _ hp hq (hst.own (g,.cells t.cells 26 (0,0)) (by simp)) Tryz.underlying26 (by kernel_rfl) (zl ht)
section
variable {W w:World} {I:Nat→Option Obj} {F:List (Nat × Obj)}
theorem run_build_slot3 (ver sz:Int) (ds:List UInt8) (hd:ds.length=32) (w:World) :
  (Instr.build 26 #[(0,.int .i64 3),(2,.int .u64 ver),(3,.int .i64 sz),(4,.agg (bcells ds))]).run Tryz.prog w=.ok (.agg (⟨3,0,ver,sz,ds⟩:Slt).cells) w:=by
 obtain⟨d0,d1,d2,d3,d4,d5,d6,d7,d8,d9,d10,d11,d12,d13,d14,d15,d16,d17,d18,d19,d20,d21,d22,d23,d24,d25,d26,d27,d28,d29,d30,d31,rfl⟩:=jv ds hd
 kernel_rfl
def SPost (W:World) (I:Nat→Option Obj) (F:List (Nat × Obj)) (r:Slt × Int) (e:Ending) (w':World):Prop:=e=.returned (.tuple #[.agg r.1.cells,.int .i64 r.2])∧St W w' I F
theorem slot_full (s:Slt) (ok:s.Ok) (h:St W w I F) :
  Calls Tryz.prog 121 #[s.val] w fun e w'=>e=.returned (.bool (fullS s))∧St W w' I F:=by
 have h0:=h.alloc (.cells s.cells 26);obtain⟨b,hb⟩:∃b,w.heap.size=b:=⟨_,rfl⟩;rw[hb]at h0;obtain⟨c0,c1,c2,c3⟩:=h0.slt;clear c1 c2 c3;unfold Slt.val fullS;obtain⟨q1,q2,q3,q4,q5,q6,q7,q8,q9⟩:=ok;clear q1;generalize s.cells=C at *;generalize s.st=st at *;have H0:=za h0;clear h0 h q4 q5 q6 q7 q8 q9
 by_cases k:st=2
 ·subst k
  go_enter Tryz.func121,Tryz.ntmps121
  go_wp2_with fail;go_ret;exact⟨rfl,St.weaken (A:=[_]) H0.out⟩
 ·have k2:(st==2)=false:=beq_eq_false_iff_ne.2 k
  go_enter Tryz.func121,Tryz.ntmps121
  go_wp2_with fail;go_ret;exact⟨by rw[k2];rfl,St.weaken (A:=[_]) H0.out⟩
theorem zau (s:Slt) (ok:s.Ok) (h:St W w I F) :
  Calls Tryz.prog 123 #[s.val] w (SPost W I F (tryS s)):=by
 have h0:=(h.alloc (.cells s.cells 26)).alloc (.cells zS.cells 26);rw[World.size_alloc]at h0;rw[show zS.cells=zbk from yh 0 ▸ rfl]at h0;obtain⟨b,hb⟩:∃b,w.heap.size=b:=⟨_,rfl⟩;rw[hb]at h0
 have kR:=fun(v:World) (F:List (Nat × Obj)) (hv:St W v I F)=>jq s ok hv
 cases hR:rightS s with
 | false=>
  have hv:tryS s=(zS,101):=by rw[tryS,hR];rfl
  rw[hR]at kR;have HV:=za hv;have HMI:=za (zl ok.dig);have H0:=za h0;have KR:=za kR;have OK:=za ok;clear h0 h kR ok hv;unfold Slt.val at KR ⊢;clear hR
  go_enter Tryz.func123,Tryz.ntmps123
  go_wp2_with (with_reducible refine zo rfl 26 (.tmp 1) rfl (g:=b) (off:=0) rfl H0.out (cs:=s.cells) (t:=26) (fr:=(0,0)) (by simp) s.cells (fun j hj=>by rw[Nat.zero_add]) _ Tryz.underlying26 rfl HMI.out ?_)
  refine(KR.out _ _ H0.out).mono ?_;rintro e w2 ⟨rfl,h2⟩;have H2:=za h2;clear h2 H0 KR hb;obtain⟨hfit,hsm⟩:=y0 (s:=zS) (t:=zS) zn zn;have hix:=zl (s:=zS) zn;have hone:=Slt.one zS;have hzl:zS.cells=zbk:=yh 0 ▸ rfl;rw[hzl]at hfit hsm hix hone;have HFIT:=za hfit;have HSM:=za hsm;have HIX:=za hix;have HONE:=za hone;have HZL:=za hzl;clear hfit hsm hix hone hzl
  go_wp2_with (with_reducible refine zc rfl 26 (.tmp 2) (.tmp 17) rfl (g:=b+1) (off:=0) zbk rfl rfl H2.out HFIT.out HIX.out HONE.out ?_;intro w9 h9;refine Hid.out ?_)
  refine za ?_;rw[HSM.out,←HZL.out]at h9;go_wp2_with fail;refine bodyPost_ret (y1 (F:=F) h9 zn rfl rfl rfl) rfl ?_;exact⟨by rw[HV.out],St.weaken (A:=[_,_]) h9⟩
 | true=>
  by_cases k2:s.st=2
  ·obtain⟨t0,t7⟩:=rightS_try s hR k2
   by_cases k0:s.tr=0
   ·have hv:tryS s=(zS,101):=by rw[tryS,hR,k2,k0];rfl
    rw[hR]at kR;have HV:=za hv;have HMI:=za (zl ok.dig);have H0:=za h0;have KR:=za kR;have OK:=za ok;clear h0 h kR ok hv;unfold Slt.val at KR ⊢;have S2:=za k2;have S0:=za k0;clear hR k2 k0 t0 t7
    go_enter Tryz.func123,Tryz.ntmps123
    go_wp2_with (with_reducible refine zo rfl 26 (.tmp 1) rfl (g:=b) (off:=0) rfl H0.out (cs:=s.cells) (t:=26) (fr:=(0,0)) (by simp) s.cells (fun j hj=>by rw[Nat.zero_add]) _ Tryz.underlying26 rfl HMI.out ?_)
    refine(KR.out _ _ H0.out).mono ?_;rintro e w2 ⟨rfl,h2⟩;have H2:=za h2;clear h2 H0 KR hb;have c0:=H2.out.cell (g:=b) (cs:=s.cells) (t:=26) (fr:=(0,0)) (by simp) 0;have c1:=H2.out.cell (g:=b) (cs:=s.cells) (t:=26) (fr:=(0,0)) (by simp) 1;have c2:=H2.out.cell (g:=b) (cs:=s.cells) (t:=26) (fr:=(0,0)) (by simp) 2;have c3:=H2.out.cell (g:=b) (cs:=s.cells) (t:=26) (fr:=(0,0)) (by simp) 3;rw[Slt.at0]at c0;rw[Slt.at1]at c1;rw[Slt.at2]at c2;rw[Slt.at3]at c3;have f0:=H2.out.frozen (g:=b) (cs:=s.cells) (t:=26) (by simp) 0;have f1:=H2.out.frozen (g:=b) (cs:=s.cells) (t:=26) (by simp) 1;rw[S2.out]at c0;rw[S0.out]at c1;obtain⟨hfit,hsm⟩:=y0 (s:=zS) (t:=zS) zn zn;have hix:=zl (s:=zS) zn;have hone:=Slt.one zS;have hzl:zS.cells=zbk:=yh 0 ▸ rfl;rw[hzl]at hfit hsm hix hone;have HFIT:=za hfit;have HSM:=za hsm;have HIX:=za hix;have HONE:=za hone;have HZL:=za hzl;clear hfit hsm hix hone hzl
    go_wp2_with (with_reducible refine zc rfl 26 (.tmp 2) (.tmp 17) rfl (g:=b+1) (off:=0) zbk rfl rfl H2.out HFIT.out HIX.out HONE.out ?_;intro w9 h9;refine Hid.out ?_)
    refine za ?_;rw[HSM.out,←HZL.out]at h9;go_wp2_with fail;refine bodyPost_ret (y1 (F:=F) h9 zn rfl rfl rfl) rfl ?_;exact⟨by rw[HV.out],St.weaken (A:=[_,_]) h9⟩
   ·have hv:tryS s=({ s with tr:=s.tr-1 },0):=by rw[tryS,hR,k2,beq_eq_false_iff_ne.2 k0];rfl
    rw[hR]at kR;have HV:=za hv;have HMI:=za (zl ok.dig);have H0:=za h0;have KR:=za kR;have OK:=za ok;clear h0 h kR ok hv;unfold Slt.val at KR ⊢;have S2:=za k2
    have t1:1≤s.tr:=by omega
    have t3:(s.tr==0)=false:=beq_eq_false_iff_ne.2 k0;clear hR k2 k0 t0
    go_enter Tryz.func123,Tryz.ntmps123
    go_wp2_with (with_reducible refine zo rfl 26 (.tmp 1) rfl (g:=b) (off:=0) rfl H0.out (cs:=s.cells) (t:=26) (fr:=(0,0)) (by simp) s.cells (fun j hj=>by rw[Nat.zero_add]) _ Tryz.underlying26 rfl HMI.out ?_)
    refine(KR.out _ _ H0.out).mono ?_;rintro e w2 ⟨rfl,h2⟩;have H2:=za h2;clear h2 H0 KR hb;have c0:=H2.out.cell (g:=b) (cs:=s.cells) (t:=26) (fr:=(0,0)) (by simp) 0;have c1:=H2.out.cell (g:=b) (cs:=s.cells) (t:=26) (fr:=(0,0)) (by simp) 1;have c2:=H2.out.cell (g:=b) (cs:=s.cells) (t:=26) (fr:=(0,0)) (by simp) 2;have c3:=H2.out.cell (g:=b) (cs:=s.cells) (t:=26) (fr:=(0,0)) (by simp) 3;rw[Slt.at0]at c0;rw[Slt.at1]at c1;rw[Slt.at2]at c2;rw[Slt.at3]at c3;have f0:=H2.out.frozen (g:=b) (cs:=s.cells) (t:=26) (by simp) 0;have f1:=H2.out.frozen (g:=b) (cs:=s.cells) (t:=26) (by simp) 1;rw[S2.out]at c0;have h3:=St.set (A:=[(b+1,_)]) H2.out 1 (.int .i64 (s.tr-1));rw[Slt.set1]at h3;have H3:=za h3;clear h3 c2 c3;obtain⟨s',hs'⟩:∃s':Slt,{ s with tr:=s.tr-1 }=s':=⟨_,rfl⟩
    have hd':s'.dig.length=32:=by rw[←hs'];exact OK.out.dig
    rw[hs']at HV H3;clear hs';obtain⟨hfit,hsm⟩:=y0 (s:=zS) (t:=s') zn hd';have hone:=Slt.one s';have hix:=zl (s:=s') hd';rw[show zS.cells=zbk from yh 0 ▸ rfl]at hfit hsm;have HFIT:=za hfit;have HSM:=za hsm;have HIX:=za hix;have HONE:=za hone;clear hfit hsm hone hix;have HMI:=HIX
    go_wp2_with (first|(with_reducible refine zo rfl 26 (.tmp 1) rfl (g:=b) (off:=0) rfl H3.out (cs:=s'.cells) (t:=26) (fr:=(0,0)) (by simp) s'.cells (fun j hj=>by rw[Nat.zero_add]) _ Tryz.underlying26 rfl HMI.out ?_)|(with_reducible refine zc rfl 26 (.tmp 2) (.tmp 22) rfl (g:=b+1) (off:=0) s'.cells rfl rfl H3.out HFIT.out HIX.out HONE.out ?_;intro w9 h9;refine Hid.out ?_))
    refine za ?_;rw[HSM.out]at h9;go_wp2_with fail;refine bodyPost_ret (y1 (t:=s') (F:=F) h9 hd' rfl rfl rfl) rfl ?_;exact⟨by rw[HV.out],St.weaken (A:=[_,_]) h9⟩
  ·have k3:(s.st==2)=false:=beq_eq_false_iff_ne.2 k2
   have k4:(s.st != 2)=true:=by rw[bne,k3];rfl
   have hv:tryS s=(zS,101):=by rw[tryS,hR,k3];rfl
   rw[hR]at kR;have HV:=za hv;have HMI:=za (zl ok.dig);have H0:=za h0;have KR:=za kR;have OK:=za ok;clear h0 h kR ok hv;unfold Slt.val at KR ⊢;clear hR k2
   go_enter Tryz.func123,Tryz.ntmps123
   go_wp2_with (with_reducible refine zo rfl 26 (.tmp 1) rfl (g:=b) (off:=0) rfl H0.out (cs:=s.cells) (t:=26) (fr:=(0,0)) (by simp) s.cells (fun j hj=>by rw[Nat.zero_add]) _ Tryz.underlying26 rfl HMI.out ?_)
   refine(KR.out _ _ H0.out).mono ?_;rintro e w2 ⟨rfl,h2⟩;have H2:=za h2;clear h2 H0 KR hb;have c0:=H2.out.cell (g:=b) (cs:=s.cells) (t:=26) (fr:=(0,0)) (by simp) 0;have c1:=H2.out.cell (g:=b) (cs:=s.cells) (t:=26) (fr:=(0,0)) (by simp) 1;have c2:=H2.out.cell (g:=b) (cs:=s.cells) (t:=26) (fr:=(0,0)) (by simp) 2;have c3:=H2.out.cell (g:=b) (cs:=s.cells) (t:=26) (fr:=(0,0)) (by simp) 3;rw[Slt.at0]at c0;rw[Slt.at1]at c1;rw[Slt.at2]at c2;rw[Slt.at3]at c3;have f0:=H2.out.frozen (g:=b) (cs:=s.cells) (t:=26) (by simp) 0;have f1:=H2.out.frozen (g:=b) (cs:=s.cells) (t:=26) (by simp) 1;obtain⟨hfit,hsm⟩:=y0 (s:=zS) (t:=zS) zn zn;have hix:=zl (s:=zS) zn;have hone:=Slt.one zS;have hzl:zS.cells=zbk:=yh 0 ▸ rfl;rw[hzl]at hfit hsm hix hone;have HFIT:=za hfit;have HSM:=za hsm;have HIX:=za hix;have HONE:=za hone;have HZL:=za hzl;clear hfit hsm hix hone hzl
   go_wp2_with (with_reducible refine zc rfl 26 (.tmp 2) (.tmp 17) rfl (g:=b+1) (off:=0) zbk rfl rfl H2.out HFIT.out HIX.out HONE.out ?_;intro w9 h9;refine Hid.out ?_)
   refine za ?_;rw[HSM.out,←HZL.out]at h9;go_wp2_with fail;refine bodyPost_ret (y1 (F:=F) h9 zn rfl rfl rfl) rfl ?_;exact⟨by rw[HV.out],St.weaken (A:=[_,_]) h9⟩
theorem slot_good (s:Slt) (ok:s.Ok) (h:St W w I F) :
  Calls Tryz.prog 100 #[s.val] w (SPost W I F (goodS s)):=by
 have h0:=(h.alloc (.cells s.cells 26)).alloc (.cells zS.cells 26);rw[World.size_alloc]at h0;rw[show zS.cells=zbk from yh 0 ▸ rfl]at h0;obtain⟨b,hb⟩:∃b,w.heap.size=b:=⟨_,rfl⟩;rw[hb]at h0
 have kR:=fun(v:World) (F:List (Nat × Obj)) (hv:St W v I F)=>jq s ok hv
 cases hR:rightS s with
 | false=>
  have hv:goodS s=(zS,101):=by rw[goodS,hR];rfl
  rw[hR]at kR;have HV:=za hv;have HMI:=za (zl ok.dig);have H0:=za h0;have KR:=za kR;have OK:=za ok;clear h0 h kR ok hv;unfold Slt.val at KR ⊢;clear hR
  go_enter Tryz.func100,Tryz.ntmps100
  go_wp2_with (with_reducible refine zo rfl 26 (.tmp 1) rfl (g:=b) (off:=0) rfl H0.out (cs:=s.cells) (t:=26) (fr:=(0,0)) (by simp) s.cells (fun j hj=>by rw[Nat.zero_add]) _ Tryz.underlying26 rfl HMI.out ?_)
  refine(KR.out _ _ H0.out).mono ?_;rintro e w2 ⟨rfl,h2⟩;have H2:=za h2;clear h2 H0 KR hb;obtain⟨hfit,hsm⟩:=y0 (s:=zS) (t:=zS) zn zn;have hix:=zl (s:=zS) zn;have hone:=Slt.one zS;have hzl:zS.cells=zbk:=yh 0 ▸ rfl;rw[hzl]at hfit hsm hix hone;have HFIT:=za hfit;have HSM:=za hsm;have HIX:=za hix;have HONE:=za hone;have HZL:=za hzl;clear hfit hsm hix hone hzl
  go_wp2_with (with_reducible refine zc rfl 26 (.tmp 2) (.tmp 12) rfl (g:=b+1) (off:=0) zbk rfl rfl H2.out HFIT.out HIX.out HONE.out ?_;intro w9 h9;refine Hid.out ?_)
  refine za ?_;rw[HSM.out,←HZL.out]at h9;go_wp2_with fail;refine bodyPost_ret (y1 (F:=F) h9 zn rfl rfl rfl) rfl ?_;exact⟨by rw[HV.out],St.weaken (A:=[_,_]) h9⟩
 | true=>
  have kF:=fun(v:World) (F:List (Nat × Obj)) (hv:St W v I F)=>slot_full s ok hv
  cases hF:fullS s with
  | false=>
   have hv:goodS s=(zS,101):=by rw[goodS,hR,hF];rfl
   rw[hF]at kF;rw[hR]at kR;have HV:=za hv;have HMI:=za (zl ok.dig);have H0:=za h0;have KR:=za kR;have OK:=za ok;have KF:=za kF;clear kF;unfold Slt.val at KF;clear h0 h kR ok hv;unfold Slt.val at KR ⊢;clear hR hF
   go_enter Tryz.func100,Tryz.ntmps100
   go_wp2_with (with_reducible refine zo rfl 26 (.tmp 1) rfl (g:=b) (off:=0) rfl H0.out (cs:=s.cells) (t:=26) (fr:=(0,0)) (by simp) s.cells (fun j hj=>by rw[Nat.zero_add]) _ Tryz.underlying26 rfl HMI.out ?_)
   refine(KR.out _ _ H0.out).mono ?_;rintro e w2 ⟨rfl,h2⟩;have H2:=za h2;clear h2 H0 KR hb;have c0:=H2.out.cell (g:=b) (cs:=s.cells) (t:=26) (fr:=(0,0)) (by simp) 0;have c1:=H2.out.cell (g:=b) (cs:=s.cells) (t:=26) (fr:=(0,0)) (by simp) 1;have c2:=H2.out.cell (g:=b) (cs:=s.cells) (t:=26) (fr:=(0,0)) (by simp) 2;have c3:=H2.out.cell (g:=b) (cs:=s.cells) (t:=26) (fr:=(0,0)) (by simp) 3;rw[Slt.at0]at c0;rw[Slt.at1]at c1;rw[Slt.at2]at c2;rw[Slt.at3]at c3;have f0:=H2.out.frozen (g:=b) (cs:=s.cells) (t:=26) (by simp) 0;have f1:=H2.out.frozen (g:=b) (cs:=s.cells) (t:=26) (by simp) 1
   go_wp2_with (refine zj (by rfl) 26 (.tmp 1) rfl (g:=b) (off:=0) rfl H2.out (cs:=s.cells) (t:=26) (fr:=(0,0)) (by simp) s.cells (fun j hj=>by rw[Nat.zero_add]) _ Tryz.underlying26 rfl HMI.out ?_)
   refine(KF.out _ _ H2.out).mono ?_;rintro e w3 ⟨rfl,h3⟩;clear H2 c0 c1 c2 c3 f0 f1;have H2:=za h3;clear h3 KF;have c0:=H2.out.cell (g:=b) (cs:=s.cells) (t:=26) (fr:=(0,0)) (by simp) 0;have c1:=H2.out.cell (g:=b) (cs:=s.cells) (t:=26) (fr:=(0,0)) (by simp) 1;have c2:=H2.out.cell (g:=b) (cs:=s.cells) (t:=26) (fr:=(0,0)) (by simp) 2;have c3:=H2.out.cell (g:=b) (cs:=s.cells) (t:=26) (fr:=(0,0)) (by simp) 3;rw[Slt.at0]at c0;rw[Slt.at1]at c1;rw[Slt.at2]at c2;rw[Slt.at3]at c3;have f0:=H2.out.frozen (g:=b) (cs:=s.cells) (t:=26) (by simp) 0;have f1:=H2.out.frozen (g:=b) (cs:=s.cells) (t:=26) (by simp) 1;obtain⟨hfit,hsm⟩:=y0 (s:=zS) (t:=zS) zn zn;have hix:=zl (s:=zS) zn;have hone:=Slt.one zS;have hzl:zS.cells=zbk:=yh 0 ▸ rfl;rw[hzl]at hfit hsm hix hone;have HFIT:=za hfit;have HSM:=za hsm;have HIX:=za hix;have HONE:=za hone;have HZL:=za hzl;clear hfit hsm hix hone hzl
   go_wp2_with (with_reducible refine zc rfl 26 (.tmp 2) (.tmp 12) rfl (g:=b+1) (off:=0) zbk rfl rfl H2.out HFIT.out HIX.out HONE.out ?_;intro w9 h9;refine Hid.out ?_)
   refine za ?_;rw[HSM.out,←HZL.out]at h9;go_wp2_with fail;refine bodyPost_ret (y1 (F:=F) h9 zn rfl rfl rfl) rfl ?_;exact⟨by rw[HV.out],St.weaken (A:=[_,_]) h9⟩
  | true=>
   have hv:goodS s=({ s with st:=3,tr:=0 },0):=by rw[goodS,hR,hF];rfl
   rw[hF]at kF;rw[hR]at kR;have HV:=za hv;have HMI:=za (zl ok.dig);have H0:=za h0;have KR:=za kR;have OK:=za ok;have KF:=za kF;clear kF;unfold Slt.val at KF;clear h0 h kR ok hv;unfold Slt.val at KR ⊢;clear hR hF
   go_enter Tryz.func100,Tryz.ntmps100
   go_wp2_with (with_reducible refine zo rfl 26 (.tmp 1) rfl (g:=b) (off:=0) rfl H0.out (cs:=s.cells) (t:=26) (fr:=(0,0)) (by simp) s.cells (fun j hj=>by rw[Nat.zero_add]) _ Tryz.underlying26 rfl HMI.out ?_)
   refine(KR.out _ _ H0.out).mono ?_;rintro e w2 ⟨rfl,h2⟩;have H2:=za h2;clear h2 H0 KR hb;have c0:=H2.out.cell (g:=b) (cs:=s.cells) (t:=26) (fr:=(0,0)) (by simp) 0;have c1:=H2.out.cell (g:=b) (cs:=s.cells) (t:=26) (fr:=(0,0)) (by simp) 1;have c2:=H2.out.cell (g:=b) (cs:=s.cells) (t:=26) (fr:=(0,0)) (by simp) 2;have c3:=H2.out.cell (g:=b) (cs:=s.cells) (t:=26) (fr:=(0,0)) (by simp) 3;rw[Slt.at0]at c0;rw[Slt.at1]at c1;rw[Slt.at2]at c2;rw[Slt.at3]at c3;have f0:=H2.out.frozen (g:=b) (cs:=s.cells) (t:=26) (by simp) 0;have f1:=H2.out.frozen (g:=b) (cs:=s.cells) (t:=26) (by simp) 1
   go_wp2_with (refine zj (by rfl) 26 (.tmp 1) rfl (g:=b) (off:=0) rfl H2.out (cs:=s.cells) (t:=26) (fr:=(0,0)) (by simp) s.cells (fun j hj=>by rw[Nat.zero_add]) _ Tryz.underlying26 rfl HMI.out ?_)
   refine(KF.out _ _ H2.out).mono ?_;rintro e w3 ⟨rfl,h3⟩;clear H2 c0 c1 c2 c3 f0 f1;have H2:=za h3;clear h3 KF;have c0:=H2.out.cell (g:=b) (cs:=s.cells) (t:=26) (fr:=(0,0)) (by simp) 0;have c1:=H2.out.cell (g:=b) (cs:=s.cells) (t:=26) (fr:=(0,0)) (by simp) 1;have c2:=H2.out.cell (g:=b) (cs:=s.cells) (t:=26) (fr:=(0,0)) (by simp) 2;have c3:=H2.out.cell (g:=b) (cs:=s.cells) (t:=26) (fr:=(0,0)) (by simp) 3;rw[Slt.at0]at c0;rw[Slt.at1]at c1;rw[Slt.at2]at c2;rw[Slt.at3]at c3;have f0:=H2.out.frozen (g:=b) (cs:=s.cells) (t:=26) (by simp) 0;have f1:=H2.out.frozen (g:=b) (cs:=s.cells) (t:=26) (by simp) 1;have h3:=St.set (A:=[(b+1,_)]) H2.out 0 (.int .i64 3);rw[Slt.set0]at h3;have g1:=St.set (A:=[(b+1,_)]) h3 1 (.int .i64 0);rw[Slt.set1]at g1;have f2:=h3.frozen (g:=b) (cs:=({ s with st:=3 }:Slt).cells) (t:=26) (by simp) 1;have c5:=h3.cell (g:=b) (cs:=({ s with st:=3 }:Slt).cells) (t:=26) (fr:=(0,0)) (by simp) 1;rw[Slt.at1]at c5;have H3:=za g1;clear h3 c2 c3 g1;obtain⟨s',hs'⟩:∃s':Slt,{ s with st:=3,tr:=0 }=s':=⟨_,rfl⟩
   have hd':s'.dig.length=32:=by rw[←hs'];exact OK.out.dig
   rw[hs']at HV H3;clear hs';obtain⟨hfit,hsm⟩:=y0 (s:=zS) (t:=s') zn hd';have hone:=Slt.one s';have hix:=zl (s:=s') hd';rw[show zS.cells=zbk from yh 0 ▸ rfl]at hfit hsm;have HFIT:=za hfit;have HSM:=za hsm;have HIX:=za hix;have HONE:=za hone;clear hfit hsm hone hix;have HMI:=HIX
   go_wp2_with (first|(with_reducible refine zo rfl 26 (.tmp 1) rfl (g:=b) (off:=0) rfl H3.out (cs:=s'.cells) (t:=26) (fr:=(0,0)) (by simp) s'.cells (fun j hj=>by rw[Nat.zero_add]) _ Tryz.underlying26 rfl HMI.out ?_)|(with_reducible refine zc rfl 26 (.tmp 2) (.tmp 15) rfl (g:=b+1) (off:=0) s'.cells rfl rfl H3.out HFIT.out HIX.out HONE.out ?_;intro w9 h9;refine Hid.out ?_))
   refine za ?_;rw[HSM.out]at h9;go_wp2_with fail;refine bodyPost_ret (y1 (t:=s') (F:=F) h9 hd' rfl rfl rfl) rfl ?_;exact⟨by rw[HV.out],St.weaken (A:=[_,_]) h9⟩
theorem zbd (s:Slt) (ok:s.Ok) (h:St W w I F) :
  Calls Tryz.prog 102 #[s.val] w (SPost W I F (badS s)):=by
 have h0:=(h.alloc (.cells s.cells 26)).alloc (.cells zS.cells 26);rw[World.size_alloc]at h0;rw[show zS.cells=zbk from yh 0 ▸ rfl]at h0;obtain⟨b,hb⟩:∃b,w.heap.size=b:=⟨_,rfl⟩;rw[hb]at h0
 have kR:=fun(v:World) (F:List (Nat × Obj)) (hv:St W v I F)=>jq s ok hv
 cases hR:rightS s with
 | false=>
  have hv:badS s=(zS,101):=by rw[badS,hR];rfl
  rw[hR]at kR;have HV:=za hv;have HMI:=za (zl ok.dig);have H0:=za h0;have KR:=za kR;have OK:=za ok;clear h0 h kR ok hv;unfold Slt.val at KR ⊢;clear hR
  go_enter Tryz.func102,Tryz.ntmps102
  go_wp2_with (with_reducible refine zo rfl 26 (.tmp 1) rfl (g:=b) (off:=0) rfl H0.out (cs:=s.cells) (t:=26) (fr:=(0,0)) (by simp) s.cells (fun j hj=>by rw[Nat.zero_add]) _ Tryz.underlying26 rfl HMI.out ?_)
  refine(KR.out _ _ H0.out).mono ?_;rintro e w2 ⟨rfl,h2⟩;have H2:=za h2;clear h2 H0 KR hb;obtain⟨hfit,hsm⟩:=y0 (s:=zS) (t:=zS) zn zn;have hix:=zl (s:=zS) zn;have hone:=Slt.one zS;have hzl:zS.cells=zbk:=yh 0 ▸ rfl;rw[hzl]at hfit hsm hix hone;have HFIT:=za hfit;have HSM:=za hsm;have HIX:=za hix;have HONE:=za hone;have HZL:=za hzl;clear hfit hsm hix hone hzl
  go_wp2_with (with_reducible refine zc rfl 26 (.tmp 2) (.tmp 12) rfl (g:=b+1) (off:=0) zbk rfl rfl H2.out HFIT.out HIX.out HONE.out ?_;intro w9 h9;refine Hid.out ?_)
  refine za ?_;rw[HSM.out,←HZL.out]at h9;go_wp2_with fail;refine bodyPost_ret (y1 (F:=F) h9 zn rfl rfl rfl) rfl ?_;exact⟨by rw[HV.out],St.weaken (A:=[_,_]) h9⟩
 | true=>
  have kF:=fun(v:World) (F:List (Nat × Obj)) (hv:St W v I F)=>slot_full s ok hv
  cases hF:fullS s with
  | false=>
   have hv:badS s=(zS,101):=by rw[badS,hR,hF];rfl
   rw[hF]at kF;rw[hR]at kR;have HV:=za hv;have HMI:=za (zl ok.dig);have H0:=za h0;have KR:=za kR;have OK:=za ok;have KF:=za kF;clear kF;unfold Slt.val at KF;clear h0 h kR ok hv;unfold Slt.val at KR ⊢;clear hR hF
   go_enter Tryz.func102,Tryz.ntmps102
   go_wp2_with (with_reducible refine zo rfl 26 (.tmp 1) rfl (g:=b) (off:=0) rfl H0.out (cs:=s.cells) (t:=26) (fr:=(0,0)) (by simp) s.cells (fun j hj=>by rw[Nat.zero_add]) _ Tryz.underlying26 rfl HMI.out ?_)
   refine(KR.out _ _ H0.out).mono ?_;rintro e w2 ⟨rfl,h2⟩;have H2:=za h2;clear h2 H0 KR hb;have c0:=H2.out.cell (g:=b) (cs:=s.cells) (t:=26) (fr:=(0,0)) (by simp) 0;have c1:=H2.out.cell (g:=b) (cs:=s.cells) (t:=26) (fr:=(0,0)) (by simp) 1;have c2:=H2.out.cell (g:=b) (cs:=s.cells) (t:=26) (fr:=(0,0)) (by simp) 2;have c3:=H2.out.cell (g:=b) (cs:=s.cells) (t:=26) (fr:=(0,0)) (by simp) 3;rw[Slt.at0]at c0;rw[Slt.at1]at c1;rw[Slt.at2]at c2;rw[Slt.at3]at c3;have f0:=H2.out.frozen (g:=b) (cs:=s.cells) (t:=26) (by simp) 0;have f1:=H2.out.frozen (g:=b) (cs:=s.cells) (t:=26) (by simp) 1
   go_wp2_with (refine zj (by rfl) 26 (.tmp 1) rfl (g:=b) (off:=0) rfl H2.out (cs:=s.cells) (t:=26) (fr:=(0,0)) (by simp) s.cells (fun j hj=>by rw[Nat.zero_add]) _ Tryz.underlying26 rfl HMI.out ?_)
   refine(KF.out _ _ H2.out).mono ?_;rintro e w3 ⟨rfl,h3⟩;clear H2 c0 c1 c2 c3 f0 f1;have H2:=za h3;clear h3 KF;have c0:=H2.out.cell (g:=b) (cs:=s.cells) (t:=26) (fr:=(0,0)) (by simp) 0;have c1:=H2.out.cell (g:=b) (cs:=s.cells) (t:=26) (fr:=(0,0)) (by simp) 1;have c2:=H2.out.cell (g:=b) (cs:=s.cells) (t:=26) (fr:=(0,0)) (by simp) 2;have c3:=H2.out.cell (g:=b) (cs:=s.cells) (t:=26) (fr:=(0,0)) (by simp) 3;rw[Slt.at0]at c0;rw[Slt.at1]at c1;rw[Slt.at2]at c2;rw[Slt.at3]at c3;have f0:=H2.out.frozen (g:=b) (cs:=s.cells) (t:=26) (by simp) 0;have f1:=H2.out.frozen (g:=b) (cs:=s.cells) (t:=26) (by simp) 1;obtain⟨hfit,hsm⟩:=y0 (s:=zS) (t:=zS) zn zn;have hix:=zl (s:=zS) zn;have hone:=Slt.one zS;have hzl:zS.cells=zbk:=yh 0 ▸ rfl;rw[hzl]at hfit hsm hix hone;have HFIT:=za hfit;have HSM:=za hsm;have HIX:=za hix;have HONE:=za hone;have HZL:=za hzl;clear hfit hsm hix hone hzl
   go_wp2_with (with_reducible refine zc rfl 26 (.tmp 2) (.tmp 12) rfl (g:=b+1) (off:=0) zbk rfl rfl H2.out HFIT.out HIX.out HONE.out ?_;intro w9 h9;refine Hid.out ?_)
   refine za ?_;rw[HSM.out,←HZL.out]at h9;go_wp2_with fail;refine bodyPost_ret (y1 (F:=F) h9 zn rfl rfl rfl) rfl ?_;exact⟨by rw[HV.out],St.weaken (A:=[_,_]) h9⟩
  | true=>
   have hv:badS s=(bareS 4,0):=by rw[badS,hR,hF];rfl
   rw[hF]at kF;rw[hR]at kR;have HV:=za hv;have HMI:=za (zl ok.dig);have H0:=za h0;have KR:=za kR;have OK:=za ok;have KF:=za kF;clear kF;unfold Slt.val at KF;clear h0 h kR ok hv;unfold Slt.val at KR ⊢;clear hR hF
   go_enter Tryz.func102,Tryz.ntmps102
   go_wp2_with (with_reducible refine zo rfl 26 (.tmp 1) rfl (g:=b) (off:=0) rfl H0.out (cs:=s.cells) (t:=26) (fr:=(0,0)) (by simp) s.cells (fun j hj=>by rw[Nat.zero_add]) _ Tryz.underlying26 rfl HMI.out ?_)
   refine(KR.out _ _ H0.out).mono ?_;rintro e w2 ⟨rfl,h2⟩;have H2:=za h2;clear h2 H0 KR hb;have c0:=H2.out.cell (g:=b) (cs:=s.cells) (t:=26) (fr:=(0,0)) (by simp) 0;have c1:=H2.out.cell (g:=b) (cs:=s.cells) (t:=26) (fr:=(0,0)) (by simp) 1;have c2:=H2.out.cell (g:=b) (cs:=s.cells) (t:=26) (fr:=(0,0)) (by simp) 2;have c3:=H2.out.cell (g:=b) (cs:=s.cells) (t:=26) (fr:=(0,0)) (by simp) 3;rw[Slt.at0]at c0;rw[Slt.at1]at c1;rw[Slt.at2]at c2;rw[Slt.at3]at c3;have f0:=H2.out.frozen (g:=b) (cs:=s.cells) (t:=26) (by simp) 0;have f1:=H2.out.frozen (g:=b) (cs:=s.cells) (t:=26) (by simp) 1
   go_wp2_with (refine zj (by rfl) 26 (.tmp 1) rfl (g:=b) (off:=0) rfl H2.out (cs:=s.cells) (t:=26) (fr:=(0,0)) (by simp) s.cells (fun j hj=>by rw[Nat.zero_add]) _ Tryz.underlying26 rfl HMI.out ?_)
   refine(KF.out _ _ H2.out).mono ?_;rintro e w3 ⟨rfl,h3⟩;clear H2 c0 c1 c2 c3 f0 f1;have H2:=za h3;clear h3 KF;have c0:=H2.out.cell (g:=b) (cs:=s.cells) (t:=26) (fr:=(0,0)) (by simp) 0;have c1:=H2.out.cell (g:=b) (cs:=s.cells) (t:=26) (fr:=(0,0)) (by simp) 1;have c2:=H2.out.cell (g:=b) (cs:=s.cells) (t:=26) (fr:=(0,0)) (by simp) 2;have c3:=H2.out.cell (g:=b) (cs:=s.cells) (t:=26) (fr:=(0,0)) (by simp) 3;rw[Slt.at0]at c0;rw[Slt.at1]at c1;rw[Slt.at2]at c2;rw[Slt.at3]at c3;have f0:=H2.out.frozen (g:=b) (cs:=s.cells) (t:=26) (by simp) 0;have f1:=H2.out.frozen (g:=b) (cs:=s.cells) (t:=26) (by simp) 1;obtain⟨hfit,hsm⟩:=y0 (s:=zS) (t:=(bareS 4)) zn zn;have hone:=Slt.one (bareS 4);have hix:=zl (s:=(bareS 4)) zn;rw[show zS.cells=zbk from yh 0 ▸ rfl]at hfit hsm;have HFIT:=za hfit;have HSM:=za hsm;have HIX:=za hix;have HONE:=za hone;clear hfit hsm hone hix;rw[←yh]at *
   go_wp2_with (with_reducible refine zc rfl 26 (.tmp 2) (.tmp 13) rfl (g:=b+1) (off:=0) #[.int .i64 4,.int .i64 0,.int .u64 0,.int .i64 0,.int .u8 0,.int .u8 0,.int .u8 0,.int .u8 0,.int .u8 0,.int .u8 0,.int .u8 0,.int .u8 0,.int .u8 0,.int .u8 0,.int .u8 0,.int .u8 0,.int .u8 0,.int .u8 0,.int .u8 0,.int .u8 0,.int .u8 0,.int .u8 0,.int .u8 0,.int .u8 0,.int .u8 0,.int .u8 0,.int .u8 0,.int .u8 0,.int .u8 0,.int .u8 0,.int .u8 0,.int .u8 0,.int .u8 0,.int .u8 0,.int .u8 0,.int .u8 0] rfl rfl H2.out HFIT.out HIX.out HONE.out ?_;intro w9 h9;refine Hid.out ?_)
   refine za ?_;rw[HSM.out]at h9;go_wp2_with fail;refine bodyPost_ret (y1 (t:=(bareS 4)) (F:=F) h9 zn rfl rfl rfl) rfl ?_;exact⟨by rw[HV.out],St.weaken (A:=[_,_]) h9⟩
theorem slot_boot (s:Slt) (ok:s.Ok) (h:St W w I F) :
  Calls Tryz.prog 130 #[s.val] w fun e w'=>e=.returned (.bool (bootS s))∧St W w' I F:=by
 have h0:=h.alloc (.cells s.cells 26);obtain⟨b,hb⟩:∃b,w.heap.size=b:=⟨_,rfl⟩;rw[hb]at h0
 have kR:=fun(v:World) (F:List (Nat × Obj)) (hv:St W v I F)=>jq s ok hv
 have hr:=bootS.eq_1 s;generalize rightS s=R at *;have HMI:=za (zl ok.dig);have H0:=za h0;have KR:=za kR;have HR:=za hr;clear h0 h kR ok hr;unfold Slt.val at KR ⊢
 cases R with
 | false=>
  have hB:bootS s=false:=by rw[HR.out];rfl
  have HB:=za hB;clear hB HR
  go_enter Tryz.func130,Tryz.ntmps130
  go_wp2_with (with_reducible refine zo rfl 26 (.tmp 1) rfl (g:=b) (off:=0) rfl H0.out (cs:=s.cells) (t:=26) (fr:=(0,0)) (by simp) s.cells (fun j hj=>by rw[Nat.zero_add]) _ Tryz.underlying26 rfl HMI.out ?_)
  refine(KR.out _ _ H0.out).mono ?_;rintro e w2 ⟨rfl,h2⟩;have H2:=za h2;clear h2 H0 KR hb;go_wp2_with fail;go_ret;exact⟨by rw[HB.out];(rfl),St.weaken (A:=[_]) H2.out⟩
 | true=>
  by_cases k3:s.st=3
  ·have S3:=za k3
   clear k3
   have hB:bootS s=true:=by rw[HR.out];simp[S3.out]
   have HB:=za hB;clear hB HR
   go_enter Tryz.func130,Tryz.ntmps130
   go_wp2_with (with_reducible refine zo rfl 26 (.tmp 1) rfl (g:=b) (off:=0) rfl H0.out (cs:=s.cells) (t:=26) (fr:=(0,0)) (by simp) s.cells (fun j hj=>by rw[Nat.zero_add]) _ Tryz.underlying26 rfl HMI.out ?_)
   refine(KR.out _ _ H0.out).mono ?_;rintro e w2 ⟨rfl,h2⟩;have c0:=h2.slt.1;have c1:=h2.slt.2.1;rw[S3.out]at c0;have H2:=za h2;clear h2 H0 KR hb;go_wp2_with fail;go_ret;exact⟨by rw[HB.out];(rfl),St.weaken (A:=[_]) H2.out⟩
  ·have j3:(s.st==3)=false:=beq_eq_false_iff_ne.2 k3
   by_cases k2:s.st=2
   ·have S2:=za k2
    clear k2 k3 j3
    by_cases t0:0 < s.tr
    ·have hB:bootS s=true:=by rw[HR.out];simp[S2.out,t0]
     have HB:=za hB;clear hB HR
     go_enter Tryz.func130,Tryz.ntmps130
     go_wp2_with (with_reducible refine zo rfl 26 (.tmp 1) rfl (g:=b) (off:=0) rfl H0.out (cs:=s.cells) (t:=26) (fr:=(0,0)) (by simp) s.cells (fun j hj=>by rw[Nat.zero_add]) _ Tryz.underlying26 rfl HMI.out ?_)
     refine(KR.out _ _ H0.out).mono ?_;rintro e w2 ⟨rfl,h2⟩;have c0:=h2.slt.1;have c1:=h2.slt.2.1;rw[S2.out]at c0;have H2:=za h2;clear h2 H0 KR hb;go_wp2_with fail;go_ret;exact⟨by rw[HB.out];(rfl),St.weaken (A:=[_]) H2.out⟩
    ·have hB:bootS s=false:=by rw[HR.out];simp[S2.out,t0]
     have HB:=za hB;clear hB HR
     go_enter Tryz.func130,Tryz.ntmps130
     go_wp2_with (with_reducible refine zo rfl 26 (.tmp 1) rfl (g:=b) (off:=0) rfl H0.out (cs:=s.cells) (t:=26) (fr:=(0,0)) (by simp) s.cells (fun j hj=>by rw[Nat.zero_add]) _ Tryz.underlying26 rfl HMI.out ?_)
     refine(KR.out _ _ H0.out).mono ?_;rintro e w2 ⟨rfl,h2⟩;have c0:=h2.slt.1;have c1:=h2.slt.2.1;rw[S2.out]at c0;have H2:=za h2;clear h2 H0 KR hb;go_wp2_with fail;go_ret;exact⟨by rw[HB.out];(simp;omega),St.weaken (A:=[_]) H2.out⟩
   ·have j2:(s.st==2)=false:=beq_eq_false_iff_ne.2 k2
    have hB:bootS s=false:=by rw[HR.out];simp[j3,j2]
    have HB:=za hB;clear hB HR k2 k3
    go_enter Tryz.func130,Tryz.ntmps130
    go_wp2_with (with_reducible refine zo rfl 26 (.tmp 1) rfl (g:=b) (off:=0) rfl H0.out (cs:=s.cells) (t:=26) (fr:=(0,0)) (by simp) s.cells (fun j hj=>by rw[Nat.zero_add]) _ Tryz.underlying26 rfl HMI.out ?_)
    refine(KR.out _ _ H0.out).mono ?_;rintro e w2 ⟨rfl,h2⟩;have c0:=h2.slt.1;have c1:=h2.slt.2.1;have H2:=za h2;clear h2 H0 KR hb;go_wp2_with fail;go_ret;exact⟨by rw[HB.out];(rfl),St.weaken (A:=[_]) H2.out⟩
end
end Go.Proofs.YtnjnooeldkideaaGreatDoor
