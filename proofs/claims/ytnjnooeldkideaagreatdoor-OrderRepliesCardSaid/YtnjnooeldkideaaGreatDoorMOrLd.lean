/- order: what a job wrote is to be tried. the document's Right of a table. -/
import Derived.Test.YtnjnooeldkideaaGreatDoorOrCe
import Derived.OwnWalk
import Derived.Deep.RegionHeld3
import Derived.Test.YtnjnooeldkideaaGreatDoorMOrT
namespace Go.Proofs.YtnjnooeldkideaaGreatDoor
set_option maxRecDepth 100000
set_option maxHeartbeats 8000000
section
set_option linter.unusedVariables false
set_option linter.unusedSimpArgs false
open Go.RowKit Go.Lib Go.Deep
section
variable {W w:World} {J:Nat→Option Obj} {t:Tb} {F:List (Nat × Obj)}
variable {m:Md} {gm:Nat} {nv:Value}
def landsM (m:Md) (s:Slt):Option Md:=if (s.tr != m.tries)=true∨decide (s.ver < m.job.floor)=true then none else if (landT m.known m.job.slot s).2=0 then (if (zv m.known (landT m.known m.job.slot s).1).2=0 then some { m with known:=(zv m.known (landT m.known m.job.slot s).1).1 } else none) else none
theorem yg {s:Slt} (ok:s.Ok):(Tryz.prog.info? 26).map (·.size)=some s.cells.size:=by rw[ok.len];kernel_rfl
theorem o_lands (ok:m.Ok) (s:Slt) (sok:s.Ok) (h:St W w J ((gm,.cells (m.cells nv) 88 (0,0))::F)) :
  Calls Tryz.prog 66 #[.pointer (some ⟨gm,0,none⟩),s.val] w fun e' w'=>e'=.returned (.bool (landsM m s).isSome)∧St W w' J ((gm,.cells (((landsM m s).getD m).cells nv) 88 (0,0))::F):=by
 have h1:=h.alloc (.cells s.cells 26);obtain⟨g,hg⟩:∃g,w.heap.size=g:=⟨_,rfl⟩;rw[hg]at h1;have md:=h1.md (nv:=nv) (T:=88) (fr:=(0,0)) ok (g:=gm) (by simp);have m76:=md.tries;have m82:=md.floor;have s1c:=h1.cell (g:=g) (cs:=s.cells) (t:=26) (fr:=(0,0)) (by simp) 1;have s2c:=h1.cell (g:=g) (cs:=s.cells) (t:=26) (fr:=(0,0)) (by simp) 2;rw[Slt.at1]at s1c;rw[Slt.at2]at s2c;have si:=yg sok;have ti:=z7 ok.known
 have kl:=fun(v:World) (X:List (Nat × Obj)) (hv:St W v J X)=>b_land ok.known m.job.slot s sok hv
 have ff:=zaf (t:=m.known) m.job.slot s sok ok.job.l0 ok.job.l1
 have ka:=fun(A':Option Addr) (c':Nat) (L':List (Nat × Obj)) (hr:Row 147 40 (.slice A' (landT m.known m.job.slot s).1.length c') (landT m.known m.job.slot s).1.length (cgs (landT m.known m.job.slot s).1) L') (v:World) (X:List (Nat × Obj)) (hv:St W v J (L'++X))=>b_apply ok.known ff.1 hr ff.2 hv
 have tok:=qa ok.known ff.1
 have hD:landsM m s=if (s.tr != m.tries)=true∨decide (s.ver < m.job.floor)=true then none else if (landT m.known m.job.slot s).2=0 then (if (zv m.known (landT m.known m.job.slot s).1).2=0 then some { m with known:=(zv m.known (landT m.known m.job.slot s).1).1 } else none) else none:=rfl
 generalize landsM m s=RES at *
 have fs:=fun(v:World) (X:List (Nat × Obj)) (hv:St W v J X) (hx:(gm,Obj.cells (m.cells nv) 88 (0,0))∈X) (hy:(g,Obj.cells s.cells 26 (0,0))∈X)=>(⟨(hv.md ok hx).tb.all,(hv.md ok hx).slot,fun j u hj=>(by rw[Nat.zero_add,hv.cell hy j];simpa using hj)⟩:v.rangeAt gm 0 m.known.cells.toList∧v.cell? ⟨gm,81,none⟩=some (.int .i64 m.job.slot)∧v.rangeAt g 0 s.cells.toList)
 have p1:=Md.put_known ok.known nv (zv m.known (landT m.known m.job.slot s).1).1 tok;have msz:=Md.size ok.known nv;generalize hT2:zv m.known (landT m.known m.job.slot s).1=T2 at *;generalize landT m.known m.job.slot s=T1 at *;unfold CPost at kl;unfold APost at ka;unfold Slt.val at *;unfold Tb.val at *;obtain⟨x1,hx1⟩:∃b,(s.tr != m.tries)=b:=⟨_,rfl⟩;obtain⟨x2,hx2⟩:∃b,decide (s.ver < m.job.floor)=b:=⟨_,rfl⟩;have hx1':=hx1;have hx2':=hx2;rw[hx1,hx2]at hD;obtain⟨SX,hSX⟩:∃y,s.cells=y:=⟨_,rfl⟩;obtain⟨MC,hMC⟩:∃y,m.cells nv=y:=⟨_,rfl⟩;obtain⟨CT,hCT⟩:∃y,m.known.cells=y:=⟨_,rfl⟩;obtain⟨str,hstr⟩:∃y,s.tr=y:=⟨_,rfl⟩;obtain⟨sver,hsver⟩:∃y,s.ver=y:=⟨_,rfl⟩;obtain⟨mtr,hmtr⟩:∃y,m.tries=y:=⟨_,rfl⟩;obtain⟨mfl,hmfl⟩:∃y,m.job.floor=y:=⟨_,rfl⟩;obtain⟨msl,hmsl⟩:∃y,m.job.slot=y:=⟨_,rfl⟩
 have fin0:RES=none→∀(v:World) (X:List (Nat × Obj)),St W v J (X++((gm,.cells MC 88 (0,0))::F))→(Ending.returned (.bool false)=.returned (.bool RES.isSome)∧St W v J ((gm,.cells ((RES.getD m).cells nv) 88 (0,0))::F)):=fun hn v X hv=>by
  subst hn;exact⟨rfl,by rw[show(none.getD m:Md).cells nv=MC from hMC];exact hv.weaken⟩
 have fin1:RES=some { m with known:=T2.1 }→∀(v:World) (X:List (Nat × Obj)),St W v J (X++((gm,.cells (zg MC 0 T2.1.cells.toList) 88 (0,0))::F))→(Ending.returned (.bool true)=.returned (.bool RES.isSome)∧St W v J ((gm,.cells ((RES.getD m).cells nv) 88 (0,0))::F)):=fun hn v X hv=>by
  subst hn;refine⟨rfl,?_⟩;rw[Option.getD_some];rw[←hMC,p1]at hv;exact hv.weaken
 rw[hSX]at h1 si kl fs s1c s2c m76 m82 ⊢;rw[hMC]at h1 fs msz;rw[hCT]at ti kl ka fs;rw[hmsl]at fs kl;rw[hstr]at s1c hx1;rw[hsver]at s2c hx2;rw[hmtr]at m76 hx1;rw[hmfl]at m82 hx2;have tsz:=Tb.size tok;have tai:=z7 tok;have tao:=T2.1.one;have FIN0:=za fin0;have FIN1:=za fin1;have H1:=za h1;have KL:=za kl;have KA:=za ka;have FSx:=za fs;have HD:=za hD;have TI:Hid ((Tryz.prog.info? 29).map (·.size)=some CT.toList.length):=za (by rw[Array.length_toList];exact ti);have TI2:=za ti;have SI:Hid ((Tryz.prog.info? 26).map (·.size)=some SX.toList.length):=za (by rw[Array.length_toList];exact si);have TAI:=za tai;have TAO:=za tao;have TFIT:Hid (0+T2.1.cells.size≤Tryz.zeroCells29.size):=za (by rw[tsz,qu];omega);have TMANY:Hid (zg Tryz.zeroCells29 0 T2.1.cells.toList=T2.1.cells):=za (by rw[zd _ _ (by rw[Array.length_toList,tsz,qu]),Array.toArray_toList]);have MFIT:Hid (0+T2.1.cells.size≤MC.size):=za (by rw[tsz,msz];omega);clear fin0 fin1 h1 h kl ka fs hD ti si tai tao tsz msz p1 md hSX hMC hCT hstr hsver hmtr hmfl hmsl tok ff hT2 ok sok hx1' hx2';obtain⟨TX,hTX⟩:∃y,T2.1.cells=y:=⟨_,rfl⟩;rw[hTX]at FIN1 TAI TAO TFIT TMANY MFIT KA;clear hTX
 cases x1 with
 | true=>
  clear hx2 KL KA
  go_enter Tryz.func66,Tryz.ntmps66
  go_wp2_with fail
  go_quiet (fail)
  generalize hw13:World.drewN _ _=w13
  have h14:St W w13 J ((g,.cells SX 26 (0,0))::(gm,.cells MC 88 (0,0))::F):=by rw[←hw13];exact H1.out.drew _
  clear hw13 H1 m76 m82 s1c s2c;go_wp2_with fail;go_ret;exact FIN0.out (by rw[HD.out];simp) _ [_] h14
 | false=>
  cases x2 with
  | true=>
   clear KL KA
   go_enter Tryz.func66,Tryz.ntmps66
   go_wp2_with fail
   go_quiet (fail)
   generalize hw13:World.drewN _ _=w13
   have h14:St W w13 J ((g,.cells SX 26 (0,0))::(gm,.cells MC 88 (0,0))::F):=by rw[←hw13];exact H1.out.drew _
   clear hw13 H1 m76 m82 s1c s2c;go_wp2_with fail;go_ret;exact FIN0.out (by rw[HD.out];simp) _ [_] h14
  | false=>
   go_enter Tryz.func66,Tryz.ntmps66
   go_wp2_with fail
   go_quiet (fail)
   generalize hw13:World.drewN _ _=w13
   have h14:St W w13 J ((g,.cells SX 26 (0,0))::(gm,.cells MC 88 (0,0))::F):=by rw[←hw13];exact H1.out.drew _
   clear hw13 H1 m76 m82 s1c s2c hx1 hx2;have HDW:=za h14.drew1;have s1:=FSx.out _ _ HDW.out (by simp) (by simp);have HUT:=za Tryz.underlying29;have HUS:=za Tryz.underlying26;clear h14;go_wp2_with fail;refine wp_region_held_drew (S:=fun v=>v.rangeAt gm 0 CT.toList∧v.cell? ⟨gm,81,none⟩=some (.int .i64 msl)∧v.rangeAt g 0 SX.toList) (by kernel_rfl) s1 (fun hHeld=>?_)
   refine tk op0 (v:=?_) (by kernel_rfl) ?_ (by assumption) ?_ fun _ _ _ h=>h
   rotate_left
   ·(refine ya rfl fun w hSw=>?_;(try dsimp only at hSw);go_simp;try with_reducible rfl)
   try simp only[Act.put,pu1,pu2,pu3]
   refine tk op1 (v:=?_) (by kernel_rfl) ?_ (by assumption) ?_ fun _ _ _ h=>h
   rotate_left
   ·(refine ya rfl fun w hSw=>?_;(try dsimp only at hSw);go_simp;try with_reducible rfl)
   try simp only[Act.put,pu1,pu2,pu3]
   refine tk op2 (v:=?_) (by kernel_rfl) ?_ (by assumption) ?_ fun _ _ _ h=>h
   rotate_left
   ·(refine ya rfl fun w hSw=>?_;(try dsimp only at hSw);go_simp;try with_reducible rfl)
   try simp only[Act.put,pu1,pu2,pu3]
   refine tk op3 (v:=?_) (by kernel_rfl) ?_ (by assumption) ?_ fun _ _ _ h=>h
   rotate_left
   ·(((refine yieldsIf_load_mid ?_ 29 (.tmp 28) ?_ gm 0 ?_ CT.toList _ ?_ HUT.out ?_ TI.out)<;>first|rfl|exact fun w h=>h.1))
   try simp only[Act.put,pu1,pu2,pu3]
   refine tk op4 (v:=?_) (by kernel_rfl) ?_ (by assumption) ?_ fun _ _ _ h=>h
   rotate_left
   ·(refine ya rfl fun w hSw=>?_;(try dsimp only at hSw);go_simp;try with_reducible rfl)
   try simp only[Act.put,pu1,pu2,pu3]
   refine tk op5 (v:=?_) (by kernel_rfl) ?_ (by assumption) ?_ fun _ _ _ h=>h
   rotate_left
   ·(refine ya rfl fun w hSw=>?_;(try dsimp only at hSw);go_simp;try with_reducible rfl)
   try simp only[Act.put,pu1,pu2,pu3]
   refine tk op6 (v:=?_) (by kernel_rfl) ?_ (by assumption) ?_ fun _ _ _ h=>h
   rotate_left
   ·(refine ya rfl fun w hSw=>?_;(try dsimp only at hSw);go_simp;try with_reducible rfl)
   try simp only[Act.put,pu1,pu2,pu3]
   refine tk op7 (v:=?_) (by kernel_rfl) ?_ (by assumption) ?_ fun _ _ _ h=>h
   rotate_left
   ·(refine ya rfl fun w hSw=>?_;(try dsimp only at hSw);go_simp;try with_reducible rfl)
   try simp only[Act.put,pu1,pu2,pu3]
   refine tk op8 (v:=?_) (by kernel_rfl) ?_ (by assumption) ?_ fun _ _ _ h=>h
   rotate_left
   ·((refine Or.inl ⟨by rfl,?_⟩;intro w hSw;obtain⟨hS1,hS2,hS3⟩:=hSw;go_simp;try with_reducible rfl))
   try simp only[Act.put,pu1,pu2,pu3]
   refine tk op9 (v:=?_) (by kernel_rfl) ?_ (by assumption) ?_ fun _ _ _ h=>h
   rotate_left
   ·(((refine yieldsIf_load_mid ?_ 26 (.tmp 3) ?_ g 0 ?_ SX.toList _ ?_ HUS.out ?_ SI.out)<;>first|rfl|exact fun w h=>h.2.2))
   try simp only[Act.put,pu1,pu2,pu3]
   refine rd1 (oq op0) (by kernel_rfl) fun K hK=>?_
   go_simp
   ((go_at_call 94;(with_reducible refine(KL.out _ _ HDW.out).mono ?_);rintro e wx ⟨A1,c1,L1,rfl,hr1,hx⟩;dsimp only))
   refine hK.out _ _ ?_ fun hHeld=>?_
   ·(try dsimp only)<;>((exact FSx.out _ _ hx (by simp) (by simp)))
   clear hK K
   try simp only[Act.put,pu1,pu2,pu3]
   refine tk (oq op1) (v:=?_) (by kernel_rfl) ?_ (by assumption) ?_ fun _ _ _ h=>h
   rotate_left
   ·(refine ya rfl fun w hSw=>?_;(try dsimp only at hSw);go_simp;try with_reducible rfl)
   try simp only[Act.put,pu1,pu2,pu3]
   refine tk (oq op2) (v:=?_) (by kernel_rfl) ?_ (by assumption) ?_ fun _ _ _ h=>h
   rotate_left
   ·(refine ya rfl fun w hSw=>?_;(try dsimp only at hSw);go_simp;try with_reducible rfl)
   try simp only[Act.put,pu1,pu2,pu3]
   refine tk (oq op3) (v:=?_) (by kernel_rfl) ?_ (by assumption) ?_ fun _ _ _ h=>h
   rotate_left
   ·(refine ya rfl fun w hSw=>?_;(try dsimp only at hSw);go_simp;try with_reducible rfl)
   try simp only[Act.put,pu1,pu2,pu3]
   refine tk (oq op4) (v:=?_) (by kernel_rfl) ?_ (by assumption) ?_ fun _ _ _ h=>h
   rotate_left
   ·(refine ya rfl fun w hSw=>?_;(try dsimp only at hSw);go_simp;try with_reducible rfl)
   try simp only[Act.put,pu1,pu2,pu3]
   refine tk (oq op5) (v:=?_) (by kernel_rfl) ?_ (by assumption) ?_ fun _ _ _ h=>h
   rotate_left
   ·(refine ya rfl fun w hSw=>?_;(try dsimp only at hSw);go_simp;try with_reducible rfl)
   try simp only[Act.put,pu1,pu2,pu3]
   refine wpAnyH_done (by kernel_rfl) ?_ _;have HX:=za hx;have RK:=za (FSx.out _ _ hx (by simp) (by simp)).1;have KA2:=za (KA.out A1 c1 L1 hr1 _ _ hx);clear hx s1 HDW KA KL hr1;obtain⟨x3,hx3⟩:∃y,T1.2=y:=⟨_,rfl⟩;rw[hx3]at HD ⊢
   by_cases h0:x3=0
   ·subst h0
    go_wp2_with (with_reducible refine zb 45 rfl (by kernel_rfl) 29 (.tmp 44) rfl gm 0 rfl CT _ RK.out Tryz.underlying29 rfl TI2.out ?_)
    refine KA2.out.mono ?_;rintro e w5 ⟨rfl,h5⟩;have H5:=za (h5.alloc (.cells Tryz.zeroCells29 29));clear h5 KA2 RK HX;obtain⟨x4,hx4⟩:∃y,T2.2=y:=⟨_,rfl⟩;rw[hx4]at HD ⊢
    go_wp2_with (with_reducible refine zc rfl 29 (.tmp 7) (.tmp 48) rfl (g:=w5.heap.size) (off:=0) TX rfl rfl H5.out TFIT.out TAI.out TAO.out ?_;intro w6 h6;refine Hid.out ?_)
    refine za ?_;rw[TMANY.out]at h6;obtain⟨b7,hb7⟩:∃y,w5.heap.size=y:=⟨_,rfl⟩;rw[hb7]at h6 ⊢;have R7:Hid (w6.rangeAt b7 0 TX.toList):=za (fun j u hj=>by rw[Nat.zero_add,h6.cell (g:=b7) (cs:=TX) (t:=29) (fr:=(0,0)) (List.mem_cons_self ..) j];simpa using hj);have H6:=za (h6.perm (L':=(gm,.cells MC 88 (0,0))::((b7,.cells TX 29 (0,0))::(g,.cells SX 26 (0,0))::(L1++F))) ze);clear h6 H5 hb7
    by_cases h4:x4=0
    ·subst h4
     go_wp2_with (first|(with_reducible refine zb 53 rfl (by kernel_rfl) 29 (.tmp 7) rfl b7 0 rfl TX _ R7.out Tryz.underlying29 rfl TAI.out ?_)|(with_reducible refine zc rfl 29 (.tmp 55) (.tmp 53) rfl (g:=gm) (off:=0) TX rfl rfl H6.out MFIT.out TAI.out TAO.out ?_;intro w8 h8;refine Hid.out ?_))
     refine za ?_;have H8:=za h8;clear h8 H6 R7;go_wp2_with fail;go_ret;exact FIN1.out (by rw[HD.out];simp) _ ((b7,.cells TX 29 (0,0))::(g,.cells SX 26 (0,0))::L1) (H8.out.perm ze)
    ·have hne:(x4 != 0)=true:=by simpa using h4
     go_wp2_with fail;go_ret;exact FIN0.out (by rw[HD.out];simp[h4]) _ ((b7,.cells TX 29 (0,0))::(g,.cells SX 26 (0,0))::L1) (H6.out.perm ze)
   ·have hne:(x3 != 0)=true:=by simpa using h0
    go_wp2_with fail;go_ret;exact FIN0.out (by rw[HD.out];simp[h0]) _ (L1++[(g,.cells SX 26 (0,0))]) (HX.out.perm ze)
end
end

section
set_option linter.unusedVariables false
set_option linter.unusedSimpArgs false
open Go.RowKit Go.Lib Go.Deep
section
variable {W w:World} {J:Nat→Option Obj} {t:Tb} {F:List (Nat × Obj)}
theorem ix_int (a:Int):ixB a=(decide (0≤a)&&decide (a≤1)):=by
 unfold ixB
 by_cases h:0≤a∧a≤1
 ·have:a=0∨a=1:=by omega
  rcases this with rfl|rfl<;>decide
 ·have h0:(a==0)=false:=by simp;omega
  have h1:(a==1)=false:=by simp;omega
  have h2:(decide (0≤a)&&decide (a≤1))=false:=by simp;omega
  rw[h0,h1,h2];rfl
theorem boo_int (a:Int):(a==-1||ixB a)=(decide (-1≤a)&&decide (a≤1)):=by
 rw[ix_int]
 by_cases h:a=-1
 ·subst h;decide
 ·have h0:(a==-1)=false:=by simpa using h
  have h1:decide (-1≤a)=decide (0≤a):=by rw[decide_eq_decide];omega
  rw[h0,h1];rfl
theorem jm (t:Tb) (ok:t.Ok) (h:St W w J F):Calls Tryz.prog 32 #[t.val] w fun e w'=>e=.returned (.bool (zx t))∧St W w' J F:=by
 have h1:=h.alloc (.cells t.cells 29);obtain⟨g,hg⟩:∃g,w.heap.size=g:=⟨_,rfl⟩;rw[hg]at h1
 have fx:=fun(v:World) (X:List (Nat × Obj)) (hv:St W v J X) (hx:(g,Obj.cells t.cells 29 (0,0))∈X)=>hv.tb ok hx
 have k0:=fun(v:World) (X:List (Nat × Obj)) (hv:St W v J X)=>j9 t.s0 ok.s0 hv
 have k1:=fun(v:World) (X:List (Nat × Obj)) (hv:St W v J X)=>j9 t.s1 ok.s1 hv
 have i0:=yg ok.s0;have i1:=yg ok.s1
 have hR:zx t=(rightS t.s0&&(rightS t.s1&&((decide (0≤t.act)&&decide (t.act≤1))&&((decide (-1≤t.boo)&&decide (t.boo≤1))&&decide (t.flo≤281474976710656))))):=by unfold zx;rw[ix_int t.act,boo_int]
 unfold Tb.val;unfold Slt.val at *;obtain⟨r0,hr0⟩:∃b,rightS t.s0=b:=⟨_,rfl⟩;obtain⟨r1,hr1⟩:∃b,rightS t.s1=b:=⟨_,rfl⟩;rw[hr0]at k0 hR;rw[hr1]at k1 hR;rw[hR]
 have gx:∀(v:World),St W v J ((g,.cells t.cells 29 (0,0))::F)→v.rangeAt g 0 t.s0.cells.toList∧v.rangeAt g 36 t.s1.cells.toList∧v.cell? ⟨g,72,none⟩=some (.int .i64 t.act)∧v.cell? ⟨g,73,none⟩=some (.int .i64 t.boo)∧v.cell? ⟨g,74,none⟩=some (.int .u64 t.flo):=fun v hv=>⟨(fx v _ hv (by simp)).s0,(fx v _ hv (by simp)).s1,(fx v _ hv (by simp)).act,(fx v _ hv (by simp)).boo,(fx v _ hv (by simp)).flo⟩
 obtain⟨S0,hS0⟩:∃y,t.s0.cells=y:=⟨_,rfl⟩;obtain⟨S1,hS1⟩:∃y,t.s1.cells=y:=⟨_,rfl⟩;obtain⟨TC,hTC⟩:∃y,t.cells=y:=⟨_,rfl⟩;rw[hS0]at k0 i0 gx;rw[hS1]at k1 i1 gx;rw[hTC]at h1 gx ⊢;obtain⟨ac,hac⟩:∃y,t.act=y:=⟨_,rfl⟩;obtain⟨bo,hbo⟩:∃y,t.boo=y:=⟨_,rfl⟩;obtain⟨fl,hfl⟩:∃y,t.flo=y:=⟨_,rfl⟩;rw[hac,hbo,hfl]at gx ⊢;have K0:=za k0;have K1:=za k1;have I0:=za i0;have I1:=za i1;have GX:=za gx;have H1:=za h1;have RA0:=za (gx _ h1).1;have KX:=za (k0 _ _ h1);have FR:Hid (∀v,St W v J ((g,.cells TC 29 (0,0))::F)→St W v J F):=za (fun v hv=>hv.weaken (A:=[_]));clear k0 k1 i0 i1 gx h1 h fx hR hr0 hr1 hS0 hS1 hTC hac hbo hfl ok
 go_enter Tryz.func32,Tryz.ntmps32
 go_wp2_with (with_reducible refine zb 5 rfl (by kernel_rfl) 26 (.tmp 4) rfl g 0 rfl S0 _ RA0.out Tryz.underlying26 rfl I0.out ?_)
 refine KX.out.mono ?_;rintro e w2 ⟨rfl,h2⟩;have RA1:=za (GX.out _ h2).2.1;have KY:=za (K1.out _ _ h2)
 cases r0 with
 | false=>
  have HF:=za (FR.out _ h2);clear h2 KX KY;go_wp2_with fail;go_ret;exact⟨rfl,HF.out⟩
 | true=>
  clear h2 KX
  go_wp2_with (with_reducible refine zb 11 rfl (by kernel_rfl) 26 (.tmp 10) rfl g 36 rfl S1 _ RA1.out Tryz.underlying26 rfl I1.out ?_)
  refine KY.out.mono ?_;rintro e w3 ⟨rfl,h3⟩;obtain⟨-,-,c72,c73,c74⟩:=GX.out _ h3;have HF:=za (FR.out _ h3);clear h3 KY
  cases r1 with
  | false=>
   go_wp2_with fail;go_ret;exact⟨rfl,HF.out⟩
  | true=>
   by_cases q5:ac≥0
   ·have d5:=decide_eq_true q5
    by_cases q4:ac≤1
    ·have d4:=decide_eq_true q4
     by_cases q3:bo≥-1
     ·have d3:=decide_eq_true q3
      by_cases q2:bo≤1
      ·have d2:=decide_eq_true q2
       by_cases q1:fl≤281474976710656
       ·have d1:=decide_eq_true q1
        go_wp2_with fail;go_ret;exact⟨congrArg (fun z=>Ending.returned (Value.bool z)) (by simp_all<;>omega),HF.out⟩
       ·have d1:=decide_eq_false q1
        go_wp2_with fail;go_ret;exact⟨congrArg (fun z=>Ending.returned (Value.bool z)) (by simp_all<;>omega),HF.out⟩
      ·have d2:=decide_eq_false q2
       go_wp2_with fail;go_ret;exact⟨congrArg (fun z=>Ending.returned (Value.bool z)) (by simp_all<;>omega),HF.out⟩
     ·have d3:=decide_eq_false q3
      go_wp2_with fail;go_ret;exact⟨congrArg (fun z=>Ending.returned (Value.bool z)) (by simp_all<;>omega),HF.out⟩
    ·have d4:=decide_eq_false q4
     go_wp2_with fail;go_ret;exact⟨congrArg (fun z=>Ending.returned (Value.bool z)) (by simp_all<;>omega),HF.out⟩
   ·have d5:=decide_eq_false q5
    go_wp2_with fail;go_ret;exact⟨congrArg (fun z=>Ending.returned (Value.bool z)) (by simp_all<;>omega),HF.out⟩
end
end
end Go.Proofs.YtnjnooeldkideaaGreatDoor
