/- table: a change is right. -/
import Derived.Test.YtnjnooeldkideaaGreatDoorMEqRow
import Derived.Deep.RegionHeld3
import Derived.Deep.RegionWith
import Derived.OwnWalk
import Derived.Test.YtnjnooeldkideaaGreatDoorMOrT
namespace Go.Proofs.YtnjnooeldkideaaGreatDoor
set_option maxRecDepth 100000
set_option maxHeartbeats 8000000
set_option linter.unusedVariables false
set_option linter.unusedSimpArgs false
open Go.RowKit Go.Lib Go.Deep
section
variable {W w:World} {J:Nat→Option Obj} {t:Tb} {F:List (Nat × Obj)}
def bareK (k:Int):Cg:=⟨k,0,0,zS,0⟩
theorem j6 (k:Int) (w:World):(Instr.build 147 #[(0,.int .i64 k)]).run Tryz.prog w=.ok (.agg (bareK k).cells) w:=run_build w _ _ _ (by kernel_rfl)
theorem put_slot (k i n v:Int) (s r:Slt) (hs:s.Ok) (hr:r.Ok):zg (zg (⟨k,0,n,r,v⟩:Cg).cells 1 [Value.int .i64 i]) 3 s.cells.toList=(⟨k,i,n,s,v⟩:Cg).cells:=by
 have l1:=hs.len;have l2:=hr.len;have e1:zg (⟨k,0,n,r,v⟩:Cg).cells 1 [Value.int .i64 i]=(⟨k,i,n,r,v⟩:Cg).cells:=yb [Value.int .i64 k] [Value.int .i64 0] [Value.int .i64 i] ([Value.int .i64 n]++(r.cells.toList++[Value.int .u64 v])) rfl;rw[e1];exact yb [Value.int .i64 k,.int .i64 i,.int .i64 n] r.cells.toList s.cells.toList [Value.int .u64 v] (by rw[Array.length_toList,Array.length_toList,l1,l2])
theorem put_slot' (k i n v:Int) (s r:Slt) (hs:s.Ok) (hr:r.Ok):zg (zg (⟨k,0,n,r,v⟩:Cg).cells 3 s.cells.toList) 1 [Value.int .i64 i]=(⟨k,i,n,s,v⟩:Cg).cells:=by
 have l1:=hs.len;have l2:=hr.len;have e1:zg (⟨k,0,n,r,v⟩:Cg).cells 3 s.cells.toList=(⟨k,0,n,s,v⟩:Cg).cells:=yb [Value.int .i64 k,.int .i64 0,.int .i64 n] r.cells.toList s.cells.toList [Value.int .u64 v] (by rw[Array.length_toList,Array.length_toList,l1,l2]);rw[e1];exact yb [Value.int .i64 k] [Value.int .i64 0] [Value.int .i64 i] ([Value.int .i64 n]++(s.cells.toList++[Value.int .u64 v])) rfl
theorem put_n (k i n v:Int) (r:Slt):zg (⟨k,i,0,r,v⟩:Cg).cells 2 [Value.int .i64 n]=(⟨k,i,n,r,v⟩:Cg).cells:=yb [Value.int .i64 k,.int .i64 i] [Value.int .i64 0] [Value.int .i64 n] (r.cells.toList++[Value.int .u64 v]) rfl
theorem put_ver (k i n v:Int) (r:Slt) (hr:r.Ok):zg (⟨k,i,n,r,0⟩:Cg).cells 39 [Value.int .u64 v]=(⟨k,i,n,r,v⟩:Cg).cells:=by
 have l:=hr.len;have e:=yb ([Value.int .i64 k,.int .i64 i,.int .i64 n]++r.cells.toList) [Value.int .u64 0] [Value.int .u64 v] [] rfl
 have hl:([Value.int .i64 k,.int .i64 i,.int .i64 n]++r.cells.toList).length=39:=by simp[l]
 rw[hl,List.append_nil,List.append_nil,List.append_assoc,List.append_assoc]at e;exact e
theorem cr_act (i:Int) (hi0:-9223372036854775808≤i) (hi1:i≤9223372036854775807) (h:St W w J F):Calls Tryz.prog 118 #[(actC i).val] w fun e w'=>e=.returned (.bool (ixB i))∧St W w' J F:=by
 have okc:(actC i).Ok:=⟨by show(-9223372036854775808:Int)≤2;omega,by show(2:Int)≤9223372036854775807;omega,by show(-9223372036854775808:Int)≤0;omega,by show(0:Int)≤9223372036854775807;omega,hi0,hi1,zS_ok,by show(0:Int)≤0;omega,by show(0:Int)≤18446744073709551615;omega⟩;have h1:=(h.alloc (.cells (actC i).cells 147)).alloc (.cells zbi 147);have h0:=h.alloc (.cells (actC i).cells 147);obtain⟨g,hg⟩:∃g,w.heap.size=g:=⟨_,rfl⟩;rw[World.size_alloc,hg]at h1;rw[hg]at h0;have hsz:=Cg.size okc.tos;have hbs:=Cg.size (c:=bareK (actC i).kind) zS_ok;have hin:=k8 okc.tos;have bin:=k8 (c:=bareK (actC i).kind) zS_ok;have bon:=Cg.one (bareK (actC i).kind);have hbk:=j6 (actC i).kind
 have eqr:=fun w=>j5 (actC i) okc w
 have ct:∀(v:World) (X:List (Nat × Obj)),St W v J X→(g,Obj.cells (actC i).cells 147 (0,0))∈X→v.cell? ⟨g,0,none⟩=some (.int .i64 (actC i).kind)∧v.cell? ⟨g,1,none⟩=some (.int .i64 (0))∧v.cell? ⟨g,2,none⟩=some (.int .i64 (i))∧v.cell? ⟨g,39,none⟩=some (.int .u64 (0))∧v.rangeAt g 3 (zS).cells.toList∧v.rangeAt g 0 (actC i).cells.toList:=fun v X hv hm=>
  ⟨hv.cell hm 0,hv.cell hm 1,hv.cell hm 2,(hv.cell hm 39).trans (Cg.g39 okc.tos),fun j u hj=>by
   have hj:(actC i).tos.cells.toList[j]?=some u:=hj
   have hl:j < 36:=by have:=(List.getElem?_eq_some_iff.1 hj).1;rw[Array.length_toList,okc.tos.len]at this;exact this
   rw[hv.cell hm (3+j),Cg.gm okc.tos j hl];simpa using hj,fun j u hj=>by rw[Nat.zero_add,hv.cell hm j];simpa using hj⟩
 have bput:zg (bareK 2).cells 2 [Value.int .i64 i]=(actC i).cells:=put_n 2 0 i 0 zS;obtain⟨Q,hQ⟩:∃Q,ixB i=Q:=⟨_,rfl⟩;rw[hQ];have HIX:=za hQ;clear hQ;unfold Cg.val;simp only[show(actC i).kind=2 from rfl]at *;obtain⟨C,hC⟩:∃C,(actC i).cells=C:=⟨_,rfl⟩;obtain⟨B,hB⟩:∃C,(bareK 2).cells=C:=⟨_,rfl⟩;rw[hC]at h1 h0 hsz hin eqr ct ⊢;rw[hB]at hbs bin bon hbk
 have bfit:0+B.size≤(zbi).size:=by rw[hbs];decide
 have bmany:zg zbi 0 B.toList=B:=by rw[zd _ _ (by rw[Array.length_toList,hbs];rfl),Array.toArray_toList]
 rw[hB,hC]at bput;have BPUT:=za bput;have BLT:Hid (2 < B.size):=za (by rw[hbs];omega);have I1:Hid ((Tryz.prog.info? 3).map (·.size)=some 1):=za (by kernel_rfl);clear bput hB hC;obtain⟨c0,-,-,-,-,-⟩:=ct _ _ h0 (List.mem_cons_self ..);have H1:=za h1;have CT:=za ct;have HIN:=za hin;have BIN:=za bin;have BON:=za bon;have HBK:=za hbk;have EQR:=eqr;have BFIT:=za bfit;have BMANY:=za bmany;clear h h1 h0 ct hin bin bon hbk eqr bfit bmany okc
 go_enter Tryz.func118,Tryz.ntmps118
 go_wp2_with (first|(with_reducible refine zh rfl 147 _ rfl _ ?_ (HBK.out _) ?_;·go_simp)|(with_reducible refine zc rfl 147 (.tmp 3) (.tmp 7) rfl (g:=g+1) (off:=0) B rfl rfl H1.out BFIT.out BIN.out BON.out ?_;intro w4 h4;refine Hid.out ?_))
 refine za ?_;rw[BMANY.out]at h4;obtain⟨c0',c1,c2,c39,ct3,ctall⟩:=CT.out _ _ h4 (by simp);have H4:=za h4;clear h4 H1
 go_wp2_with (with_reducible refine zk rfl 3 (.tmp 30) (.tmp 29) rfl (g:=g+1) (off:=2) (.int .i64 i) rfl rfl rfl H4.out BLT.out I1.out rfl ?_;intro w5 h5;refine Hid.out ?_)
 refine za ?_;rw[BPUT.out]at h5;obtain⟨-,-,d2,-,-,-⟩:=CT.out _ _ h5 (by simp);have H5:=za h5;clear h5 H4
 go_wp2_with (go_at_call 117;(with_reducible refine(jt i _).mono ?_);rintro e wq ⟨rfl,rfl⟩;rw[HIX.out];refine Hid.out ?_)
 refine za ?_;obtain⟨wq,hwq⟩:∃x,w5=x:=⟨_,rfl⟩;subst hwq;have HE:=H5;obtain⟨-,-,-,-,-,ctall⟩:=CT.out _ _ HE.out (by simp);have RA:=za ctall;have RB:Hid (w5.rangeAt (g+1) 0 C.toList):=za (fun j u hj=>by rw[Nat.zero_add,HE.out.cell (g:=g+1) (cs:=C) (t:=147) (fr:=(0,0)) (by simp) j];simpa using hj);clear ctall
 cases Q with
 | false=>
  go_wp2_with fail;go_ret;exact⟨congrArg (fun b=>Ending.returned (Value.bool b)) (by (rfl)),HE.out.weaken (A:=[_,_])⟩
 | true=>
  go_wp2_with (first|(with_reducible refine zb 57 rfl (by kernel_rfl) 147 (.tmp 3) rfl (g+1) 0 rfl C _ RB.out Tryz.underlying147 rfl HIN.out ?_)|(with_reducible refine zb 58 rfl (by kernel_rfl) 147 (.tmp 1) rfl g 0 rfl C _ RA.out Tryz.underlying147 rfl HIN.out ?_))
  go_ret;exact⟨congrArg (fun b=>Ending.returned (Value.bool b)) (by (rfl)),HE.out.weaken (A:=[_,_])⟩
theorem cr_boo (i:Int) (hi0:-9223372036854775808≤i) (hi1:i≤9223372036854775807) (h:St W w J F):Calls Tryz.prog 118 #[(booC i).val] w fun e w'=>e=.returned (.bool (i==-1||ixB i))∧St W w' J F:=by
 have okc:(booC i).Ok:=⟨by show(-9223372036854775808:Int)≤3;omega,by show(3:Int)≤9223372036854775807;omega,by show(-9223372036854775808:Int)≤0;omega,by show(0:Int)≤9223372036854775807;omega,hi0,hi1,zS_ok,by show(0:Int)≤0;omega,by show(0:Int)≤18446744073709551615;omega⟩;have h1:=(h.alloc (.cells (booC i).cells 147)).alloc (.cells zbi 147);have h0:=h.alloc (.cells (booC i).cells 147);obtain⟨g,hg⟩:∃g,w.heap.size=g:=⟨_,rfl⟩;rw[World.size_alloc,hg]at h1;rw[hg]at h0;have hsz:=Cg.size okc.tos;have hbs:=Cg.size (c:=bareK (booC i).kind) zS_ok;have hin:=k8 okc.tos;have bin:=k8 (c:=bareK (booC i).kind) zS_ok;have bon:=Cg.one (bareK (booC i).kind);have hbk:=j6 (booC i).kind
 have eqr:=fun w=>j5 (booC i) okc w
 have ct:∀(v:World) (X:List (Nat × Obj)),St W v J X→(g,Obj.cells (booC i).cells 147 (0,0))∈X→v.cell? ⟨g,0,none⟩=some (.int .i64 (booC i).kind)∧v.cell? ⟨g,1,none⟩=some (.int .i64 (0))∧v.cell? ⟨g,2,none⟩=some (.int .i64 (i))∧v.cell? ⟨g,39,none⟩=some (.int .u64 (0))∧v.rangeAt g 3 (zS).cells.toList∧v.rangeAt g 0 (booC i).cells.toList:=fun v X hv hm=>
  ⟨hv.cell hm 0,hv.cell hm 1,hv.cell hm 2,(hv.cell hm 39).trans (Cg.g39 okc.tos),fun j u hj=>by
   have hj:(booC i).tos.cells.toList[j]?=some u:=hj
   have hl:j < 36:=by have:=(List.getElem?_eq_some_iff.1 hj).1;rw[Array.length_toList,okc.tos.len]at this;exact this
   rw[hv.cell hm (3+j),Cg.gm okc.tos j hl];simpa using hj,fun j u hj=>by rw[Nat.zero_add,hv.cell hm j];simpa using hj⟩
 have bput:zg (bareK 3).cells 2 [Value.int .i64 i]=(booC i).cells:=put_n 3 0 i 0 zS;obtain⟨Q,hQ⟩:∃Q,ixB i=Q:=⟨_,rfl⟩;rw[hQ];have HIX:=za hQ;clear hQ;unfold Cg.val;simp only[show(booC i).kind=3 from rfl]at *;obtain⟨C,hC⟩:∃C,(booC i).cells=C:=⟨_,rfl⟩;obtain⟨B,hB⟩:∃C,(bareK 3).cells=C:=⟨_,rfl⟩;rw[hC]at h1 h0 hsz hin eqr ct ⊢;rw[hB]at hbs bin bon hbk
 have bfit:0+B.size≤(zbi).size:=by rw[hbs];decide
 have bmany:zg zbi 0 B.toList=B:=by rw[zd _ _ (by rw[Array.length_toList,hbs];rfl),Array.toArray_toList]
 rw[hB,hC]at bput;have BPUT:=za bput;have BLT:Hid (2 < B.size):=za (by rw[hbs];omega);have I1:Hid ((Tryz.prog.info? 3).map (·.size)=some 1):=za (by kernel_rfl);clear bput hB hC;obtain⟨c0,-,-,-,-,-⟩:=ct _ _ h0 (List.mem_cons_self ..);have H1:=za h1;have CT:=za ct;have HIN:=za hin;have BIN:=za bin;have BON:=za bon;have HBK:=za hbk;have EQR:=eqr;have BFIT:=za bfit;have BMANY:=za bmany;clear h h1 h0 ct hin bin bon hbk eqr bfit bmany okc
 go_enter Tryz.func118,Tryz.ntmps118
 go_wp2_with (first|(with_reducible refine zh rfl 147 _ rfl _ ?_ (HBK.out _) ?_;·go_simp)|(with_reducible refine zc rfl 147 (.tmp 3) (.tmp 7) rfl (g:=g+1) (off:=0) B rfl rfl H1.out BFIT.out BIN.out BON.out ?_;intro w4 h4;refine Hid.out ?_))
 refine za ?_;rw[BMANY.out]at h4;obtain⟨c0',c1,c2,c39,ct3,ctall⟩:=CT.out _ _ h4 (by simp);have H4:=za h4;clear h4 H1
 go_wp2_with (with_reducible refine zk rfl 3 (.tmp 38) (.tmp 37) rfl (g:=g+1) (off:=2) (.int .i64 i) rfl rfl rfl H4.out BLT.out I1.out rfl ?_;intro w5 h5;refine Hid.out ?_)
 refine za ?_;rw[BPUT.out]at h5;obtain⟨-,-,d2,-,-,ctall⟩:=CT.out _ _ h5 (by simp);have HE:=za h5;have RA:=za ctall;have RB:Hid (w5.rangeAt (g+1) 0 C.toList):=za (fun j u hj=>by rw[Nat.zero_add,HE.out.cell (g:=g+1) (cs:=C) (t:=147) (fr:=(0,0)) (by simp) j];simpa using hj);clear ctall h5 H4
 by_cases hn:i=-1
 ·subst hn
  have HQ:Hid (true=(true||Q)):=za (by simp)
  go_wp2_with (first|(with_reducible refine zb 57 rfl (by kernel_rfl) 147 (.tmp 3) rfl (g+1) 0 rfl C _ RB.out Tryz.underlying147 rfl HIN.out ?_)|(with_reducible refine zb 58 rfl (by kernel_rfl) 147 (.tmp 1) rfl g 0 rfl C _ RA.out Tryz.underlying147 rfl HIN.out ?_))
  go_ret;exact⟨congrArg (fun b=>Ending.returned (Value.bool b)) (by simp),HE.out.weaken (A:=[_,_])⟩
 ·have b1:(i==-1)=false:=by simpa using hn
  cases Q with
  | false=>
   go_wp2_with (go_at_call 117;(with_reducible refine(jt i _).mono ?_);rintro e wq ⟨rfl,rfl⟩;rw[HIX.out])
   go_ret;exact⟨congrArg (fun b=>Ending.returned (Value.bool b)) (by simp[hn]),HE.out.weaken (A:=[_,_])⟩
  | true=>
   go_wp2_with (first|(go_at_call 117;(with_reducible refine(jt i _).mono ?_);rintro e wq ⟨rfl,rfl⟩;rw[HIX.out])|(with_reducible refine zb 57 rfl (by kernel_rfl) 147 (.tmp 3) rfl (g+1) 0 rfl C _ RB.out Tryz.underlying147 rfl HIN.out ?_)|(with_reducible refine zb 58 rfl (by kernel_rfl) 147 (.tmp 1) rfl g 0 rfl C _ RA.out Tryz.underlying147 rfl HIN.out ?_))
   go_ret;exact⟨congrArg (fun b=>Ending.returned (Value.bool b)) (by simp),HE.out.weaken (A:=[_,_])⟩
theorem cr_flo (i:Int) (hi0:0≤i) (hi1:i≤18446744073709551615) (h:St W w J F):Calls Tryz.prog 118 #[(floC i).val] w fun e w'=>e=.returned (.bool (decide (i≤281474976710656)))∧St W w' J F:=by
 have okc:(floC i).Ok:=⟨by show(-9223372036854775808:Int)≤4;omega,by show(4:Int)≤9223372036854775807;omega,by show(-9223372036854775808:Int)≤0;omega,by show(0:Int)≤9223372036854775807;omega,by show(-9223372036854775808:Int)≤0;omega,by show(0:Int)≤9223372036854775807;omega,zS_ok,hi0,hi1⟩;have h1:=(h.alloc (.cells (floC i).cells 147)).alloc (.cells zbi 147);have h0:=h.alloc (.cells (floC i).cells 147);obtain⟨g,hg⟩:∃g,w.heap.size=g:=⟨_,rfl⟩;rw[World.size_alloc,hg]at h1;rw[hg]at h0;have hsz:=Cg.size okc.tos;have hbs:=Cg.size (c:=bareK (floC i).kind) zS_ok;have hin:=k8 okc.tos;have bin:=k8 (c:=bareK (floC i).kind) zS_ok;have bon:=Cg.one (bareK (floC i).kind);have hbk:=j6 (floC i).kind
 have eqr:=fun w=>j5 (floC i) okc w
 have ct:∀(v:World) (X:List (Nat × Obj)),St W v J X→(g,Obj.cells (floC i).cells 147 (0,0))∈X→v.cell? ⟨g,0,none⟩=some (.int .i64 (floC i).kind)∧v.cell? ⟨g,1,none⟩=some (.int .i64 (0))∧v.cell? ⟨g,2,none⟩=some (.int .i64 (0))∧v.cell? ⟨g,39,none⟩=some (.int .u64 (i))∧v.rangeAt g 3 (zS).cells.toList∧v.rangeAt g 0 (floC i).cells.toList:=fun v X hv hm=>
  ⟨hv.cell hm 0,hv.cell hm 1,hv.cell hm 2,(hv.cell hm 39).trans (Cg.g39 okc.tos),fun j u hj=>by
   have hj:(floC i).tos.cells.toList[j]?=some u:=hj
   have hl:j < 36:=by have:=(List.getElem?_eq_some_iff.1 hj).1;rw[Array.length_toList,okc.tos.len]at this;exact this
   rw[hv.cell hm (3+j),Cg.gm okc.tos j hl];simpa using hj,fun j u hj=>by rw[Nat.zero_add,hv.cell hm j];simpa using hj⟩
 have bput:zg (bareK 4).cells 39 [Value.int .u64 i]=(floC i).cells:=put_ver 4 0 0 i zS zS_ok;unfold Cg.val;simp only[show(floC i).kind=4 from rfl]at *;obtain⟨C,hC⟩:∃C,(floC i).cells=C:=⟨_,rfl⟩;obtain⟨B,hB⟩:∃C,(bareK 4).cells=C:=⟨_,rfl⟩;rw[hC]at h1 h0 hsz hin eqr ct ⊢;rw[hB]at hbs bin bon hbk
 have bfit:0+B.size≤(zbi).size:=by rw[hbs];decide
 have bmany:zg zbi 0 B.toList=B:=by rw[zd _ _ (by rw[Array.length_toList,hbs];rfl),Array.toArray_toList]
 rw[hB,hC]at bput;have BPUT:=za bput;have BLT:Hid (39 < B.size):=za (by rw[hbs];omega);have I1:Hid ((Tryz.prog.info? 22).map (·.size)=some 1):=za (by kernel_rfl);clear bput hB hC;obtain⟨c0,-,-,-,-,-⟩:=ct _ _ h0 (List.mem_cons_self ..);have H1:=za h1;have CT:=za ct;have HIN:=za hin;have BIN:=za bin;have BON:=za bon;have HBK:=za hbk;have EQR:=eqr;have BFIT:=za bfit;have BMANY:=za bmany;clear h h1 h0 ct hin bin bon hbk eqr bfit bmany okc
 go_enter Tryz.func118,Tryz.ntmps118
 go_wp2_with (first|(with_reducible refine zh rfl 147 _ rfl _ ?_ (HBK.out _) ?_;·go_simp)|(with_reducible refine zc rfl 147 (.tmp 3) (.tmp 7) rfl (g:=g+1) (off:=0) B rfl rfl H1.out BFIT.out BIN.out BON.out ?_;intro w4 h4;refine Hid.out ?_))
 refine za ?_;rw[BMANY.out]at h4;obtain⟨c0',c1,c2,c39,ct3,ctall⟩:=CT.out _ _ h4 (by simp);have H4:=za h4;clear h4 H1
 go_wp2_with (with_reducible refine zk rfl 22 (.tmp 51) (.tmp 50) rfl (g:=g+1) (off:=39) (.int .u64 i) rfl rfl rfl H4.out BLT.out I1.out rfl ?_;intro w5 h5;refine Hid.out ?_)
 refine za ?_;rw[BPUT.out]at h5;obtain⟨-,-,-,d39,-,ctall⟩:=CT.out _ _ h5 (by simp);have HE:=za h5;have RA:=za ctall;have RB:Hid (w5.rangeAt (g+1) 0 C.toList):=za (fun j u hj=>by rw[Nat.zero_add,HE.out.cell (g:=g+1) (cs:=C) (t:=147) (fr:=(0,0)) (by simp) j];simpa using hj);clear ctall h5 H4
 by_cases hn:i≤281474976710656
 ·have b1:decide (i≤281474976710656)=true:=by simpa using hn
  go_wp2_with (first|(with_reducible refine zb 57 rfl (by kernel_rfl) 147 (.tmp 3) rfl (g+1) 0 rfl C _ RB.out Tryz.underlying147 rfl HIN.out ?_)|(with_reducible refine zb 58 rfl (by kernel_rfl) 147 (.tmp 1) rfl g 0 rfl C _ RA.out Tryz.underlying147 rfl HIN.out ?_))
  go_ret;exact⟨congrArg (fun b=>Ending.returned (Value.bool b)) (by simp[hn]),HE.out.weaken (A:=[_,_])⟩
 ·have b1:decide (i≤281474976710656)=false:=by simpa using hn
  go_wp2_with fail;go_ret;exact⟨congrArg (fun b=>Ending.returned (Value.bool b)) (by simp;try omega),HE.out.weaken (A:=[_,_])⟩
theorem cr_set (i:Int) (s:Slt) (ok:s.Ok) (hi0:-9223372036854775808≤i) (hi1:i≤9223372036854775807) (h:St W w J F):Calls Tryz.prog 118 #[(setC i s).val] w fun e w'=>e=.returned (.bool (ixB i&&rightS s))∧St W w' J F:=by
 have okc:(setC i s).Ok:=⟨by show(-9223372036854775808:Int)≤1;omega,by show(1:Int)≤9223372036854775807;omega,hi0,hi1,by show(-9223372036854775808:Int)≤0;omega,by show(0:Int)≤9223372036854775807;omega,ok,by show(0:Int)≤0;omega,by show(0:Int)≤18446744073709551615;omega⟩;have h1:=(h.alloc (.cells (setC i s).cells 147)).alloc (.cells zbi 147);have h0:=h.alloc (.cells (setC i s).cells 147);obtain⟨g,hg⟩:∃g,w.heap.size=g:=⟨_,rfl⟩;rw[World.size_alloc,hg]at h1;rw[hg]at h0;have hsz:=Cg.size okc.tos;have hbs:=Cg.size (c:=bareK (setC i s).kind) zS_ok;have hin:=k8 okc.tos;have bin:=k8 (c:=bareK (setC i s).kind) zS_ok;have bon:=Cg.one (bareK (setC i s).kind);have hbk:=j6 (setC i s).kind
 have eqr:=fun w=>j5 (setC i s) okc w
 have ct:∀(v:World) (X:List (Nat × Obj)),St W v J X→(g,Obj.cells (setC i s).cells 147 (0,0))∈X→v.cell? ⟨g,0,none⟩=some (.int .i64 (setC i s).kind)∧v.cell? ⟨g,1,none⟩=some (.int .i64 (i))∧v.cell? ⟨g,2,none⟩=some (.int .i64 (0))∧v.cell? ⟨g,39,none⟩=some (.int .u64 (0))∧v.rangeAt g 3 (s).cells.toList∧v.rangeAt g 0 (setC i s).cells.toList:=fun v X hv hm=>
  ⟨hv.cell hm 0,hv.cell hm 1,hv.cell hm 2,(hv.cell hm 39).trans (Cg.g39 okc.tos),fun j u hj=>by
   have hj:(setC i s).tos.cells.toList[j]?=some u:=hj
   have hl:j < 36:=by have:=(List.getElem?_eq_some_iff.1 hj).1;rw[Array.length_toList,okc.tos.len]at this;exact this
   rw[hv.cell hm (3+j),Cg.gm okc.tos j hl];simpa using hj,fun j u hj=>by rw[Nat.zero_add,hv.cell hm j];simpa using hj⟩
 have kR:=fun(v:World) (X:List (Nat × Obj)) (hv:St W v J X)=>jq s ok hv
 have sl:=ok.len;have si:=zl ok.dig;have so:=s.one;have put1:zg (zg (bareK 1).cells 1 [Value.int .i64 i]) 3 s.cells.toList=(setC i s).cells:=put_slot 1 i 0 0 s zS ok zS_ok;have put2:zg (zg (bareK 1).cells 3 s.cells.toList) 1 [Value.int .i64 i]=(setC i s).cells:=put_slot' 1 i 0 0 s zS ok zS_ok;obtain⟨Q,hQ⟩:∃Q,ixB i=Q:=⟨_,rfl⟩;obtain⟨R,hR⟩:∃R,rightS s=R:=⟨_,rfl⟩;rw[hQ,hR];rw[hR]at kR;have HIX:=za hQ;clear hQ hR;unfold Cg.val;simp only[show(setC i s).kind=1 from rfl]at *;obtain⟨C,hC⟩:∃C,(setC i s).cells=C:=⟨_,rfl⟩;obtain⟨B,hB⟩:∃C,(bareK 1).cells=C:=⟨_,rfl⟩;rw[hC]at h1 h0 hsz hin eqr ct ⊢;rw[hB]at hbs bin bon hbk
 have bfit:0+B.size≤(zbi).size:=by rw[hbs];decide
 have bmany:zg zbi 0 B.toList=B:=by rw[zd _ _ (by rw[Array.length_toList,hbs];rfl),Array.toArray_toList]
 rw[hB,hC]at put1 put2;unfold Slt.val at kR;obtain⟨S,hS⟩:∃S,s.cells=S:=⟨_,rfl⟩;rw[hS]at kR sl si so put1 put2 ct;have F1A:Hid (1 < B.size):=za (by rw[hbs];omega);have F1B:Hid (1 < (zg B 3 S.toList).size):=za (by rw[yd,hbs];omega);have F3A:Hid (3+S.size≤B.size):=za (by rw[hbs,sl];omega);have F3B:Hid (3+S.size≤(zg B 1 [Value.int .i64 i]).size):=za (by rw[yd,hbs,sl];omega);have I1:Hid ((Tryz.prog.info? 3).map (·.size)=some 1):=za (by kernel_rfl);have HIS:Hid ((Tryz.prog.info? 26).map (·.size)=some S.toList.length):=za (by rw[si,Array.length_toList]);have HUS:=za Tryz.underlying26;have PUT1:=za put1;have PUT2:=za put2;have HSI:=za si;have HSO:=za so;have KR:=za kR;clear put1 put2 si so kR hS hB hC sl;obtain⟨c0,-,-,-,-,-⟩:=ct _ _ h0 (List.mem_cons_self ..);have H1:=za h1;have CT:=za ct;have HIN:=za hin;have BIN:=za bin;have BON:=za bon;have HBK:=za hbk;have EQR:=eqr;have BFIT:=za bfit;have BMANY:=za bmany;clear h h1 h0 ct hin bin bon hbk eqr bfit bmany okc
 go_enter Tryz.func118,Tryz.ntmps118
 go_wp2_with (first|(with_reducible refine zh rfl 147 _ rfl _ ?_ (HBK.out _) ?_;·go_simp)|(with_reducible refine zc rfl 147 (.tmp 3) (.tmp 7) rfl (g:=g+1) (off:=0) B rfl rfl H1.out BFIT.out BIN.out BON.out ?_;intro w4 h4;refine Hid.out ?_))
 refine za ?_;rw[BMANY.out]at h4;obtain⟨c0',c1,c2,c39,ct3,ctall⟩:=CT.out _ _ h4 (by simp);have H4:=za h4;clear h4 H1;have s0:=CT.out _ _ H4.out.drew1 (by simp)
 have sx:∀(v:World) (X:List (Nat × Obj)),St W v J X→(g,Obj.cells C 147 (0,0))∈X→v.cell? ⟨g,1,none⟩=some (.int .i64 i)∧v.rangeAt g 3 S.toList:=fun v X hv hm=>⟨(CT.out v X hv hm).2.1,(CT.out v X hv hm).2.2.2.2.1⟩
 have SX:=za sx;have s1:=sx _ _ H4.out.drew1 (by simp);have HDW:=za H4.out.drew1;clear sx s0 c1 c2 c39 ct3 ctall;go_wp2_with fail;refine wp_region_held_drew (S:=fun v=>v.cell? ⟨g,1,none⟩=some (.int .i64 i)∧v.rangeAt g 3 S.toList) (by kernel_rfl) s1 (fun hHeld=>?_)
 refine tk op0 (v:=?_) (by kernel_rfl) ?_ (by assumption) ?_ fun _ _ _ h=>h
 rotate_left
 ·(refine ya rfl fun w hSw=>?_;(try dsimp only at hSw);go_simp;try with_reducible rfl)
 try simp only[Act.put,pu1,pu2,pu3]
 refine tk op1 (v:=?_) (by kernel_rfl) ?_ (by assumption) ?_ fun _ _ _ h=>h
 rotate_left
 ·((refine Or.inl ⟨by rfl,?_⟩;intro w hSw;obtain⟨hS1,hS2⟩:=hSw;go_simp;try with_reducible rfl))
 try simp only[Act.put,pu1,pu2,pu3]
 refine tk op2 (v:=?_) (by kernel_rfl) ?_ (by assumption) ?_ fun _ _ _ h=>h
 rotate_left
 ·(refine ya rfl fun w hSw=>?_;(try dsimp only at hSw);go_simp;try with_reducible rfl)
 try simp only[Act.put,pu1,pu2,pu3]
 refine tk op3 (v:=?_) (by kernel_rfl) ?_ (by assumption) ?_ fun _ _ _ h=>h
 rotate_left
 ·(((refine yieldsIf_load_mid ?_ 26 (.tmp 14) ?_ g 3 ?_ S.toList _ ?_ HUS.out ?_ HIS.out)<;>first|rfl|exact fun w h=>h.2))
 try simp only[Act.put,pu1,pu2,pu3]
 refine tk op4 (v:=?_) (by kernel_rfl) ?_ (by assumption) ?_ fun _ _ _ h=>h
 rotate_left
 ·(refine ya rfl fun w hSw=>?_;(try dsimp only at hSw);go_simp;try with_reducible rfl)
 try simp only[Act.put,pu1,pu2,pu3]
 refine rd1 op5 (by kernel_rfl) fun K hK=>?_
 ((refine yw rfl 3 (.tmp 16) (.tmp 13) rfl (g:=g+1) (off:=1) (.int .i64 i) rfl rfl rfl HDW.out F1A.out I1.out rfl ?_;intro wB hB;dsimp only))
 refine hK.out _ _ ?_ fun hHeld=>?_
 ·(try dsimp only)<;>((exact SX.out _ _ hB (by simp)))
 clear hK K
 try simp only[Act.put,pu1,pu2,pu3]
 refine tk op6 (v:=?_) (by kernel_rfl) ?_ (by assumption) ?_ fun _ _ _ h=>h
 rotate_left
 ·(refine ya rfl fun w hSw=>?_;(try dsimp only at hSw);go_simp;try with_reducible rfl)
 try simp only[Act.put,pu1,pu2,pu3]
 refine rd1 op7 (by kernel_rfl) fun K hK=>?_
 ((refine zq rfl 26 (.tmp 17) (.tmp 15) rfl (g:=g+1) (off:=3) S rfl rfl hB F3B.out HSI.out HSO.out ?_;intro wf hf;rw[PUT1.out]at hf;dsimp only))
 refine hK.out _ _ ?_ fun hHeld=>?_
 ·(try dsimp only)<;>((exact SX.out _ _ hf (by simp)))
 clear hK K
 try simp only[Act.put,pu1,pu2,pu3]
 refine wpAnyH_done (by kernel_rfl) ?_ _;have HE:=za hf;clear hf HDW H4 s1
 try simp only[Array.toArray_toList]
 obtain⟨d1,d3⟩:=SX.out _ _ HE.out (by simp);have D3:=za d3;have ctall:=(CT.out _ _ HE.out (by simp)).2.2.2.2.2;have RA:=za ctall;have RB:Hid (wf.rangeAt (g+1) 0 C.toList):=za (fun j u hj=>by rw[Nat.zero_add,HE.out.cell (g:=g+1) (cs:=C) (t:=147) (fr:=(0,0)) (by simp) j];simpa using hj);clear ctall d3
 cases Q with
 | false=>
  go_wp2_with (go_at_call 117;(with_reducible refine(jt i _).mono ?_);rintro e wq ⟨rfl,rfl⟩;rw[HIX.out])
  go_ret;exact⟨congrArg (fun b=>Ending.returned (Value.bool b)) (by simp),HE.out.weaken (A:=[_,_])⟩
 | true=>
  have KR2:=za (KR.out _ _ HE.out)
  go_wp2_with (first|(go_at_call 117;(with_reducible refine(jt i _).mono ?_);rintro e wq ⟨rfl,rfl⟩;rw[HIX.out])|(with_reducible refine zb 23 rfl (by kernel_rfl) 26 (.tmp 22) rfl g 3 rfl S _ D3.out Tryz.underlying26 rfl HSI.out ?_))
  refine KR2.out.mono ?_;rintro e wq ⟨rfl,hq⟩;have ctall:=(CT.out _ _ hq (by simp)).2.2.2.2.2;have HQ:=za hq;clear RA RB hq KR2 HE;have RA:=za ctall;have RB:Hid (wq.rangeAt (g+1) 0 C.toList):=za (fun j u hj=>by rw[Nat.zero_add,HQ.out.cell (g:=g+1) (cs:=C) (t:=147) (fr:=(0,0)) (by simp) j];simpa using hj);clear ctall
  cases R with
  | false=>
   go_wp2_with fail;go_ret;exact⟨congrArg (fun b=>Ending.returned (Value.bool b)) (by simp),HQ.out.weaken (A:=[_,_])⟩
  | true=>
   go_wp2_with (first|(with_reducible refine zb 57 rfl (by kernel_rfl) 147 (.tmp 3) rfl (g+1) 0 rfl C _ RB.out Tryz.underlying147 rfl HIN.out ?_)|(with_reducible refine zb 58 rfl (by kernel_rfl) 147 (.tmp 1) rfl g 0 rfl C _ RA.out Tryz.underlying147 rfl HIN.out ?_))
   go_ret;exact⟨congrArg (fun b=>Ending.returned (Value.bool b)) (by simp),HQ.out.weaken (A:=[_,_])⟩
end
end Go.Proofs.YtnjnooeldkideaaGreatDoor
