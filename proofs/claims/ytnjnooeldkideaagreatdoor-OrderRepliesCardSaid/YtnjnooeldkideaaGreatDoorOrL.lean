/- boot: what lands. -/
import Derived.Test.YtnjnooeldkideaaGreatDoorMOrX
namespace Go.Proofs.YtnjnooeldkideaaGreatDoor
set_option maxRecDepth 100000
set_option maxHeartbeats 8000000
set_option linter.unusedVariables false
set_option linter.unusedSimpArgs false
open Go.RowKit Go.Lib Go.Deep
section
variable {W w:World} {J:Nat→Option Obj} {t:Tb} {F:List (Nat × Obj)}
theorem fold_setO (o:Nat):∀(xs:List Value) (k:Nat) (Z:Array Value),List.foldl (fun cs (x:Value × Nat)=>cs.setIfInBounds (o+x.snd) x.fst) Z (xs.zipIdx k)=zg Z (o+k) xs
 | [],_,_=>rfl
 | x::xs,k,Z=>by
  rw[List.zipIdx_cons,List.foldl_cons,fold_setO o xs (k+1)]
  rfl
theorem fold_at (o:Nat) (X Z:Array Value) (n:Nat) (h:X.size=n):Array.foldl (fun cs (x:Value × Nat)=>cs.setIfInBounds (o+x.snd) x.fst) Z X.zipIdx 0 n=zg Z o X.toList:=by
 have e:Array.foldl (fun cs (x:Value × Nat)=>cs.setIfInBounds (o+x.snd) x.fst) Z X.zipIdx 0 n=Array.foldl (fun cs (x:Value × Nat)=>cs.setIfInBounds (o+x.snd) x.fst) Z X.zipIdx 0 X.zipIdx.size:=by rw[Array.size_zipIdx,h]
 rw[e,←Array.foldl_toList,Array.toList_zipIdx,fold_setO o _ 0,Nat.add_zero]
theorem fold_at0 (X Z:Array Value) (n:Nat) (h:X.size=n):Array.foldl (fun cs (x:Value × Nat)=>cs.setIfInBounds x.snd x.fst) Z X.zipIdx 0 n=zg Z 0 X.toList:=by
 have e:Array.foldl (fun cs (x:Value × Nat)=>cs.setIfInBounds x.snd x.fst) Z X.zipIdx 0 n=Array.foldl (fun cs (x:Value × Nat)=>cs.setIfInBounds x.snd x.fst) Z X.zipIdx 0 X.zipIdx.size:=by rw[Array.size_zipIdx,h]
 rw[e,←Array.foldl_toList,Array.toList_zipIdx,zax]
theorem two_rows (C1 C2:Array Value) (h1:C1.size=40) (h2:C2.size=40):∃Y,Array.foldl (fun cs (x:Value × Nat)=>cs.setIfInBounds x.snd x.fst) (Value.int .i64 0::.int .i64 0::.int .i64 0::.int .i64 0::.int .i64 0::.int .u64 0::.int .i64 0::.int .u8 0::.int .u8 0::.int .u8 0::.int .u8 0::.int .u8 0::.int .u8 0::.int .u8 0::.int .u8 0::.int .u8 0::.int .u8 0::.int .u8 0::.int .u8 0::.int .u8 0::.int .u8 0::.int .u8 0::.int .u8 0::.int .u8 0::.int .u8 0::.int .u8 0::.int .u8 0::.int .u8 0::.int .u8 0::.int .u8 0::.int .u8 0::.int .u8 0::.int .u8 0::.int .u8 0::.int .u8 0::.int .u8 0::.int .u8 0::.int .u8 0::.int .u8 0::.int .u64 0::Value.int .i64 0::.int .i64 0::.int .i64 0::.int .i64 0::.int .i64 0::.int .u64 0::.int .i64 0::.int .u8 0::.int .u8 0::.int .u8 0::.int .u8 0::.int .u8 0::.int .u8 0::.int .u8 0::.int .u8 0::.int .u8 0::.int .u8 0::.int .u8 0::.int .u8 0::.int .u8 0::.int .u8 0::.int .u8 0::.int .u8 0::.int .u8 0::.int .u8 0::.int .u8 0::.int .u8 0::.int .u8 0::.int .u8 0::.int .u8 0::.int .u8 0::.int .u8 0::.int .u8 0::.int .u8 0::.int .u8 0::.int .u8 0::.int .u8 0::.int .u8 0::.int .u8 0::.int .u64 0::[]).toArray C1.zipIdx 0 40=Y∧Y.size=80∧Array.foldl (fun cs (x:Value × Nat)=>cs.setIfInBounds (40+x.snd) x.fst) Y C2.zipIdx 0 40=C1++C2:=by
 refine⟨zg (Value.int .i64 0::.int .i64 0::.int .i64 0::.int .i64 0::.int .i64 0::.int .u64 0::.int .i64 0::.int .u8 0::.int .u8 0::.int .u8 0::.int .u8 0::.int .u8 0::.int .u8 0::.int .u8 0::.int .u8 0::.int .u8 0::.int .u8 0::.int .u8 0::.int .u8 0::.int .u8 0::.int .u8 0::.int .u8 0::.int .u8 0::.int .u8 0::.int .u8 0::.int .u8 0::.int .u8 0::.int .u8 0::.int .u8 0::.int .u8 0::.int .u8 0::.int .u8 0::.int .u8 0::.int .u8 0::.int .u8 0::.int .u8 0::.int .u8 0::.int .u8 0::.int .u8 0::.int .u64 0::Value.int .i64 0::.int .i64 0::.int .i64 0::.int .i64 0::.int .i64 0::.int .u64 0::.int .i64 0::.int .u8 0::.int .u8 0::.int .u8 0::.int .u8 0::.int .u8 0::.int .u8 0::.int .u8 0::.int .u8 0::.int .u8 0::.int .u8 0::.int .u8 0::.int .u8 0::.int .u8 0::.int .u8 0::.int .u8 0::.int .u8 0::.int .u8 0::.int .u8 0::.int .u8 0::.int .u8 0::.int .u8 0::.int .u8 0::.int .u8 0::.int .u8 0::.int .u8 0::.int .u8 0::.int .u8 0::.int .u8 0::.int .u8 0::.int .u8 0::.int .u8 0::.int .u8 0::.int .u64 0::[]).toArray 0 C1.toList,fold_at0 C1 _ 40 h1,by rw[yd];rfl,?_⟩;rw[fold_at 40 C2 _ 40 h2]
 have e0:(Value.int .i64 0::.int .i64 0::.int .i64 0::.int .i64 0::.int .i64 0::.int .u64 0::.int .i64 0::.int .u8 0::.int .u8 0::.int .u8 0::.int .u8 0::.int .u8 0::.int .u8 0::.int .u8 0::.int .u8 0::.int .u8 0::.int .u8 0::.int .u8 0::.int .u8 0::.int .u8 0::.int .u8 0::.int .u8 0::.int .u8 0::.int .u8 0::.int .u8 0::.int .u8 0::.int .u8 0::.int .u8 0::.int .u8 0::.int .u8 0::.int .u8 0::.int .u8 0::.int .u8 0::.int .u8 0::.int .u8 0::.int .u8 0::.int .u8 0::.int .u8 0::.int .u8 0::.int .u64 0::Value.int .i64 0::.int .i64 0::.int .i64 0::.int .i64 0::.int .i64 0::.int .u64 0::.int .i64 0::.int .u8 0::.int .u8 0::.int .u8 0::.int .u8 0::.int .u8 0::.int .u8 0::.int .u8 0::.int .u8 0::.int .u8 0::.int .u8 0::.int .u8 0::.int .u8 0::.int .u8 0::.int .u8 0::.int .u8 0::.int .u8 0::.int .u8 0::.int .u8 0::.int .u8 0::.int .u8 0::.int .u8 0::.int .u8 0::.int .u8 0::.int .u8 0::.int .u8 0::.int .u8 0::.int .u8 0::.int .u8 0::.int .u8 0::.int .u8 0::.int .u8 0::.int .u8 0::.int .u64 0::[]).toArray=([]++((zbi).toList++(zbi).toList)).toArray:=rfl;rw[e0]
 have e1:C1.toList.length=40:=by simp[h1]
 have e2:C2.toList.length=40:=by simp[h2]
 have k1:=yb [] (zbi).toList C1.toList (zbi).toList (e1.symm ▸ rfl);rw[show([]:List Value).length=0 from rfl]at k1;rw[k1,List.nil_append];have k2:=yb C1.toList (zbi).toList C2.toList [] (e2.symm ▸ rfl);rw[show C1.toList.length=40 by rw[Array.length_toList,h1],List.append_nil,List.append_nil]at k2;rw[k2];apply Array.toList_inj.1
 simp
def landC (t:Tb) (i:Int) (s:Slt):Prop:=zx t=true∧ixB i=true∧i≠t.act∧(t.at_ i).st=1∧rightS s=true∧s.st=2
instance (t:Tb) (i:Int) (s:Slt):Decidable (landC t i s):=by unfold landC;exact inferInstance
def landT (t:Tb) (i:Int) (s:Slt):List Cg × Int:=if landC t i s then ([setC i s,actC i],0) else ([],101)
theorem b_land (ok:t.Ok) (i:Int) (s:Slt) (sok:s.Ok) (h:St W w J F):Calls Tryz.prog 94 #[t.val,.int .i64 i,s.val] w (CPost W J F (landT t i s)):=by
 have h1:=(h.alloc (.cells t.cells 29)).alloc (.cells s.cells 26);obtain⟨g,hg⟩:∃g,w.heap.size=g:=⟨_,rfl⟩;rw[World.size_alloc,hg]at h1
 have kI:=fun(v:World) (X:List (Nat × Obj)) (hi:i=0∨i=1) (hv:St W v J X)=>v_is i 1 ok hi hv
 have kS:=fun(v:World) (X:List (Nat × Obj)) (hv:St W v J X)=>jq s sok hv
 have kE:=fun(v:World) (X:List (Nat × Obj)) (hv:St W v J X)=>b_set i s sok hv
 have sv:=fun(v:World) (X:List (Nat × Obj)) (hv:St W v J X) (hm:(g+1,Obj.cells s.cells 26 (0,0))∈X)=>(And.intro (fun j u hj=>by rw[Nat.zero_add,hv.cell hm j];simpa using hj) ((hv.cell hm 0).trans (Slt.at0 s)):v.rangeAt (g+1) 0 s.cells.toList∧v.cell? ⟨g+1,0,none⟩=some (.int .i64 s.st))
 have hsi:=zl sok.dig;have ok1:(setC i s).tos.Ok:=sok;have ok2:(actC i).tos.Ok:=zS_ok;have hz1:=Cg.size ok1;have hz2:=Cg.size ok2
 have hno:¬landC t i s→∀v,St W v J F→CPost W J F (landT t i s) (.returned (.tuple #[.slice none 0 0,.int .i64 101])) v:=fun hc v hv=>by unfold landT;rw[if_neg hc];exact CPost.nothing 101 hv
 have hyes:landC t i s→∀v b,St W v J ((b,.cells ((setC i s).cells++(actC i).cells) 147 (0,0))::F)→CPost W J F (landT t i s) (.returned (.tuple #[.slice (some ⟨b,0,none⟩) 2 2,.int .i64 0])) v:=fun hc v b hv=>by
  unfold landT;rw[if_pos hc];exact⟨_,2,_,rfl,row_two ok1 ok2,hv⟩
 have act0:=fun(hv:zx t=true)=>jp hv
 obtain⟨V,hV⟩:∃V,zx t=V:=⟨_,rfl⟩
 have kL:=fun(v:World) (X:List (Nat × Obj)) (hv:St W v J X)=>zbg t ok hv
 rw[hV]at kL;have hsz:=Tb.size ok;have hti:=z7 ok;have hvi:=u6 ok;have htone:=t.one
 have tbv:=fun(v:World) (X:List (Nat × Obj)) (b:Nat) (hv:St W v J X) (hm:(b,Obj.cells t.cells 161 (0,0))∈X)=>hv.tb (T:=161) ok hm
 have tbb:=fun(v:World) (X:List (Nat × Obj)) (hv:St W v J X) (hm:(g,Obj.cells t.cells 29 (0,0))∈X)=>(hv.tb (T:=29) ok hm).all
 unfold Tb.val at *;obtain⟨C,hC⟩:∃C,t.cells=C:=⟨_,rfl⟩;rw[hC]at kL hsz hti hvi htone tbv tbb
 have hvfit:0+C.size≤(Tryz.zeroCells161).size:=by rw[hsz,zview];omega
 have hvmany:zg Tryz.zeroCells161 0 C.toList=C:=by rw[zd _ _ (by rw[Array.length_toList,hsz,zview]),Array.toArray_toList]
 have HCC:=za hC;have HVV:=za hV;have KL:=za kL;have HTI:=za hti;have HVI:=za hvi;have HTONE:=za htone;have TBV:=za tbv;have TBB:=za tbb;have HVFIT:=za hvfit;have HVMANY:=za hvmany;clear kL hti hvi htone tbv tbb hvfit hvmany hV hsz;generalize landT t i s=R at *;obtain⟨LC,hLC⟩:∃LC:Prop,landC t i s=LC:=⟨_,rfl⟩;have hlc:=hLC;unfold landC at hlc;rw[hLC]at hno hyes;unfold Slt.val Cg.val at *;rw[HCC.out]at h1 kI ⊢;obtain⟨S,hS⟩:∃S,s.cells=S:=⟨_,rfl⟩;obtain⟨C1,hC1⟩:∃C,(setC i s).cells=C:=⟨_,rfl⟩;obtain⟨C2,hC2⟩:∃C,(actC i).cells=C:=⟨_,rfl⟩;rw[hS]at h1 kS kE sv hsi ⊢;rw[hC1]at kE hz1 hyes;rw[hC2]at hz2 hyes
 have kB:=fun(v:World) (X:List (Nat × Obj)) (hv:St W v J X)=>zag i hv
 unfold Cg.val at kB;rw[hC2]at kB;obtain⟨QX,hQX⟩:∃B,ixB i=B:=⟨_,rfl⟩;obtain⟨RS,hRS⟩:∃B,rightS s=B:=⟨_,rfl⟩;obtain⟨st,hst⟩:∃x,s.st=x:=⟨_,rfl⟩;rw[hRS]at kS;rw[hst]at sv;rw[HVV.out,hQX,hRS,hst]at hlc;have q5:=sv _ _ h1 (List.mem_cons_self ..);obtain⟨Y,hy1,hy2,hy3⟩:=two_rows C1 C2 hz1 hz2;have HNO:=za hno;have HYES:=za hyes;have KI:=za kI;have KS:=za kS;have KE:=za kE;have KB:=za kB;have SV:=za sv;have HSI:=za hsi;have HQX:=za hQX;have HLC:=za hlc;have H1:=za h1;have ACT0:=za act0;clear h h1 hno hyes kI kS kE kB sv hsi hQX hRS hst hlc hLC hC hS hC1 hC2 ok1 ok2 q5 act0 sok ok
 go_enter Tryz.func94,Tryz.ntmps94
 go_wp2_with (with_reducible refine zb 11 rfl (by kernel_rfl) 29 (.tmp 3) rfl g 0 rfl C _ (TBB.out _ _ H1.out (by simp)) Tryz.underlying29 rfl HTI.out ?_)
 refine(KL.out _ _ H1.out).mono ?_;rintro e w2 ⟨rfl,h2⟩;have h3:=h2.alloc (.cells Tryz.zeroCells161 161);have H3:=za h3;clear h2 h3
 go_wp2_with (with_reducible refine zc rfl 161 (.tmp 8) (.tmp 13) rfl (g:=w2.heap.size) (off:=0) C rfl rfl H3.out HVFIT.out HVI.out HTONE.out ?_;intro w4 h4;refine Hid.out ?_)
 refine za ?_;rw[HVMANY.out]at h4;obtain⟨gv,hgv⟩:∃x,w2.heap.size=x:=⟨_,rfl⟩;rw[hgv]at h4 ⊢;obtain⟨vs0,vs1,vact,vboo,vflo,vall,vst0,vst1⟩:=TBV.out _ _ gv h4 (List.mem_cons_self ..);rw[HCC.out]at vall;have H4:=za h4;have VS0:=za vs0;have VS1:=za vs1;have VALL:=za vall;clear h4 H3 vs0 vs1 vall hgv KL
 cases V with
 | false=>
  have HN:=za (HNO.out (fun x=>by rw[←HLC.out]at x;cases x.1));go_wp2_with fail
  go_ret2
  exact HN.out _ (H4.out.weaken (A:=[_,_,_]))
 | true=>
  cases QX with
  | false=>
   have HN:=za (HNO.out (fun x=>by rw[←HLC.out]at x;cases x.2.1))
   go_wp2_with (go_at_call 99;(with_reducible refine(b_has i _).mono ?_);rintro e wz ⟨rfl,rfl⟩;rw[HQX.out])
   go_ret2
   exact HN.out _ (H4.out.weaken (A:=[_,_,_]))
  | true=>
   have hi2:=(ul i).1 HQX.out
   by_cases hia:i=t.act
   ·have b1:(i==t.act)=true:=by simpa using hia
    have HN:=za (HNO.out (fun x=>by rw[←HLC.out]at x;exact x.2.2.1 hia));clear hia hi2
    go_wp2_with (go_at_call 99;(with_reducible refine(b_has i _).mono ?_);rintro e wz ⟨rfl,rfl⟩;rw[HQX.out])
    go_ret2
    exact HN.out _ (H4.out.weaken (A:=[_,_,_]))
   ·have b1:(i==t.act)=false:=by simpa using hia
    have HIA:=za hia;obtain⟨q,hq⟩:∃q,((t.at_ i).st==1)=q:=⟨_,rfl⟩;have ki:=KI.out _ _ hi2 H4.out;rw[hq]at ki;have KI3:=za ki;have HQ:=za hq;clear ki hq hia hi2
    go_wp2_with (first|(go_at_call 99;(with_reducible refine(b_has i _).mono ?_);rintro e wz ⟨rfl,rfl⟩;rw[HQX.out])|(with_reducible refine zb 30 rfl (by kernel_rfl) 161 (.tmp 8) rfl gv 0 rfl C _ VALL.out Tryz.underlying161 rfl HVI.out ?_))
    refine KI3.out.mono ?_;rintro e w5 ⟨rfl,h5⟩;obtain⟨r5,c5⟩:=SV.out _ _ h5 (by simp);have H5:=za h5;have R5:=za r5;clear h5 r5
    cases q with
    | false=>
     have HN:=za (HNO.out (fun x=>by rw[←HLC.out]at x;have h:=HQ.out;rw[x.2.2.2.1]at h;simp at h));go_wp2_with fail
     go_ret2
     exact HN.out _ (H5.out.weaken (A:=[_,_,_]))
    | true=>
     go_wp2_with (with_reducible refine zb 36 rfl (by kernel_rfl) 26 (.tmp 5) rfl (g+1) 0 rfl S _ R5.out Tryz.underlying26 rfl HSI.out ?_)
     refine(KS.out _ _ H5.out).mono ?_;rintro e w6 ⟨rfl,h6⟩;clear c5;obtain⟨r6,c6⟩:=SV.out _ _ h6 (by simp);have H6:=za h6;have R6:=za r6;clear h6 r6
     cases RS with
     | false=>
      have HN:=za (HNO.out (fun x=>by rw[←HLC.out]at x;cases x.2.2.2.2.1));go_wp2_with fail
      go_ret2
      exact HN.out _ (H6.out.weaken (A:=[_,_,_]))
     | true=>
      by_cases hs2:st=2
      ·have b2:(st != 2)=false:=by simp[hs2]
       have HY:=za (HYES.out (by rw[←HLC.out];exact⟨by trivial,by trivial,HIA.out,by simpa using HQ.out,by trivial,hs2⟩));have KE6:=za (KE.out _ _ H6.out);clear hs2
       go_wp2_with (with_reducible refine zb 46 rfl (by kernel_rfl) 26 (.tmp 5) rfl (g+1) 0 rfl S _ R6.out Tryz.underlying26 rfl HSI.out ?_)
       refine KE6.out.mono ?_;rintro e w7 ⟨rfl,h7⟩;have KB7:=za (KB.out _ _ h7);clear h7 c6 KE6;go_wp2_with fail;refine KB7.out.mono ?_;rintro e w8 ⟨rfl,h8⟩;have h9:=h8.alloc (.cells (C1++C2) 147);have H9:=za (St.mid (A:=[_]) (B:=[_,_,_]) h9);clear h8 h9 KB7;go_wp2_with fail
       go_ret2
       exact HY.out _ _ H9.out
      ·have b2:(st != 2)=true:=by simpa using hs2
       have HN:=za (HNO.out (fun x=>by rw[←HLC.out]at x;exact hs2 x.2.2.2.2.2));clear hs2;go_wp2_with fail
       go_ret2
       exact HN.out _ (H6.out.weaken (A:=[_,_,_]))
end
end Go.Proofs.YtnjnooeldkideaaGreatDoor
