/- table: a transaction. -/
import Derived.Test.YtnjnooeldkideaaGreatDoorOrR
namespace Go.Proofs.YtnjnooeldkideaaGreatDoor
set_option maxRecDepth 100000
set_option maxHeartbeats 8000000
set_option linter.unusedVariables false
set_option linter.unusedSimpArgs false
open Go.RowKit Go.Lib Go.Deep
section
variable {W w:World} {J:Nat→Option Obj} {t:Tb} {F:List (Nat × Obj)}
inductive FormC:Cg→Prop
 | set (i:Int) (s:Slt) (h0:-9223372036854775808≤i) (h1:i≤9223372036854775807) (ok:s.Ok):FormC (setC i s)
 | act (i:Int) (h0:-9223372036854775808≤i) (h1:i≤9223372036854775807):FormC (actC i)
 | boo (i:Int) (h0:-9223372036854775808≤i) (h1:i≤9223372036854775807):FormC (booC i)
 | flo (i:Int) (h0:0≤i) (h1:i≤18446744073709551615):FormC (floC i)
def crT (c:Cg):Bool:=if c.kind=1 then ixB c.slot&&rightS c.tos else if c.kind=2 then ixB c.n else if c.kind=3 then c.n==-1||ixB c.n else decide (c.ver≤281474976710656)
theorem FormC.tos {c:Cg} (h:FormC c):c.tos.Ok:=by
 cases h with
 | set i s h0 h1 ok=>exact ok
 | act=>exact zS_ok
 | boo=>exact zS_ok
 | flo=>exact zS_ok
theorem cr_any {c:Cg} (hf:FormC c) (h:St W w J F):Calls Tryz.prog 118 #[c.val] w fun e w'=>e=.returned (.bool (crT c))∧St W w' J F:=by
 cases hf with
 | set i s h0 h1 ok=>exact cr_set i s ok h0 h1 h
 | act i h0 h1=>exact cr_act i h0 h1 h
 | boo i h0 h1=>exact cr_boo i h0 h1 h
 | flo i h0 h1=>exact cr_flo i h0 h1 h
theorem cgs_len:∀(cs:List Cg),(∀c∈cs,FormC c)→(cgs cs).length=cs.length*40
 | [],_=>rfl
 | c::cs,h=>by
  have ih:=cgs_len cs (fun d hd=>h d (List.mem_cons_of_mem _ hd));have h0:=Cg.size (h c (List.mem_cons_self ..)).tos
  show(c.cells.toList++cgs cs).length=_
  rw[List.length_append,ih,Array.length_toList,h0,List.length_cons]
  omega
theorem cgs_get:∀(cs:List Cg),(∀c∈cs,FormC c)→∀(k:Nat) (x:Cg),cs[k]?=some x→∀j,j < 40→(cgs cs)[k*40+j]?=x.cells[j]?
 | [],_,k,x,h,_,_=>by simp at h
 | c::cs,h,0,x,hx,j,hj=>by
  have h0:=Cg.size (h c (List.mem_cons_self ..)).tos;simp only[List.getElem?_cons_zero,Option.some.injEq]at hx;subst hx
  show(c.cells.toList++cgs cs)[0*40+j]?=_
  rw[List.getElem?_append_left (by rw[Array.length_toList,h0];omega)]
  simp
 | c::cs,h,k+1,x,hx,j,hj=>by
  have h0:=Cg.size (h c (List.mem_cons_self ..)).tos;have ih:=cgs_get cs (fun d hd=>h d (List.mem_cons_of_mem _ hd)) k x (by simpa using hx) j hj
  show(c.cells.toList++cgs cs)[(k+1)*40+j]?=_
  rw[List.getElem?_append_right (by rw[Array.length_toList,h0];omega),←ih,Array.length_toList,h0]
  congr 1
  omega
theorem zba {cs:List Cg} {A:Option Addr} {n c:Nat} {L:List (Nat × Obj)} (hf:∀c∈cs,FormC c) (hr:Row 147 40 (.slice A n c) n (cgs cs) L):n=cs.length∧∀(k:Nat) (x:Cg),cs[k]?=some x→∃g off cur,A=some ⟨g,off,none⟩∧L=[(g,.cells cur 147 (0,0))]∧∀j,j < 40→cur[off+k*40+j]?=x.cells[j]?:=by
 have h1:=hr.1;rw[cgs_len cs hf]at h1;refine⟨by omega,fun k x hx=>?_⟩;have hc:=Cg.size (hf x (List.mem_of_getElem? hx)).tos;have hg:=cgs_get cs hf k x hx;obtain⟨g,off,cap,cur,hv,hL,-⟩:=hr.cells ((hg 0 (by omega)).trans (Array.getElem?_eq_getElem (by omega)))
 injection hv with e1 e2 e3
 refine⟨g,off,cur,e1,hL,fun j hj=>?_⟩;obtain⟨g',off',cap',cur',hv',hL',hu⟩:=hr.cells ((hg j hj).trans (Array.getElem?_eq_getElem (by omega)))
 injection hv' with a1 a2 a3
 rw[e1]at a1
 injection a1 with a1
 injection a1 with a4 a5
 rw[hL]at hL'
 injection hL' with b1 b2
 injection b1 with b3 b4
 injection b4 with b5 b6 b7
 subst b5 a5;rw[Nat.add_assoc,hu,←Array.getElem?_eq_getElem]
theorem b_trans {cs:List Cg} {A:Option Addr} {n c:Nat} {L:List (Nat × Obj)} (hf:∀c∈cs,FormC c) (hr:Row 147 40 (.slice A n c) n (cgs cs) L) (h8:cs.length≤8) (h:St W w J (L++F)) :
  Calls Tryz.prog 93 #[.slice A n c] w fun e w'=>e=.returned (.bool (cs.all crT))∧St W w' J (L++F):=by
 obtain⟨hn,hrow⟩:=zba hf hr
 have kc:=fun(x:Cg) (hx:FormC x) (v:World) (X:List (Nat × Obj)) (hv:St W v J X)=>cr_any hx hv
 obtain⟨V,hV⟩:∃V,cs.all crT=V:=⟨_,rfl⟩
 have hT:(∀j x,cs[j]?=some x→crT x=true)→V=true:=fun hh=>by
  rw[←hV,List.all_eq_true];intro x hx;obtain⟨j,hj⟩:=List.getElem?_of_mem hx;exact hh j x hj
 have hF:∀j x,cs[j]?=some x→crT x=false→V=false:=fun j x hj hx=>by
  rw[←hV,List.all_eq_false];exact⟨x,List.mem_of_getElem? hj,by rw[hx];decide⟩
 rw[hV];have HT:=za hT;have HF:=za hF;have KC:=za kc;have HROW:=za hrow;have HFC:=za hf;have H0:=za h
 have n8:(n:Int)≤8:=by omega
 have HN:=za hn;clear hT hF kc hrow hf h hV hr h8 hn
 go_enter Tryz.func93,Tryz.ntmps93
 go_wp2_with fail
 go_loopw [10] (fun i wr=>∃k:Nat,i=.int .i64 k∧k≤n∧(∀j x,j < k→cs[j]?=some x→crT x=true)∧St W wr J (L++F)) (fun i _=>n-(intOf i).toNat)
 case atStart=>exact⟨0,rfl,by omega,fun j x hj=>by omega,H0.out⟩
 case round=>
  obtain⟨k,rfl,hk,hall,hst⟩:=hrel;clear H0
  by_cases hlt:k < n
  ·have hltI:(k:Int) < (n:Int):=by omega
   have k0:¬(k:Int) < 0:=by omega
   have hlt2:k < cs.length:=by rw[←HN.out];exact hlt
   obtain⟨x,hx⟩:∃x,cs[k]?=some x:=⟨_,List.getElem?_eq_getElem hlt2⟩;obtain⟨gA,off,cur,rfl,rfl,hcell⟩:=HROW.out k x hx;have hfx:=HFC.out x (List.mem_of_getElem? hx);have hsz:=Cg.size hfx.tos;have hin:=k8 hfx.tos;have hon:=Cg.one x
   have rg:∀(v:World) (X:List (Nat × Obj)),St W v J X→(gA,Obj.cells cur 147 (0,0))∈X→v.rangeAt gA (off+k*40) x.cells.toList:=fun v X hv hm j u hj=>by
    have hl:j < 40:=by have:=(List.getElem?_eq_some_iff.1 hj).1;rw[Array.length_toList,hsz]at this;exact this
    rw[hv.cell hm (off+k*40+j),hcell j hl];simpa using hj
   have rg2:∀(v:World) (X:List (Nat × Obj)) (b:Nat),St W v J X→(b,Obj.cells x.cells 147 (0,0))∈X→v.rangeAt b 0 x.cells.toList:=fun v X b hv hm j u hj=>by
    rw[Nat.zero_add,hv.cell hm j];simpa using hj
   have kx:=fun(v:World) (X:List (Nat × Obj)) (hv:St W v J X)=>KC.out x hfx v X hv
   obtain⟨B,hB⟩:∃B,crT x=B:=⟨_,rfl⟩;unfold Cg.val at kx;rw[hB]at kx;have hF:=HF.out k x hx
   have hT2:crT x=true→∀j y,j < k+1→cs[j]?=some y→crT y=true:=fun hc j y hj hy=>by
    by_cases hjk:j=k
    ·subst hjk;rw[hx]at hy;injection hy with hy;subst hy;exact hc
    ·exact hall j y (by omega) hy
   rw[hB]at hF hT2;obtain⟨X,hX⟩:∃X,x.cells=X:=⟨_,rfl⟩;rw[hX]at hsz hin hon rg rg2 kx
   have hfit:0+X.size≤(zbi).size:=by rw[hsz];decide
   have hmany:zg zbi 0 X.toList=X:=by rw[zd _ _ (by rw[Array.length_toList,hsz];rfl),Array.toArray_toList]
   have RG:=za (rg _ _ hst (by simp));have RG2:=za rg2;have KX:=za kx;have HIN:=za hin;have HON:=za hon;have HFIT:=za hfit;have HMANY:=za hmany;have HFX:=za hF;have HTX:=za hT2;have HST:=za (hst.alloc (.cells zbi 147));have HALL:=za hall;clear hst rg rg2 kx hin hon hfit hmany hF hT2 hX hB hx hfx hcell hall HROW HFC HF KC
   go_wp2_with (first|(with_reducible refine zb 13 rfl (by kernel_rfl) 147 (.tmp 12) rfl gA (off+k*40) rfl X _ RG.out Tryz.underlying147 rfl HIN.out ?_)|(with_reducible refine zc rfl 147 (.tmp 4) (.tmp 13) rfl (g:=wr.heap.size) (off:=0) X rfl rfl HST.out HFIT.out HIN.out HON.out ?_;intro w4 h4;refine Hid.out ?_))
   refine za ?_;rw[HMANY.out]at h4;obtain⟨g4,hg4⟩:∃y,wr.heap.size=y:=⟨_,rfl⟩;rw[hg4]at h4 ⊢;have R4:=za (RG2.out _ _ g4 h4 (List.mem_cons_self ..));have KX4:=za (KX.out _ _ h4);clear h4 HST RG
   go_wp2_with (with_reducible refine zb 14 rfl (by kernel_rfl) 147 (.tmp 4) rfl g4 0 rfl X _ R4.out Tryz.underlying147 rfl HIN.out ?_)
   refine KX4.out.mono ?_;rintro e w5 ⟨rfl,h5⟩;have H5:=za (h5.weaken (A:=[_]));clear h5 KX4 R4
   cases B with
   | false=>
    have HV:=za (HFX.out rfl);go_wp2_with fail;go_ret;exact⟨congrArg (fun b=>Ending.returned (Value.bool b)) HV.out.symm,H5.out⟩
   | true=>
    have hrel:=HTX.out rfl;have HREL:=za hrel;clear hrel HTX HALL;go_wp2_with fail
    go_roundw
    case rel=>exact⟨k+1,by go_num,by omega,HREL.out,H5.out⟩
    case measure=>simp[intOf];omega
  ·have hge:¬(k:Int) < (n:Int):=by omega
   have HV:=za (HT.out (fun j x hj=>hall j x (by have:=(List.getElem?_eq_some_iff.1 hj).1;rw[←HN.out]at this;omega) hj));have HST:=za hst;clear hst hall HT HF HROW HFC KC;go_wp2_with fail;go_ret;exact⟨congrArg (fun b=>Ending.returned (Value.bool b)) HV.out.symm,HST.out⟩
end
end Go.Proofs.YtnjnooeldkideaaGreatDoor
