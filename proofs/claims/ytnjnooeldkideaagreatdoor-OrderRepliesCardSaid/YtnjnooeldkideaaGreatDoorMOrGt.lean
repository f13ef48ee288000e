/- the laws' great: is that too much to be looked at? the laws' tooGreat. order: the laws' arguments. -/
import Derived.Test.YtnjnooeldkideaaGreatDoorMOrLd
import Derived.Test.YtnjnooeldkideaaGreatDoorMOrAc
import Derived.OwnWalk
import Derived.Test.YtnjnooeldkideaaGreatDoorArgs
namespace Go.Proofs.YtnjnooeldkideaaGreatDoor
set_option maxRecDepth 100000
set_option maxHeartbeats 16000000
section
set_option linter.unusedVariables false
set_option linter.unusedSimpArgs false
open Go.RowKit Go.Lib Go.Deep
section
variable {W w:World} {J:Nat→Option Obj} {t:Tb} {F:List (Nat × Obj)}
variable {nA lA pA:Option Addr} {nc lc pc:Nat} {nms:List ByteArray} {es:List En} {ss:List Sp} {t:Tb} {Ln Le Lp:List (Nat × Obj)}
structure En.Fit (e:En):Prop where
 rep:e.rep.t.Ok
 slot:e.slot.Ok
theorem En.Fit.size {e:En} (ok:e.Fit):e.cells.size=126:=by
 have h:=Ry.size ok.rep;have h2:=ok.slot.len;have h3:=Cl.size e.call
 simp[En.cells,h,h2,h3]
theorem Sp.size' {x:Sp} (ok:x.rep.t.Ok):x.cells.size=88:=by
 have h:=Ry.size ok;have h3:=Cl.size x.call
 simp[Sp.cells,h,h3]
theorem en_info' {e:En} (ok:e.Fit):(Tryz.prog.info? 54).map (·.size)=some e.cells.size:=by rw[ok.size];kernel_rfl
theorem En.name_at (e:En):e.cells[6]?=some (.string e.call.name):=rfl
theorem Sp.name_at (x:Sp):x.cells[7]?=some (.string x.call.name):=rfl
def bigN (ns:List ByteArray):Bool:=ns.any fun s=>decide (200 < s.size)
def bigE (es:List En):Bool:=es.any fun e=>decide (200 < e.call.name.size)
def zbf (t:Tb) (nms:List ByteArray) (es:List En):Bool:=!zx t||(decide (10 < nms.length)||(decide (60 < es.length)||(bigN nms||bigE es)))
theorem law_great (tok:t.Ok) (hnm:Rd W J Ln 1 nA (y2 nms)) (hnl:∀p∈Ln,p∈F) (hre:Rd W J Le 126 lA (zak es)) (hle:∀p∈Le,p∈F) (hn63:nms.length≤9223372036854775807) (he63:es.length≤9223372036854775807) (efit:∀e∈es,e.Fit) (h:St W w J F) :
  Calls Tryz.prog 13 #[t.val,.slice nA nms.length nc,.slice lA es.length lc] w fun e w'=>e=.returned (.bool (zbf t nms es))∧St W w' J F:=by
 have h1:=h.alloc (.cells t.cells 29);obtain⟨g,hg⟩:∃g,w.heap.size=g:=⟨_,rfl⟩;rw[hg]at h1
 have ra:(w.alloc (.cells t.cells 29)).rangeAt g 0 t.cells.toList:=fun j u hj=>by rw[Nat.zero_add,h1.cell (g:=g) (List.mem_cons_self ..) j];simpa using hj
 have ti:=z7 tok
 have kr:=fun(v:World) (X:List (Nat × Obj)) (hv:St W v J X)=>jm t tok hv
 obtain⟨R,hR⟩:∃R,zbf t nms es=R:=⟨_,rfl⟩;have hR2:=hR;unfold zbf at hR2;rw[hR];obtain⟨rt,hrt⟩:∃y,zx t=y:=⟨_,rfl⟩;rw[hrt]at hR2 kr;obtain⟨NN,hNN⟩:∃y,nms.length=y:=⟨_,rfl⟩;obtain⟨NE,hNE⟩:∃y,es.length=y:=⟨_,rfl⟩;rw[hNN]at hR2 hn63 ⊢;rw[hNE]at hR2 he63 ⊢;unfold Tb.val at *;obtain⟨CT,hCT⟩:∃y,t.cells=y:=⟨_,rfl⟩;rw[hCT]at h1 ra ti kr ⊢
 have fin:∀(z:Bool) (v:World) (D:List (Nat × Obj)),R=z→St W v J (D++((g,.cells CT 29 (0,0))::F))→(Ending.returned (.bool z)=.returned (.bool R)∧St W v J F):=fun z v D hz hv=>⟨by rw[hz],hv.keep (D++[(g,.cells CT 29 (0,0))]) (fun i a=>by simp only[List.count_append,List.count_cons,List.count_nil];omega)⟩
 have FIN:=za fin;have RA:=za ra;have TI:=za ti;have KR:=za (kr _ _ h1);have HR2:=za hR2;have HNM:=za hnm;have HNL:=za hnl;have HRE:=za hre;have HLE:=za hle;have HNN:=za hNN;have HNE:=za hNE;have EFIT:=za efit;clear fin ra ti kr hR2 hnm hnl hre hle hNN hNE efit h1 h hR hrt hCT tok
 go_enter Tryz.func13,Tryz.ntmps13
 go_wp2_with (with_reducible refine zb 11 rfl (by kernel_rfl) 29 (.tmp 3) rfl g 0 rfl CT _ RA.out Tryz.underlying29 rfl TI.out ?_)
 refine KR.out.mono ?_;rintro e w2 ⟨rfl,h2⟩;have H2:=za h2;clear h2 KR RA
 cases rt with
 | false=>
  have HF:=za (FIN.out true _ [] (by rw[←HR2.out];rfl) H2.out);go_wp2_with fail;go_ret;exact HF.out
 | true=>
  by_cases h10:10 < NN
  ·have b10:decide ((NN:Int) > 10)=true:=by simp;omega
   have HF:=za (FIN.out true _ [] (by rw[←HR2.out];simp[h10]) H2.out);go_wp2_with fail;go_ret;exact HF.out
  ·have b10:decide ((NN:Int) > 10)=false:=by simp;omega
   by_cases h60:60 < NE
   ·have b60:decide ((NE:Int) > 60)=true:=by simp;omega
    have HF:=za (FIN.out true _ [] (by rw[←HR2.out];simp[h60]) H2.out);go_wp2_with fail;go_ret;exact HF.out
   ·have b60:decide ((NE:Int) > 60)=false:=by simp;omega
    have HR3:=za (show(bigN nms||bigE es)=R by rw[←HR2.out];simp[h10,h60]);clear HR2;go_wp2_with fail
    go_loopw [26] (fun v wr=>∃k:Nat,v=.int .i64 (k:Int)∧k≤NN∧bigN (nms.take k)=false∧St W wr J ((g,.cells CT 29 (0,0))::F)) (fun v _=>NN-(intOf v).toNat)
    case atStart=>exact⟨0,rfl,by omega,by simp[bigN],H2.out⟩
    case round=>
     obtain⟨k,rfl,hk,hb,hst⟩:=hrel;clear H2
     by_cases hkl:k < NN
     ·obtain⟨sx,hsx⟩:∃o,nms[k]?=some o:=⟨_,List.getElem?_eq_getElem (by rw[HNN.out];exact hkl)⟩
      obtain⟨b,off,rfl,hcell⟩:=HNM.out.at_ wr _ hst (fun p hp=>by simp[HNL.out p hp]) k [.string sx] (by unfold y2;rw[List.getElem?_map,hsx];rfl);have c0:=hcell 0 _ rfl;rw[Nat.mul_one,Nat.add_zero]at c0;have hnx:=any_take_succ (fun s:ByteArray=>decide (200 < s.size)) hsx;have hany:=any_of_take (fun s:ByteArray=>decide (200 < s.size)) hsx;have H3:=za hst;have HNX:=za hnx;have HANY:=za hany;clear hst hcell hnx hany
      by_cases h2:200 < sx.size
      ·have b2:decide ((sx.size:Int) > 200)=true:=by simp;omega
       have HF:=za (FIN.out true _ [] (by rw[←HR3.out,show bigN nms=true from HANY.out (by simpa using h2)];rfl) H3.out);clear hsx;go_wp2_with fail;go_ret;exact HF.out
      ·have b2:decide ((sx.size:Int) > 200)=false:=by simp;omega
       have HN1:=za (show bigN (nms.take (k+1))=false from by
        have q:=HNX.out;unfold bigN at hb ⊢;rw[q,hb,Bool.false_or]
        simpa using h2)
       clear hsx;go_wp2_with fail
       go_roundw
       case rel=>exact⟨k+1,by go_num,by omega,HN1.out,H3.out⟩
       case measure=>simp[intOf];omega
     ·obtain rfl:k=NN:=by omega
      rw[←HNN.out,List.take_length]at hb;have HR4:=za (show bigE es=R by rw[←HR3.out,hb,Bool.false_or]);have H3:=za hst;clear hst hb HR3;go_wp2_with fail
      go_loopw [36] (fun v wr=>∃k:Nat,v=.int .i64 (k:Int)∧k≤NE∧bigE (es.take k)=false∧St W wr J ((g,.cells CT 29 (0,0))::F)) (fun v _=>NE-(intOf v).toNat)
      case atStart=>exact⟨0,rfl,by omega,by simp[bigE],H3.out⟩
      case round=>
       obtain⟨j,rfl,hj,hb,hst⟩:=hrel;clear H3
       by_cases hjl:j < NE
       ·obtain⟨x,hx⟩:∃o,es[j]?=some o:=⟨_,List.getElem?_eq_getElem (by rw[HNE.out];exact hjl)⟩
        obtain⟨b,off,rfl,hr⟩:=HRE.out.en _ _ hst (fun p hp=>by simp[HLE.out p hp]) j x hx;have xok:=EFIT.out x (List.mem_of_getElem? hx);have xi:=en_info' xok;have xsz:=xok.size;have xo:=En.one x;have xn:=x.name_at;have h2:=hst.alloc (.cells Tryz.zeroCells54 54);have hnx:=any_take_succ (fun e:En=>decide (200 < e.call.name.size)) hx;have hany:=any_of_take (fun e:En=>decide (200 < e.call.name.size)) hx;obtain⟨X,hX⟩:∃X,x.cells=X:=⟨_,rfl⟩;obtain⟨sx,hsx⟩:∃y,x.call.name=y:=⟨_,rfl⟩;rw[hX]at hr xi xsz xo xn;rw[hsx]at xn;simp only[hsx]at hnx hany
        have xfit:0+X.size≤Tryz.zeroCells54.size:=by rw[xsz,zent];omega
        have xmany:zg Tryz.zeroCells54 0 X.toList=X:=by rw[zd _ _ (by rw[Array.length_toList,xsz,zent]),Array.toArray_toList]
        have HRX:=za hr;have XI:=za xi;have XO:=za xo;have XF:=za xfit;have XM:=za xmany;have H2:=za h2;have HNX:=za hnx;have HANY:=za hany;have XN:=za xn;clear hst hr xi xo xsz xfit xmany h2 hnx hany xok hX hsx hx xn
        go_wp2_with (first|(with_reducible refine zb 39 rfl (by kernel_rfl) 54 (.tmp 38) rfl b (off+j*126) rfl X _ HRX.out Tryz.underlying54 rfl XI.out ?_)|(with_reducible refine zc rfl 54 (.tmp 10) (.tmp 39) rfl (g:=wr.heap.size) (off:=0) X rfl rfl H2.out XF.out XI.out XO.out ?_;intro w3 h3;refine Hid.out ?_))
        refine za ?_;rw[XM.out]at h3;obtain⟨gx,hgx⟩:∃y,wr.heap.size=y:=⟨_,rfl⟩;rw[hgx]at h3 ⊢;have c6:=(h3.cell (g:=gx) (cs:=X) (t:=54) (fr:=(0,0)) (List.mem_cons_self ..) 6).trans XN.out;have H3:=za h3;clear h3 H2 HRX hgx
        by_cases h2:200 < sx.size
        ·have b2:decide ((sx.size:Int) > 200)=true:=by simp;omega
         have HF:=za (FIN.out true _ [(gx,.cells X 54 (0,0))] (by rw[←HR4.out];exact HANY.out (by simpa using h2)) H3.out);go_wp2_with fail;go_ret;exact HF.out
        ·have b2:decide ((sx.size:Int) > 200)=false:=by simp;omega
         have HN1:=za (show bigE (es.take (j+1))=false from by
          have q:=HNX.out;unfold bigE at hb ⊢;rw[q,hb,Bool.false_or]
          simpa using h2)
         go_wp2_with fail
         go_roundw
         case rel=>exact⟨j+1,by go_num,by omega,HN1.out,H3.out.weaken (A:=[_])⟩
         case measure=>simp[intOf];omega
       ·obtain rfl:j=NE:=by omega
        rw[←HNE.out,List.take_length]at hb;have HF:=za (FIN.out false _ [] (by rw[←HR4.out];exact hb) hst);clear hst hb;go_wp2_with fail;go_ret;exact HF.out
end
end

section
set_option linter.unusedVariables false
set_option linter.unusedSimpArgs false
open Go.RowKit Go.Lib Go.Deep
section
variable {W w:World} {J:Nat→Option Obj} {t:Tb} {F:List (Nat × Obj)}
variable {nA lA pA:Option Addr} {nc lc pc:Nat} {nms:List ByteArray} {es:List En} {ss:List Sp} {t:Tb} {Ln Le Lp:List (Nat × Obj)}
end
end

section
set_option linter.unusedVariables false
set_option linter.unusedSimpArgs false
set_option linter.unnecessarySimpa false
open Go.RowKit Go.Lib Go.Shelf Go.Deep
instance:Inhabited En:=⟨⟨0,0,⟨0,0,0,0,⟨#[]⟩⟩,⟨0,0,0,0,0,zTb⟩,0,0,0,zS⟩⟩
instance:Inhabited Sp:=⟨⟨0,0,0,⟨0,0,0,0,⟨#[]⟩⟩,⟨0,0,0,0,0,zTb⟩⟩⟩
structure En.Pre (e:En):Prop where
 fit:e.Fit
 ok:e.call.name.size≤1000000000→e.Ok
structure Sp.Pre (x:Sp):Prop where
 fit:x.rep.t.Ok
 ok:x.call.name.size≤1000000000→x.Ok
section
variable {H:Type} {enc:TypeId × Value→H} {W:World}
theorem cel_hash {cs:List Value} (h:Cel enc Tryz.prog W 24 cs):∃xs:List UInt8,xs.length=32∧cs=xs.map bval:=by
 obtain⟨hl,hf⟩:=h.array_ Tryz.underlying24
 have hl:cs.length=32:=by rw[hl];kernel_rfl
 have c8:Tryz.prog.cellsOf 5=1:=by kernel_rfl
 rw[c8]at hf
 have key:∀i,i < 32→∃b:UInt8,cs[i]?=some (bval b):=by
  intro i hi;have h1:Cel enc Tryz.prog W 5 ((cs.drop (i*1)).take 1):=hf i hi;rw[Nat.mul_one]at h1;obtain⟨b,hb⟩:=h1.byte Tryz.underlying5;have h3:=congrArg (fun l=>l[0]?) hb;exact⟨b,by simpa[List.getElem?_take,List.getElem?_drop] using h3⟩
 obtain⟨f,hf'⟩:=choose_lt key;refine⟨(List.range 32).map f,by simp,?_⟩;apply List.ext_getElem?;intro i
 by_cases hi:i < 32
 ·rw[hf' i hi,List.getElem?_map,List.getElem?_map,List.getElem?_range hi]
  rfl
 ·rw[List.getElem?_eq_none (by omega),List.getElem?_eq_none (by simp;omega)]
theorem Cel.slot {cs:List Value} (h2:Cel enc Tryz.prog W 26 cs):∃s:Slt,cs=s.cells.toList∧s.Ok:=by
 obtain⟨hl,hf⟩:=h2.struct_ Tryz.underlying26
 have hl:cs.length=36:=by rw[hl];kernel_rfl
 have f0:Cel enc Tryz.prog W 3 ((cs.drop 0).take (Tryz.prog.cellsOf 3)):=hf 0 _ rfl;have f1:Cel enc Tryz.prog W 3 ((cs.drop 1).take (Tryz.prog.cellsOf 3)):=hf 1 _ rfl;have f2:Cel enc Tryz.prog W 22 ((cs.drop 2).take (Tryz.prog.cellsOf 22)):=hf 2 _ rfl;have f3:Cel enc Tryz.prog W 3 ((cs.drop 3).take (Tryz.prog.cellsOf 3)):=hf 3 _ rfl;have f4:Cel enc Tryz.prog W 24 ((cs.drop 4).take (Tryz.prog.cellsOf 24)):=hf 4 _ rfl;rw[show Tryz.prog.cellsOf 3=1 by kernel_rfl]at f0 f1 f3;rw[show Tryz.prog.cellsOf 22=1 by kernel_rfl]at f2;rw[show Tryz.prog.cellsOf 24=32 by kernel_rfl]at f4;obtain⟨n0,e0,w0⟩:=f0.int Tryz.underlying3;obtain⟨n1,e1,w1⟩:=f1.int Tryz.underlying3;obtain⟨n2,e2,w2⟩:=f2.int Tryz.underlying22;obtain⟨n3,e3,w3⟩:=f3.int Tryz.underlying3;obtain⟨ds,hd,e4⟩:=cel_hash f4;obtain⟨a0,b0⟩:=jc w0;obtain⟨a1,b1⟩:=jc w1;obtain⟨a3,b3⟩:=jc w3
 have w2':0≤n2∧n2≤18446744073709551615:=by
  simp[Lit.wf,IntKind.min,IntKind.max,IntKind.signed,IntKind.bits]at w2
  exact w2
 refine⟨⟨n0,n1,n2,n3,ds⟩,?_,⟨hd,a0,b0,a1,b1,w2'.1,w2'.2,a3,b3⟩⟩
 have hcs:cs=[.int .i64 n0,.int .i64 n1,.int .u64 n2,.int .i64 n3]++ds.map bval:=by
  have e5:cs=(cs.drop 0).take 1++((cs.drop 1).take 1++((cs.drop 2).take 1++((cs.drop 3).take 1++(cs.drop 4).take 32))):=by
   have a:∀k,cs.drop k=(cs.drop k).take 1++cs.drop (k+1):=fun k=>by
    have h:=(List.take_append_drop 1 (cs.drop k)).symm
    rwa [List.drop_drop]at h
   have b:(cs.drop 4).take 32=cs.drop 4:=List.take_of_length_le (by rw[List.length_drop];omega);rw[b];exact(a 0).trans (congrArg _ ((a 1).trans (congrArg _ ((a 2).trans (congrArg _ (a 3))))))
  rw[e5,e0,e1,e2,e3,e4]
  rfl
 unfold Slt.cells;rw[hcs]
theorem Cel.table {cs:List Value} (h:Cel enc Tryz.prog W 29 cs):∃t:Tb,cs=t.cells.toList∧t.Ok:=by
 obtain⟨hl,hf⟩:=h.struct_ Tryz.underlying29
 have hl:cs.length=75:=by rw[hl];kernel_rfl
 have f0:Cel enc Tryz.prog W 27 ((cs.drop 0).take (Tryz.prog.cellsOf 27)):=hf 0 _ rfl;have f1:Cel enc Tryz.prog W 3 ((cs.drop 72).take (Tryz.prog.cellsOf 3)):=hf 1 _ rfl;have f2:Cel enc Tryz.prog W 3 ((cs.drop 73).take (Tryz.prog.cellsOf 3)):=hf 2 _ rfl;have f3:Cel enc Tryz.prog W 22 ((cs.drop 74).take (Tryz.prog.cellsOf 22)):=hf 3 _ rfl;rw[show Tryz.prog.cellsOf 27=72 by kernel_rfl]at f0;rw[show Tryz.prog.cellsOf 3=1 by kernel_rfl]at f1 f2;rw[show Tryz.prog.cellsOf 22=1 by kernel_rfl]at f3;obtain⟨_,ha⟩:=f0.array_ Tryz.underlying27;have g0:=ha 0 (by decide);have g1:=ha 1 (by decide);rw[show Tryz.prog.cellsOf 26=36 by kernel_rfl]at g0 g1;obtain⟨s0,e0,o0⟩:=Cel.slot g0;obtain⟨s1,e1,o1⟩:=Cel.slot g1;obtain⟨a,e2,w2⟩:=f1.int Tryz.underlying3;obtain⟨b,e3,w3⟩:=f2.int Tryz.underlying3;obtain⟨c,e4,w4⟩:=f3.int Tryz.underlying22
 have w4':0≤c∧c≤18446744073709551615:=by
  simp[Lit.wf,IntKind.min,IntKind.max,IntKind.signed,IntKind.bits]at w4
  exact w4
 refine⟨⟨s0,s1,a,b,c⟩,?_,o0,o1,(jc w2).1,(jc w2).2,(jc w3).1,(jc w3).2,w4'.1,w4'.2⟩
 have cut:∀k n,cs.drop k=(cs.drop k).take n++cs.drop (k+n):=fun k n=>by
  have h:=(List.take_append_drop n (cs.drop k)).symm
  rwa [List.drop_drop]at h
 have c0:=cut 0 36;have c1:=cut 36 36;have c2:=cut 72 1;have c3:=cut 73 1;have c4:=cut 74 1;have c5:cs.drop 75=[]:=List.drop_eq_nil_of_le (by omega)
 have x0:(cs.drop 0).take 36=s0.cells.toList:=by
  rw[←e0,Nat.zero_mul,List.drop_zero,List.drop_zero,List.take_take]
  rfl
 have x1:(cs.drop 36).take 36=s1.cells.toList:=by
  rw[←e1,Nat.one_mul,List.drop_zero,List.drop_take,List.take_take]
  rfl
 rw[show cs=cs.drop 0 from rfl,c0,x0,c1,x1,c2,e2,c3,e3,c4,e4,c5]
 rfl
theorem Cel.reply {cs:List Value} (h:Cel enc Tryz.prog W 52 cs):∃r:Ry,cs=r.cells.toList∧r.Ok:=by
 obtain⟨hl,hf⟩:=h.struct_ Tryz.underlying52
 have hl:cs.length=80:=by rw[hl];kernel_rfl
 have f0:Cel enc Tryz.prog W 37 ((cs.drop 0).take (Tryz.prog.cellsOf 37)):=hf 0 _ rfl;have f1:Cel enc Tryz.prog W 3 ((cs.drop 1).take (Tryz.prog.cellsOf 3)):=hf 1 _ rfl;have f2:Cel enc Tryz.prog W 3 ((cs.drop 2).take (Tryz.prog.cellsOf 3)):=hf 2 _ rfl;have f3:Cel enc Tryz.prog W 3 ((cs.drop 3).take (Tryz.prog.cellsOf 3)):=hf 3 _ rfl;have f4:Cel enc Tryz.prog W 37 ((cs.drop 4).take (Tryz.prog.cellsOf 37)):=hf 4 _ rfl;have f5:Cel enc Tryz.prog W 29 ((cs.drop 5).take (Tryz.prog.cellsOf 29)):=hf 5 _ rfl;rw[show Tryz.prog.cellsOf 3=1 by kernel_rfl]at f1 f2 f3;rw[show Tryz.prog.cellsOf 37=1 by kernel_rfl]at f0 f4;rw[show Tryz.prog.cellsOf 29=75 by kernel_rfl]at f5;obtain⟨n0,e0,w0⟩:=f0.int Tryz.underlying37;obtain⟨n1,e1,w1⟩:=f1.int Tryz.underlying3;obtain⟨n2,e2,w2⟩:=f2.int Tryz.underlying3;obtain⟨n3,e3,w3⟩:=f3.int Tryz.underlying3;obtain⟨n4,e4,w4⟩:=f4.int Tryz.underlying37;obtain⟨t,e5,ot⟩:=Cel.table f5;obtain⟨a0,b0⟩:=jc w0;obtain⟨a1,b1⟩:=jc w1;obtain⟨a2,b2⟩:=jc w2;obtain⟨a3,b3⟩:=jc w3;obtain⟨a4,b4⟩:=jc w4;refine⟨⟨n0,n1,n2,n3,n4,t⟩,?_,⟨a0,b0,a1,b1,a2,b2,a3,b3,a4,b4,ot⟩⟩
 have cut:∀k n,cs.drop k=(cs.drop k).take n++cs.drop (k+n):=fun k n=>by
  have h:=(List.take_append_drop n (cs.drop k)).symm
  rwa [List.drop_drop]at h
 have c5:(cs.drop 5).take 75=cs.drop 5:=List.take_of_length_le (by rw[List.length_drop];omega);rw[c5]at e5;rw[show cs=cs.drop 0 from rfl,cut 0 1,e0,cut 1 1,e1,cut 2 1,e2,cut 3 1,e3,cut 4 1,e4,e5]
 rfl
theorem Cel.call {cs:List Value} (h2:Cel enc Tryz.prog W 50 cs):∃c:Cl,cs=c.cells.toList∧(c.name.size≤1000000000→c.Ok)∧c.name.size≤9223372036854775807:=by
 obtain⟨hl,hf⟩:=h2.struct_ Tryz.underlying50
 have hl:cs.length=5:=by rw[hl];kernel_rfl
 have f0:Cel enc Tryz.prog W 3 ((cs.drop 0).take (Tryz.prog.cellsOf 3)):=hf 0 _ rfl;have f1:Cel enc Tryz.prog W 3 ((cs.drop 1).take (Tryz.prog.cellsOf 3)):=hf 1 _ rfl;have f2:Cel enc Tryz.prog W 3 ((cs.drop 2).take (Tryz.prog.cellsOf 3)):=hf 2 _ rfl;have f3:Cel enc Tryz.prog W 3 ((cs.drop 3).take (Tryz.prog.cellsOf 3)):=hf 3 _ rfl;have f4:Cel enc Tryz.prog W 9 ((cs.drop 4).take (Tryz.prog.cellsOf 9)):=hf 4 _ rfl;rw[show Tryz.prog.cellsOf 3=1 by kernel_rfl]at f0 f1 f2 f3;rw[show Tryz.prog.cellsOf 9=1 by kernel_rfl]at f4;obtain⟨n0,e0,w0⟩:=f0.int Tryz.underlying3;obtain⟨n1,e1,w1⟩:=f1.int Tryz.underlying3;obtain⟨n2,e2,w2⟩:=f2.int Tryz.underlying3;obtain⟨n3,e3,w3⟩:=f3.int Tryz.underlying3;obtain⟨s,e4,w4⟩:=f4.string Tryz.underlying9;obtain⟨a0,b0⟩:=jc w0;obtain⟨a1,b1⟩:=jc w1;obtain⟨a2,b2⟩:=jc w2;obtain⟨a3,b3⟩:=jc w3;refine⟨⟨n0,n1,n2,n3,s⟩,?_,fun hw=>⟨a0,b0,a1,b1,a2,b2,a3,b3,hw⟩,by unfold maxLen at w4;show s.size≤_;omega⟩
 have e5:cs=(cs.drop 0).take 1++((cs.drop 1).take 1++((cs.drop 2).take 1++((cs.drop 3).take 1++(cs.drop 4).take 1))):=by
  have a:∀k,cs.drop k=(cs.drop k).take 1++cs.drop (k+1):=fun k=>by
   have h:=(List.take_append_drop 1 (cs.drop k)).symm
   rwa [List.drop_drop]at h
  have b:(cs.drop 4).take 1=cs.drop 4:=List.take_of_length_le (by rw[List.length_drop];omega);rw[b];exact(a 0).trans (congrArg _ ((a 1).trans (congrArg _ ((a 2).trans (congrArg _ (a 3))))))
 rw[e5,e0,e1,e2,e3,e4]
 rfl
theorem Cel.entry {cs:List Value} (h:Cel enc Tryz.prog W 54 cs):∃e:En,cs=e.cells.toList∧e.Pre:=by
 obtain⟨hl,hf⟩:=h.struct_ Tryz.underlying54
 have hl:cs.length=126:=by rw[hl];kernel_rfl
 have f0:Cel enc Tryz.prog W 3 ((cs.drop 0).take (Tryz.prog.cellsOf 3)):=hf 0 _ rfl;rw[show Tryz.prog.cellsOf 3=1 by kernel_rfl]at f0;have f1:Cel enc Tryz.prog W 3 ((cs.drop 1).take (Tryz.prog.cellsOf 3)):=hf 1 _ rfl;rw[show Tryz.prog.cellsOf 3=1 by kernel_rfl]at f1;have f2:Cel enc Tryz.prog W 50 ((cs.drop 2).take (Tryz.prog.cellsOf 50)):=hf 2 _ rfl;rw[show Tryz.prog.cellsOf 50=5 by kernel_rfl]at f2;have f3:Cel enc Tryz.prog W 52 ((cs.drop 7).take (Tryz.prog.cellsOf 52)):=hf 3 _ rfl;rw[show Tryz.prog.cellsOf 52=80 by kernel_rfl]at f3;have f4:Cel enc Tryz.prog W 37 ((cs.drop 87).take (Tryz.prog.cellsOf 37)):=hf 4 _ rfl;rw[show Tryz.prog.cellsOf 37=1 by kernel_rfl]at f4;have f5:Cel enc Tryz.prog W 3 ((cs.drop 88).take (Tryz.prog.cellsOf 3)):=hf 5 _ rfl;rw[show Tryz.prog.cellsOf 3=1 by kernel_rfl]at f5;have f6:Cel enc Tryz.prog W 37 ((cs.drop 89).take (Tryz.prog.cellsOf 37)):=hf 6 _ rfl;rw[show Tryz.prog.cellsOf 37=1 by kernel_rfl]at f6;have f7:Cel enc Tryz.prog W 26 ((cs.drop 90).take (Tryz.prog.cellsOf 26)):=hf 7 _ rfl;rw[show Tryz.prog.cellsOf 26=36 by kernel_rfl]at f7;obtain⟨n0,e0,w0⟩:=f0.int Tryz.underlying3;obtain⟨a0,b0⟩:=jc w0;obtain⟨n1,e1,w1⟩:=f1.int Tryz.underlying3;obtain⟨a1,b1⟩:=jc w1;obtain⟨n4,e4,w4⟩:=f4.int Tryz.underlying37;obtain⟨a4,b4⟩:=jc w4;obtain⟨n5,e5,w5⟩:=f5.int Tryz.underlying3;obtain⟨a5,b5⟩:=jc w5;obtain⟨n6,e6,w6⟩:=f6.int Tryz.underlying37;obtain⟨a6,b6⟩:=jc w6;obtain⟨c,e2,cok,_⟩:=Cel.call f2;obtain⟨r,e3,rok⟩:=Cel.reply f3;obtain⟨sl,e7,sok⟩:=Cel.slot f7
 refine⟨⟨n0,n1,c,r,n4,n5,n6,sl⟩,?_,⟨⟨rok.t,sok⟩,fun hn=>⟨a0,b0,a1,b1,cok hn,rok,a4,b4,a5,b5,a6,b6,sok⟩⟩⟩
 have cut:∀k n,cs.drop k=(cs.drop k).take n++cs.drop (k+n):=fun k n=>by
  have h:=(List.take_append_drop n (cs.drop k)).symm
  rwa [List.drop_drop]at h
 have c5:(cs.drop 90).take 36=cs.drop 90:=List.take_of_length_le (by rw[List.length_drop];omega);rw[c5]at e7;rw[show cs=cs.drop 0 from rfl,cut 0 1,e0,cut 1 1,e1,cut 2 5,e2,cut 7 80,e3,cut 87 1,e4,cut 88 1,e5,cut 89 1,e6,e7]
 simp[En.cells]
theorem Cel.span {cs:List Value} (h:Cel enc Tryz.prog W 71 cs):∃x:Sp,cs=x.cells.toList∧x.Pre:=by
 obtain⟨hl,hf⟩:=h.struct_ Tryz.underlying71
 have hl:cs.length=88:=by rw[hl];kernel_rfl
 have f0:Cel enc Tryz.prog W 3 ((cs.drop 0).take (Tryz.prog.cellsOf 3)):=hf 0 _ rfl;rw[show Tryz.prog.cellsOf 3=1 by kernel_rfl]at f0;have f1:Cel enc Tryz.prog W 3 ((cs.drop 1).take (Tryz.prog.cellsOf 3)):=hf 1 _ rfl;rw[show Tryz.prog.cellsOf 3=1 by kernel_rfl]at f1;have f2:Cel enc Tryz.prog W 3 ((cs.drop 2).take (Tryz.prog.cellsOf 3)):=hf 2 _ rfl;rw[show Tryz.prog.cellsOf 3=1 by kernel_rfl]at f2;have f3:Cel enc Tryz.prog W 50 ((cs.drop 3).take (Tryz.prog.cellsOf 50)):=hf 3 _ rfl;rw[show Tryz.prog.cellsOf 50=5 by kernel_rfl]at f3;have f4:Cel enc Tryz.prog W 52 ((cs.drop 8).take (Tryz.prog.cellsOf 52)):=hf 4 _ rfl;rw[show Tryz.prog.cellsOf 52=80 by kernel_rfl]at f4;obtain⟨n0,e0,w0⟩:=f0.int Tryz.underlying3;obtain⟨a0,b0⟩:=jc w0;obtain⟨n1,e1,w1⟩:=f1.int Tryz.underlying3;obtain⟨a1,b1⟩:=jc w1;obtain⟨n2,e2,w2⟩:=f2.int Tryz.underlying3;obtain⟨a2,b2⟩:=jc w2;obtain⟨c,e3,cok,_⟩:=Cel.call f3;obtain⟨r,e4,rok⟩:=Cel.reply f4;refine⟨⟨n0,n1,n2,c,r⟩,?_,⟨rok.t,fun hn=>⟨a0,b0,a1,b1,a2,b2,cok hn,rok⟩⟩⟩
 have cut:∀k n,cs.drop k=(cs.drop k).take n++cs.drop (k+n):=fun k n=>by
  have h:=(List.take_append_drop n (cs.drop k)).symm
  rwa [List.drop_drop]at h
 have c5:(cs.drop 8).take 80=cs.drop 8:=List.take_of_length_le (by rw[List.length_drop];omega);rw[c5]at e4;rw[show cs=cs.drop 0 from rfl,cut 0 1,e0,cut 1 1,e1,cut 2 1,e2,cut 3 5,e3,e4]
 simp[Sp.cells]
theorem Slc.rd {α:Type} {k:Nat} {Q:List Value→α→Prop} {A:Option Addr} {n c:Nat} {xs:List α} (f:α→List Value) (h:Slc (fun b=>W.heap[b]?) k Q A n c xs) (hq:∀cs x,Q cs x→cs=f x):Rd W (fun b=>W.heap[b]?) [] k A (xs.map f):=by
 refine⟨fun r hr=>?_,fun v X hv hX i r hi=>?_⟩
 ·obtain⟨x,hx,rfl⟩:=List.mem_map.1 hr
  obtain⟨i,hi⟩:=List.mem_iff_getElem?.1 hx;obtain⟨b,off,cs,h1,h2,h3,h4⟩:=h.at_ i x hi;rw[←hq _ _ h4];exact h2
 ·rw[List.getElem?_map]at hi
  obtain⟨x,hx,rfl⟩:=Option.map_eq_some_iff.1 hi;obtain⟨b,off,cs,h1,h2,h3,h4⟩:=h.at_ i x hx;refine⟨b,off,h1,fun j u hj=>?_⟩;rw[←hq _ _ h4]at hj
  have hjl:j < k:=by have:=(List.getElem?_eq_some_iff.1 hj).1;omega
  exact hv.ro (by rw[h3 j hjl];exact hj)
theorem Slc.all {α:Type} {k:Nat} {Q:List Value→α→Prop} {R:α→Prop} {A:Option Addr} {n c:Nat} {xs:List α} (h:Slc (fun b=>W.heap[b]?) k Q A n c xs) (hq:∀cs x,Q cs x→R x):∀x∈xs,R x:=fun x hx=>by
 obtain⟨i,hi⟩:=List.mem_iff_getElem?.1 hx;obtain⟨b,off,cs,h1,h2,h3,h4⟩:=h.at_ i x hi;exact hq _ _ h4
theorem Cel.names {cs:List Value} (h:Cel enc Tryz.prog W 30 cs):∃(A:Option Addr) (c:Nat) (l:List ByteArray),cs=[.slice A l.length c]∧l.length≤maxLen∧Rd W (fun b=>W.heap[b]?) [] 1 A (y2 l):=by
 obtain⟨A,n,c,l,rfl,hs⟩:=h.slice (α:=ByteArray) (Q:=fun cs x=>cs=[.string x]) (size:=1) Tryz.underlying30 (by kernel_rfl) (by decide) (fun cs h=>by
  obtain⟨x,hx,_⟩:=Cel.string (t:=9) Tryz.underlying9 h
  exact⟨x,hx⟩)
 have hn:=hs.len;subst hn;exact⟨A,c,l,rfl,Nat.le_trans hs.cap hs.cap',hs.rd (fun x=>[.string x]) (fun cs x hq=>hq)⟩
theorem Cel.entries {cs:List Value} (h:Cel enc Tryz.prog W 31 cs):∃(A:Option Addr) (c:Nat) (l:List En),cs=[.slice A l.length c]∧l.length≤maxLen∧Rd W (fun b=>W.heap[b]?) [] 126 A (zak l)∧∀e∈l,e.Pre:=by
 obtain⟨A,n,c,l,rfl,hs⟩:=h.slice (α:=En) (Q:=fun cs x=>cs=x.cells.toList∧x.Pre) (size:=126) Tryz.underlying31 (by kernel_rfl) (by decide) (fun cs h=>Cel.entry h);have hn:=hs.len;subst hn;exact⟨A,c,l,rfl,Nat.le_trans hs.cap hs.cap',hs.rd (fun x:En=>x.cells.toList) (fun cs x hq=>hq.1),hs.all (fun cs x hq=>hq.2)⟩
theorem Cel.spans {cs:List Value} (h:Cel enc Tryz.prog W 32 cs):∃(A:Option Addr) (c:Nat) (l:List Sp),cs=[.slice A l.length c]∧(l.length≤c∧c≤maxLen)∧Rd W (fun b=>W.heap[b]?) [] 88 A (uo l)∧∀e∈l,e.Pre:=by
 obtain⟨A,n,c,l,rfl,hs⟩:=h.slice (α:=Sp) (Q:=fun cs x=>cs=x.cells.toList∧x.Pre) (size:=88) Tryz.underlying32 (by kernel_rfl) (by decide) (fun cs h=>Cel.span h);have hn:=hs.len;subst hn;exact⟨A,c,l,rfl,⟨hs.cap,hs.cap'⟩,hs.rd (fun x:Sp=>x.cells.toList) (fun cs x hq=>hq.1),hs.all (fun cs x hq=>hq.2)⟩
structure Hy (W:World) where
 t:Tb
 nA:Option Addr
 nc:Nat
 nms:List ByteArray
 tries:Int
 lA:Option Addr
 lc:Nat
 es:List En
 pA:Option Addr
 pc:Nat
 ss:List Sp
 tok:t.Ok
 x0:-9223372036854775808≤tries
 x1:tries≤9223372036854775807
 nl:nms.length≤maxLen
 el:es.length≤maxLen
 sl:ss.length≤pc∧pc≤maxLen
 nrd:Rd W (fun b=>W.heap[b]?) [] 1 nA (y2 nms)
 erd:Rd W (fun b=>W.heap[b]?) [] 126 lA (zak es)
 srd:Rd W (fun b=>W.heap[b]?) [] 88 pA (uo ss)
 epre:∀e∈es,e.Pre
 spre:∀e∈ss,e.Pre
def Hy.cells (x:Hy W):Array Value:=y7 x.t (.slice x.nA x.nms.length x.nc) x.tries (.slice x.lA x.es.length x.lc) (.slice x.pA x.ss.length x.pc)
structure Wr (W:World) where
 t:Tb
 nA:Option Addr
 nc:Nat
 nms:List ByteArray
 tries:Int
 tok:t.Ok
 x0:-9223372036854775808≤tries
 x1:tries≤9223372036854775807
 nl:nms.length≤maxLen
 nrd:Rd W (fun b=>W.heap[b]?) [] 1 nA (y2 nms)
def Wr.cells (x:Wr W):Array Value:=(x.t.cells.toList++[Value.slice x.nA x.nms.length x.nc,.int .i64 x.tries]).toArray
theorem Cel.worldO {cs:List Value} (h:Cel enc Tryz.prog W 42 cs):∃x:Wr W,cs=x.cells.toList:=by
 obtain⟨hl,hf⟩:=h.struct_ Tryz.underlying42
 have hl:cs.length=77:=by rw[hl];kernel_rfl
 have f0:Cel enc Tryz.prog W 29 ((cs.drop 0).take (Tryz.prog.cellsOf 29)):=hf 0 _ rfl;rw[show Tryz.prog.cellsOf 29=75 by kernel_rfl]at f0;have f1:Cel enc Tryz.prog W 30 ((cs.drop 75).take (Tryz.prog.cellsOf 30)):=hf 1 _ rfl;rw[show Tryz.prog.cellsOf 30=1 by kernel_rfl]at f1;have f2:Cel enc Tryz.prog W 3 ((cs.drop 76).take (Tryz.prog.cellsOf 3)):=hf 2 _ rfl;rw[show Tryz.prog.cellsOf 3=1 by kernel_rfl]at f2;obtain⟨t,e0,tok⟩:=Cel.table f0;obtain⟨nA,nc,nms,e1,nl,nrd⟩:=Cel.names f1;obtain⟨n2,e2,w2⟩:=f2.int Tryz.underlying3;obtain⟨a2,b2⟩:=jc w2;refine⟨⟨t,nA,nc,nms,n2,tok,a2,b2,nl,nrd⟩,?_⟩
 have cut:∀k n,cs.drop k=(cs.drop k).take n++cs.drop (k+n):=fun k n=>by
  have h:=(List.take_append_drop n (cs.drop k)).symm
  rwa [List.drop_drop]at h
 have c5:(cs.drop 76).take 1=cs.drop 76:=List.take_of_length_le (by rw[List.length_drop];omega);rw[c5]at e2;rw[show cs=cs.drop 0 from rfl,cut 0 75,e0,cut 75 1,e1,e2]
 simp[Wr.cells]
theorem Arg.worldO {v:Value} (a:Arg enc Tryz.prog W 42 v):∃x:Wr W,v=.agg x.cells:=by
 obtain⟨cs,rfl,hl,_⟩:=a.struct_ Tryz.underlying42
 have h2:Cel enc Tryz.prog W 42 cs:=by simpa[Value.cells] using a.reads
 obtain⟨x,rfl⟩:=Cel.worldO h2;exact⟨x,rfl⟩
end
end
end Go.Proofs.YtnjnooeldkideaaGreatDoor
