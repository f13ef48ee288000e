/- glyph.Fold: the walk. order: what an install is answered. -/
import Derived.Test.YtnjnooeldkideaaGreatDoorMOrEn
import Derived.Lib.UnsafeStr
import Derived.Deep.RegionHeld3
namespace Go.Proofs.YtnjnooeldkideaaGreatDoor
set_option maxRecDepth 100000
set_option maxHeartbeats 8000000
section
set_option linter.unusedVariables false
set_option linter.unusedSimpArgs false
open Go.RowKit Go.Lib
theorem runeCells_bval (r:Int):Lib.runeCells r=(Lib.encodeRune r).map bval:=(Lib.byteCells_encodeRune r).symm
theorem bldRune {W w:World} {I:Nat→Option Obj} {sb:Nat} {bs:List UInt8} {F:List (Nat × Obj)} (r:Int) (hr0:-2147483648≤r) (hr1:r≤2147483647) (h:BldSt W w I sb bs F) (hlen:bs.length+4≤140737488355328) :
  Calls Tryz.prog 60 #[.pointer (some ⟨sb,0,none⟩),.int .i32 r] w fun e w'=>∃v,e=.returned v∧BldSt W w' I sb (bs++Lib.encodeRune r) F:=by
 obtain⟨A0,A,c,Lr,hA,hr,h0,hst⟩:=h;obtain⟨er,her⟩:∃er,Lib.encodeRune r=er:=⟨_,rfl⟩;rw[her];have HER:=za her;clear her
 go_enter Tryz.func60,Tryz.ntmps60
 go_wp2_with fail;refine(bldCheck hA hst).mono ?_;rintro e w1 ⟨rfl,h1⟩;have q1:w1.cell? ⟨sb,1,none⟩=some (.slice A bs.length c):=h1.cell (g:=sb) (cs:=#[.pointer (some ⟨sb,0,none⟩),.slice A bs.length c]) (t:=120) (fr:=(0,0)) (by simp) 1;have h2:St W w1 I (Lr++((sb,.cells #[.pointer (some ⟨sb,0,none⟩),.slice A bs.length c] 120 (0,0))::F)):=St.swap (A:=[(sb,_)]) h1;have cA:=appendRune r hr0 hr1 hr h2 hlen
 have hk:(Lib.runeCells r).length=(Lib.encodeRune r).length:=by rw[runeCells_bval,List.length_map]
 have hk4:(Lib.encodeRune r).length≤4:=by have:=(Lib.encodeRuneZ_length r).2;simpa[Lib.encodeRune] using this
 rw[hk,runeCells_bval,HER.out]at cA;rw[HER.out]at hk4;have CA:=za cA;have HO:=za h0;clear cA hst hA h1 h2 hr hk h0;go_wp2_with fail;refine CA.out.mono ?_;rintro e w2 ⟨A1,c1,L1,rfl,hr1,ho,h3⟩;have q2:w2.cell? ⟨sb,1,none⟩=some (.slice A bs.length c):=h3.cell (g:=sb) (cs:=#[.pointer (some ⟨sb,0,none⟩),.slice A bs.length c]) (t:=120) (fr:=(0,0)) (by simp) 1;have f2:w2.frozen? ⟨sb,1,none⟩=false:=h3.frozen (g:=sb) (cs:=#[.pointer (some ⟨sb,0,none⟩),.slice A bs.length c]) (t:=120) (by simp) 1;have h4:St W (w2.setCell ⟨sb,1,none⟩ (.slice A1 (bs.length+er.length) c1)) I ((sb,.cells #[.pointer (some ⟨sb,0,none⟩),.slice A1 (bs.length+er.length) c1] 120 (0,0))::(L1++F)):=St.set (A:=[]) (St.swap (B:=[(sb,_)]) h3) 1 _;have q3:(w2.setCell ⟨sb,1,none⟩ (.slice A1 (bs.length+er.length) c1)).cell? ⟨sb,1,none⟩=some (.slice A1 (bs.length+er.length) c1):=h4.cell (g:=sb) (cs:=#[.pointer (some ⟨sb,0,none⟩),.slice A1 (bs.length+er.length) c1]) (t:=120) (fr:=(0,0)) (by simp) 1
 have hfin:BldSt W (w2.setCell ⟨sb,1,none⟩ (.slice A1 (bs.length+er.length) c1)) I sb (bs++er) F:=by
  refine⟨_,A1,c1,L1,.inr rfl,?_,?_,?_⟩<;>rw[List.length_append]
  ·rw[List.map_append];exact hr1
  ·exact ho HO.out
  ·exact h4
 have Hfin:=za hfin;clear hfin h4 h3 hr1 ho CA;go_wp2_with fail
 go_ret2
 exact⟨_,rfl,Hfin.out⟩
theorem BldSt.iter {W w:World} {I:Nat→Option Obj} {sb it:Nat} {bs:List UInt8} {s:ByteArray} {pos:Nat} {F:List (Nat × Obj)} (pos':Nat) (h:BldSt W w I sb bs ((it,.stringIter s pos)::F)):BldSt W (w.iterAt it s pos') I sb bs ((it,.stringIter s pos')::F):=by
 obtain⟨A0,A,c,Lr,hA,hr,h0,hst⟩:=h;refine⟨A0,A,c,Lr,hA,hr,h0,?_⟩;have h1:=(hst.perm (by rw[←List.cons_append];exact List.perm_middle)).iter pos';refine h1.perm ?_;rw[←List.cons_append];exact List.perm_middle.symm
theorem BldSt.heap {W w:World} {I:Nat→Option Obj} {sb:Nat} {bs:List UInt8} {F:List (Nat × Obj)} (h:BldSt W w I sb bs F) {p:Nat × Obj} (hp:p∈F):w.heap[p.1]?=some p.2:=h.frame.own p hp
theorem bldString0 {W w:World} {I:Nat→Option Obj} {sb:Nat} {F:List (Nat × Obj)} (hst:St W w I ((sb,.cells #[.pointer none,.slice none 0 0] 120 (0,0))::F)) :
  Calls Tryz.prog 62 #[.pointer (some ⟨sb,0,none⟩)] w fun e w'=>e=.returned (.string ⟨#[]⟩)∧St W w' I F:=by
 have c1:w.drew.cell? ⟨sb,1,none⟩=some (.slice none 0 0):=hst.drew1.cell (g:=sb) (cs:=#[.pointer none,.slice none 0 0]) (t:=120) (fr:=(0,0)) (by simp) 1
 have hSD:(Builtin.unsafeSliceData_ #[118] 155 #[.slice none 0 0]).run Tryz.prog w.drew=.ok (.pointer none) w.drew:=
  Lib.run_unsafeSliceData_nil _ _ _ _ _
 have hUS:(Builtin.unsafeString_ #[155,3] 9 #[.pointer none,.int .i64 0]).run Tryz.prog w.drew=.ok (.string ⟨#[]⟩) w.drew:=Lib.run_unsafeString_none _ _ _ _ _
 have fin:∀n,St W (w.drewN n) I F:=fun n=>(St.weaken (A:=[_]) hst).drew n
 have Fin:=za fin;clear fin hst
 go_enter Tryz.func62,Tryz.ntmps62
 go_wp2_with fail
 go_region
 all_goals
  go_wp2_with fail;go_ret;exact⟨rfl,Fin.out 1⟩
theorem foldPiece_ne (s:ByteArray) (pos:Nat):foldPiece s pos≠[]:=by
 unfold foldPiece
 split
 ·simp
 ·have:=(Lib.encodeRuneZ_length (toLowerU ((Utf8.decode s pos).1:Int))).1
  intro h
  have h2:(Lib.encodeRune (toLowerU ((Utf8.decode s pos).1:Int))).length=0:=by rw[h];rfl
  simp[Lib.encodeRune]at h2
  rw[h2]at this
  simp at this
theorem foldOf_ne (s:ByteArray) (h:s.size≠0):j7 s≠[]:=by
 obtain⟨f,hf⟩:∃f,s.size=f+1:=⟨s.size-1,by omega⟩;unfold j7 runesOf;rw[hf,jd s f 0 (by omega)];simp only[List.flatMap_cons];intro h2;have:=List.append_eq_nil_iff.1 h2;exact foldPiece_ne s 0 this.1
theorem za0 {W w:World} {I:Nat→Option Obj} {L:List (Nat × Obj)} (t:TB W I) (s:ByteArray) (hs:s.size≤35184372088830) (h:St W w I L) :
  Calls Tryz.prog 34 #[.string s] w fun e w'=>e=.returned (.string ⟨(j7 s).toArray⟩)∧St W w' I L:=by
 obtain⟨sb,hsb⟩:∃sb,sb=w.heap.size:=⟨_,rfl⟩;have h1:=(h.alloc (.cells #[.pointer none,.slice none 0 0] 120)).alloc (.stringIter s 0)
 have hz:(w.alloc (.cells #[.pointer none,.slice none 0 0] 120)).heap.size=w.heap.size+1:=by simp
 rw[hz,←hsb]at h1;obtain⟨R,hR⟩:∃R:ByteArray,R=⟨(j7 s).toArray⟩:=⟨_,rfl⟩;rw[←hR];have HR:=za hR;have H1:=za h1;clear hR h1 h hz
 go_enter Tryz.func34,Tryz.ntmps34
 go_wp2_with fail;rw[←hsb];have HSB:=za hsb;clear hsb
 by_cases hs0:s.size=0
 ·go_loopw [] (fun wr=>St W wr I ((sb+1,.stringIter s 0)::(sb,.cells #[.pointer none,.slice none 0 0] 120 (0,0))::L)) (fun _=>0)
  case atStart=>exact H1.out
  case round=>
   have hiter:wr.heap[sb+1]?=some (.stringIter s 0):=hrel.own (sb+1,_) (by simp)
   have hnx:∀ty,(Instr.next (.pointer (some ⟨sb+1,0,none⟩)) true ty).run Tryz.prog wr=_:=fun ty=>Lib.run_next_end_at wr (sb+1) s 0 ty hiter (by omega)
   have H2:=za hrel;clear hrel H1;go_wp2_with fail;refine(bldString0 (F:=L) (St.weaken (A:=[_]) H2.out)).mono ?_;rintro e w1 ⟨rfl,h2⟩;have H3:=za h2;clear h2
   have he:(j7 s).toArray=#[]:=by
    have:j7 s=[]:=by
     have:=foldOf_len s;exact List.eq_nil_of_length_eq_zero (by omega)
    rw[this]
   have hR0:R=⟨#[]⟩:=by rw[HR.out,he]
   have HR0:=za hR0;clear he hR0;go_wp2_with fail;go_ret;exact⟨by rw[HR0.out];rfl,H3.out⟩
 ·go_loopw [] (fun wr=>∃(fuel pos:Nat) (don:List Nat),runesOf s=don++y4 s fuel pos∧s.size≤pos+fuel∧BldSt W wr I sb (don.flatMap (foldPiece s)) ((sb+1,.stringIter s pos)::L)) (fun wr=>s.size-wr.iterPos (sb+1))
  case atStart=>exact⟨s.size,0,[],rfl,by omega,⟨_,none,0,[],.inl rfl,Row.nil _ _,Off0.nil,H1.out.perm (List.Perm.swap _ _ _)⟩⟩
  case round=>
   obtain⟨fuel,pos,don,hro,hfu,hB⟩:=hrel;clear H1;have hiter:wr.heap[sb+1]?=some (.stringIter s pos):=hB.heap (p:=(sb+1,_)) (by simp)
   have hdl:(don.flatMap (foldPiece s)).length≤4*s.size:=by
    have h1:=uc s don;have h2:=qq s;rw[hro,List.length_append]at h2
    omega
   by_cases hp:pos < s.size
   ·have hnx:∀ty,(Instr.next (.pointer (some ⟨sb+1,0,none⟩)) true ty).run Tryz.prog wr=_:=fun ty=>Lib.run_next_any_at wr (sb+1) s pos ty hiter hp
    have hwd:=Lib.width_pos s pos;have hrl:=Lib.rune_le s pos;have h2:=hB.iter (pos+(Utf8.decode s pos).2);obtain⟨f,rfl⟩:∃f,fuel=f+1:=⟨fuel-1,by omega⟩;rw[jd s f pos hp]at hro
    have hro2:runesOf s=(don++[pos])++y4 s f (pos+(Utf8.decode s pos).2):=by rw[hro];simp
    have hfl:(don++[pos]).flatMap (foldPiece s)=don.flatMap (foldPiece s)++foldPiece s pos:=by simp
    obtain⟨acc,hacc⟩:∃acc,don.flatMap (foldPiece s)=acc:=⟨_,rfl⟩;rw[hacc]at h2 hdl hfl;obtain⟨A0,A,c,Lr,hA,hr,h0,hst⟩:=h2;have HRO:=za hro2;have HI:=za hiter;have HST:=za hst;have HFL:=za hfl;have HRR:=za hr;have HO:=za h0;clear hro hro2 hB hst hfl hacc hr h0;go_wp2_with fail;refine(broken_any t s pos hp HST.out).mono ?_;rintro e w1 ⟨rfl,h3⟩;have hB1:BldSt W w1 I sb acc ((sb+1,.stringIter s (pos+(Utf8.decode s pos).2))::L):=⟨A0,A,c,Lr,hA,HRR.out,HO.out,h3⟩;have HB1:=za hB1;clear hB1 h3 HST HRR HO hA hiter
    cases hbr:brokenAt s pos with
    | true=>
     have hfp:foldPiece s pos=[s[pos]'hp]:=by rw[foldPiece,hbr,if_pos rfl,ug s pos hp]
     have HFP:=za hfp;clear hfp;go_wp2_with fail;refine(bldByte (s[pos]'hp) HB1.out (by omega)).mono ?_;rintro e w2 ⟨rfl,h4⟩;have H4:=za h4;clear h4 HB1;go_wp2_with fail
     go_roundw
     case rel=>exact⟨f,_,don++[pos],HRO.out,by omega,by rw[HFL.out,HFP.out];exact H4.out⟩
     case measure=>
      have h5:w2.heap[sb+1]?=some (.stringIter s (pos+(Utf8.decode s pos).2)):=H4.out.heap (p:=(sb+1,_)) (by simp);simp only[World.iterPos,h5,HI.out]
      omega
    | false=>
     have hfp:foldPiece s pos=Lib.encodeRune (toLowerU ((Utf8.decode s pos).1:Int)):=by rw[foldPiece,hbr];rfl
     have hlr:=(toLowerU_ok _ (rune_ok s pos)).range;have HFP:=za hfp;clear hfp;go_wp2_with fail;refine(Tryz.unicode_ToLower_laid ((Utf8.decode s pos).1:Int) w1 (t.on HB1.out.frame).case).mono ?_;rintro e w2 ⟨rfl,q,rfl⟩;obtain⟨A0,A,c,Lr,hA,hr,h0,hst⟩:=HB1.out;have hB2:BldSt W (w1.drewN q) I sb acc ((sb+1,.stringIter s (pos+(Utf8.decode s pos).2))::L):=⟨A0,A,c,Lr,hA,hr,h0,hst.drew q⟩;have HB2:=za hB2;clear hB2 HB1 hA hr h0 hst;generalize toLowerU ((Utf8.decode s pos).1:Int)=tl at *;go_wp2_with fail;refine(bldRune tl hlr.1 hlr.2 HB2.out (by omega)).mono ?_;rintro e w3 ⟨v,rfl,h4⟩;have H4:=za h4;clear h4 HB2;go_wp2_with fail
     go_roundw
     case rel=>exact⟨f,_,don++[pos],HRO.out,by omega,by rw[HFL.out,HFP.out];exact H4.out⟩
     case measure=>
      have h5:w3.heap[sb+1]?=some (.stringIter s (pos+(Utf8.decode s pos).2)):=H4.out.heap (p:=(sb+1,_)) (by simp);simp only[World.iterPos,h5,HI.out]
      omega
   ·have hend:runesOf s=don:=by rw[hro,ju s _ _ hp,List.append_nil]
    have hnx:∀ty,(Instr.next (.pointer (some ⟨sb+1,0,none⟩)) true ty).run Tryz.prog wr=_:=fun ty=>Lib.run_next_end_at wr (sb+1) s pos ty hiter hp
    have hne:don.flatMap (foldPiece s)≠[]:=by rw[←hend];exact foldOf_ne s hs0
    have hR1:R=⟨(don.flatMap (foldPiece s)).toArray⟩:=by rw[HR.out,j7,hend]
    obtain⟨acc,hacc⟩:∃acc,don.flatMap (foldPiece s)=acc:=⟨_,rfl⟩;rw[hacc]at hB hne hR1;have HB:=za hB;have HR1:=za hR1;clear hB hR1 hiter hro hend hacc hdl;go_wp2_with fail;refine(bldString HB.out hne).mono ?_;rintro e w1 ⟨rfl,h2⟩;have H3:=za (St.weaken (A:=[_]) h2);clear h2;go_wp2_with fail;go_ret;exact⟨by rw[HR1.out];rfl,H3.out⟩
end

section
set_option linter.unusedVariables false
set_option linter.unusedSimpArgs false
open Go.RowKit Go.Lib Go.Deep
section
variable {W w:World} {J:Nat→Option Obj} {t:Tb} {F:List (Nat × Obj)}
def foldB (s:ByteArray):ByteArray:=⟨(j7 s).toArray⟩
def instA (m:Md) (ns:List ByteArray) (s:ByteArray):An:=if m.job.live=true then refA m 251 else if Lib.containsS ns (foldB s)=false then refA m 182 else if aimT m.known=-1 then refA m 101 else ⟨⟨0,m.began+1,0,0,0,zTb⟩,true,(wipeT m.known).1,⟨m.began+1,1,0,true,aimT m.known,m.known.flo⟩,m.began+1⟩
theorem put_rjob (a:An) (ok:a.rep.t.Ok) (v:Value) (b:Int):zg (a.cells v) 1 [.int .i64 b]=({ a with rep:={ a.rep with job:=b } }:An).cells v:=
 yb [Value.int .i64 a.rep.err] [Value.int .i64 a.rep.job] [Value.int .i64 b] ([Value.int .i64 a.rep.state,Value.int .i64 a.rep.slot,Value.int .i64 a.rep.fault]++a.rep.t.cells.toList++([Value.bool a.keeps,v]++(a.job.list++[Value.int .i64 a.began]))) rfl
theorem put_began (a:An) (ok:a.rep.t.Ok) (v:Value) (b:Int):zg (a.cells v) 88 [.int .i64 b]=({ a with began:=b }:An).cells v:=by
 have h:=Ry.size ok;have e:=yb (a.rep.cells.toList++([Value.bool a.keeps,v]++a.job.list)) [Value.int .i64 a.began] [.int .i64 b] [] rfl
 have hl:(a.rep.cells.toList++([Value.bool a.keeps,v]++a.job.list)).length=88:=by simp[h,Jb.list]
 rw[hl]at e;simp only[List.append_nil,List.append_assoc]at e;exact e
theorem put_job (a:An) (ok:a.rep.t.Ok) (v:Value) (j:Jb):zg (a.cells v) 82 j.list=({ a with job:=j }:An).cells v:=by
 have h:=Ry.size ok;have e:=yb (a.rep.cells.toList++[Value.bool a.keeps,v]) a.job.list j.list [.int .i64 a.began] rfl
 have hl:(a.rep.cells.toList++[Value.bool a.keeps,v]).length=82:=by simp[h]
 rw[hl]at e;simp only[List.append_assoc]at e;exact e
variable {m:Md} {gm n c:Nat} {A:Option Addr} {ns:List ByteArray} {Ln:List (Nat × Obj)}
theorem o_inst_busy {nv:Value} (ok:m.Ok) (hlive:m.job.live=true) (s:ByteArray) (h:St W w J F) (hm:(gm,Obj.cells (m.cells nv) 88 (0,0))∈F):Calls Tryz.prog 69 #[.pointer (some ⟨gm,0,none⟩),.string s] w (OPost W J F (instA m ns s)):=by
 have h1:=h.alloc (.cells Tryz.zeroCells96 96);obtain⟨g,hg⟩:∃g,w.heap.size=g:=⟨_,rfl⟩;rw[hg]at h1
 have mt:∀(v:World) (X:List (Nat × Obj)),St W v J X→(gm,Obj.cells (m.cells nv) 88 (0,0))∈X→v.cell? ⟨gm,80,none⟩=some (.bool m.job.live)∧v.cell? ⟨gm,75,none⟩=some nv∧v.rangeAt gm 0 m.known.cells.toList∧v.cell? ⟨gm,74,none⟩=some (.int .u64 m.known.flo):=fun v X hv hx=>⟨(hv.md ok hx).live,(hv.md ok hx).names,(hv.md ok hx).tb.all,(hv.md ok hx).tb.flo⟩
 have kref:=fun(x:Int) (v:World) (X:List (Nat × Obj)) (hv:St W v J X) (hx:(gm,Obj.cells (m.cells nv) 88 (0,0))∈X)=>o_ref ok x hv hx
 have fin:∀(a:An),instA m ns s=a→∀(v:World) (A':Option Addr) (n' c':Nat) (L' D:List (Nat × Obj)),n'=a.l.length→Row 147 40 (.slice A' n' c') n' (cgs a.l) L'→St W v J (D++(L'++F))→OPost W J F (instA m ns s) (.returned (.agg (a.cells (.slice A' n' c')))) v:=fun a ha v A' n' c' L' D hn' hr' hv=>by
  rw[ha];subst hn';exact⟨A',c',L',rfl,hr',hv.weaken⟩
 have hc:instA m ns s=refA m 251:=by unfold instA;rw[if_pos hlive]
 generalize instA m ns s=R at *;obtain⟨m80,-⟩:=mt _ _ h1 (List.mem_cons_of_mem _ hm);rw[hlive]at m80;have FIN:=za fin;have H1:=za h1;have HC:=za hc;have KX:=za (kref 251 _ _ h1 (List.mem_cons_of_mem _ hm));clear fin kref mt h1 hm h hc hlive ok
 go_enter Tryz.func69,Tryz.ntmps69
 go_wp2_with fail;refine KX.out.mono ?_;rintro e w3 ⟨A',c',L',rfl,hr',h2⟩;have h3:=h2.perm (L':=(g,.cells Tryz.zeroCells96 96 (0,0))::(L'++F)) ze;have rsz:=An.size (a:=refA m 251) zt (.slice A' 0 c');have rai:=yv (a:=refA m 251) zt (.slice A' 0 c');have rao:=An.one (refA m 251) (v:=(.slice A' 0 c')) rfl
 have fx:=fun(v:World) (cs:Array Value) (hv:St W v J ((g,.cells cs 96 (0,0))::(L'++F)))=>FIN.out (refA m 251) HC.out v A' 0 c' L' [(g,.cells cs 96 (0,0))] rfl hr' hv
 obtain⟨Q,hQ⟩:∃Q,(refA m 251).cells (.slice A' 0 c')=Q:=⟨_,rfl⟩;rw[hQ]at rsz rai rao fx ⊢
 have rfit:0+Q.size≤Tryz.zeroCells96.size:=by rw[rsz,zan];omega
 have rmany:zg Tryz.zeroCells96 0 Q.toList=Q:=by rw[zd _ _ (by rw[Array.length_toList,rsz,zan]),Array.toArray_toList]
 have RAI:=za rai;have RAO:=za rao;have RFIT:=za rfit;have RMANY:=za rmany;have FX:=za fx;clear rai rao rfit rmany fx hQ rsz;have H3:=za h3;clear h2 h3 hr' KX
 go_wp2_with (with_reducible refine zc rfl 96 (.tmp 4) (.tmp 13) rfl (g:=g) (off:=0) Q rfl rfl H3.out RFIT.out RAI.out RAO.out ?_;intro w4 h4;refine Hid.out ?_)
 refine za ?_;rw[RMANY.out]at h4;have HZ:=za h4;clear h4 H3;go_wp2_with fail;refine bodyPost_ret (zp rfl _ _ g 96 Q (0,0) _ rfl (HZ.out.own (g,.cells Q 96 (0,0)) (List.mem_cons_self ..)) Tryz.underlying96 (by kernel_rfl) RAI.out) rfl ?_;exact FX.out _ _ HZ.out
end
end
end Go.Proofs.YtnjnooeldkideaaGreatDoor
