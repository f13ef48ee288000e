/- order: a job is cancelled. order: what a reboot is answered. order: what is stored. -/
import Derived.Test.YtnjnooeldkideaaGreatDoorMOrM
namespace Go.Proofs.YtnjnooeldkideaaGreatDoor
set_option maxRecDepth 100000
set_option maxHeartbeats 8000000
section
set_option linter.unusedVariables false
set_option linter.unusedSimpArgs false
open Go.RowKit Go.Lib Go.Deep
section
variable {W w:World} {J:Nat→Option Obj} {t:Tb} {F:List (Nat × Obj)}
def cancA (m:Md) (n:Int):An:=if (!m.job.live||(n != 0&&n != m.job.number))=true then refA m 252 else { refA m 0 with job:={ m.job with live:=false,state:=4 } }
theorem put_live (a:An) (ok:a.rep.t.Ok) (v:Value) (b:Bool):zg (a.cells v) 85 [.bool b]=({ a with job:={ a.job with live:=b } }:An).cells v:=by
 have h:=Ry.size ok;have e:=yb (a.rep.cells.toList++[Value.bool a.keeps,v,.int .i64 a.job.number,.int .i64 a.job.state,.int .i64 a.job.fault]) [Value.bool a.job.live] [Value.bool b] [Value.int .i64 a.job.slot,.int .u64 a.job.floor,.int .i64 a.began] rfl
 have hl:(a.rep.cells.toList++[Value.bool a.keeps,v,.int .i64 a.job.number,.int .i64 a.job.state,.int .i64 a.job.fault]).length=85:=by simp[h]
 rw[hl,List.append_assoc,List.append_assoc]at e;exact e
theorem put_state (a:An) (ok:a.rep.t.Ok) (v:Value) (b:Int):zg (a.cells v) 83 [.int .i64 b]=({ a with job:={ a.job with state:=b } }:An).cells v:=by
 have h:=Ry.size ok;have e:=yb (a.rep.cells.toList++[Value.bool a.keeps,v,.int .i64 a.job.number]) [Value.int .i64 a.job.state] [Value.int .i64 b] [.int .i64 a.job.fault,Value.bool a.job.live,Value.int .i64 a.job.slot,.int .u64 a.job.floor,.int .i64 a.began] rfl
 have hl:(a.rep.cells.toList++[Value.bool a.keeps,v,.int .i64 a.job.number]).length=83:=by simp[h]
 rw[hl,List.append_assoc,List.append_assoc]at e;exact e
theorem o_ref {m:Md} {nv:Value} {gm:Nat} (ok:m.Ok) (x:Int) (h:St W w J F) (hm:(gm,Obj.cells (m.cells nv) 88 (0,0))∈F):Calls Tryz.prog 68 #[.pointer (some ⟨gm,0,none⟩),.int .i64 x] w fun e w'=>∃A' c' L',e=.returned (.agg ((refA m x).cells (.slice A' 0 c')))∧Row 147 40 (.slice A' 0 c') 0 [] L'∧St W w' J (L'++F):=
 (zaw ok x h hm).mono (fun e w' ho=>by obtain⟨A',c',L',e1,e2,e3⟩:=ho;exact⟨A',c',L',e1,e2,e3⟩)
theorem o_cancel {m:Md} {nv:Value} {gm:Nat} (ok:m.Ok) (x:Int) (h:St W w J F) (hm:(gm,Obj.cells (m.cells nv) 88 (0,0))∈F):Calls Tryz.prog 70 #[.pointer (some ⟨gm,0,none⟩),.int .i64 x] w (OPost W J F (cancA m x)):=by
 have h1:=h.alloc (.cells Tryz.zeroCells96 96);obtain⟨g,hg⟩:∃g,w.heap.size=g:=⟨_,rfl⟩;rw[hg]at h1
 have mt:∀(v:World) (X:List (Nat × Obj)),St W v J X→(gm,Obj.cells (m.cells nv) 88 (0,0))∈X→v.cell? ⟨gm,80,none⟩=some (.bool m.job.live)∧v.cell? ⟨gm,77,none⟩=some (.int .i64 m.job.number):=fun v X hv hx=>⟨(hv.md ok hx).live,(hv.md ok hx).number⟩
 have k252:=fun(v:World) (X:List (Nat × Obj)) (hv:St W v J X) (hx:(gm,Obj.cells (m.cells nv) 88 (0,0))∈X)=>o_ref ok 252 hv hx
 have k0:=fun(v:World) (X:List (Nat × Obj)) (hv:St W v J X) (hx:(gm,Obj.cells (m.cells nv) 88 (0,0))∈X)=>o_ref ok 0 hv hx
 obtain⟨ca,hca⟩:∃a,({ refA m 0 with job:={ m.job with live:=false,state:=4 } }:An)=a:=⟨_,rfl⟩
 have fin:∀(a:An),a.l=[]→cancA m x=a→∀(v:World) (A':Option Addr) (c':Nat) (L' D:List (Nat × Obj)),Row 147 40 (.slice A' 0 c') 0 [] L'→St W v J (D++(L'++F))→OPost W J F (cancA m x) (.returned (.agg (a.cells (.slice A' 0 c')))) v:=fun a hl ha v A' c' L' D hr' hv=>by
  rw[ha];exact⟨A',c',L',by rw[hl];rfl,by rw[hl];exact hr',hv.weaken⟩
 have cl:ca.l=[]:=by rw[←hca];rfl
 have ct:ca.rep.t.Ok:=by rw[←hca];exact zt
 obtain⟨m80,m77⟩:=mt _ _ h1 (List.mem_cons_of_mem _ hm);have FIN:=za fin;have K252:=za k252;have K0:=za k0;have HCA:=za hca;have CL:=za cl;have CT:=za ct;have H1:=za h1;have HM:=za hm
 have hD:cancA m x=if (!m.job.live||(x != 0&&x != m.job.number))=true then refA m 252 else ca:=by rw[←hca];rfl
 clear fin k252 k0 hca cl ct h1 hm h mt ok;generalize cancA m x=R at *;obtain⟨lv,hlv⟩:∃b,m.job.live=b:=⟨_,rfl⟩;obtain⟨nb,hnb⟩:∃b,m.job.number=b:=⟨_,rfl⟩;rw[hlv]at m80 hD;rw[hnb]at m77 hD;clear hlv hnb
 cases lv with
 | false=>
  have hc:R=refA m 252:=by rw[hD];simp
  clear hD K0;have KX:=za (K252.out _ _ H1.out (List.mem_cons_of_mem _ HM.out));have HC:=za hc;clear hc
  go_enter Tryz.func70,Tryz.ntmps70
  go_wp2_with fail;refine KX.out.mono ?_;rintro e w2 ⟨A',c',L',rfl,hr',h2⟩;have h3:=h2.perm (L':=(g,.cells Tryz.zeroCells96 96 (0,0))::(L'++F)) ze;have rsz:=An.size (a:=refA m 252) zt (.slice A' 0 c');have rai:=yv (a:=refA m 252) zt (.slice A' 0 c');have rao:=An.one (refA m 252) (v:=.slice A' 0 c') rfl
  have fx:=fun(v:World) (cs:Array Value) (hv:St W v J ((g,.cells cs 96 (0,0))::(L'++F)))=>FIN.out (refA m 252) rfl HC.out v A' c' L' [(g,.cells cs 96 (0,0))] hr' hv
  obtain⟨Q,hQ⟩:∃Q,(refA m 252).cells (.slice A' 0 c')=Q:=⟨_,rfl⟩;rw[hQ]at rsz rai rao fx ⊢
  have rfit:0+Q.size≤Tryz.zeroCells96.size:=by rw[rsz,zan];omega
  have rmany:zg Tryz.zeroCells96 0 Q.toList=Q:=by rw[zd _ _ (by rw[Array.length_toList,rsz,zan]),Array.toArray_toList]
  have H3:=za h3;have RAI:=za rai;have RAO:=za rao;have RFIT:=za rfit;have RMANY:=za rmany;have FX:=za fx;clear h2 h3 hr' rai rao rfit rmany fx hQ rsz KX H1
  go_wp2_with (with_reducible refine zc rfl 96 (.tmp 4) (.tmp 26) rfl (g:=g) (off:=0) Q rfl rfl H3.out RFIT.out RAI.out RAO.out ?_;intro w4 h4;refine Hid.out ?_)
  refine za ?_;rw[RMANY.out]at h4;have HZ:=za h4;clear h4 H3;go_wp2_with fail;refine bodyPost_ret (zp rfl _ _ g 96 Q (0,0) _ rfl (HZ.out.own (g,.cells Q 96 (0,0)) (List.mem_cons_self ..)) Tryz.underlying96 (by kernel_rfl) RAI.out) rfl ?_;exact FX.out _ _ HZ.out
 | true=>
  by_cases h0:x=0
  ·have hc:R=ca:=by rw[hD,h0];simp
   clear hD K252;subst h0;have KX:=za (K0.out _ _ H1.out (List.mem_cons_of_mem _ HM.out));have HC:=za hc;clear hc
   go_enter Tryz.func70,Tryz.ntmps70
   go_wp2_with fail;refine KX.out.mono ?_;rintro e w2 ⟨A',c',L',rfl,hr',h2⟩;have h3:=h2.alloc (.cells Tryz.zeroCells96 96);have rsz:=An.size (a:=refA m 0) zt (.slice A' 0 c');have rai:=yv (a:=refA m 0) zt (.slice A' 0 c');have rao:=An.one (refA m 0) (v:=.slice A' 0 c') rfl;have csz:=An.size (a:=ca) CT.out (.slice A' 0 c');have cai:=yv (a:=ca) CT.out (.slice A' 0 c');have cao:=An.one ca (v:=.slice A' 0 c') rfl;have p1:=put_live (refA m 0) zt (.slice A' 0 c') false;have p2:=put_state ({ refA m 0 with job:={ (refA m 0).job with live:=false } }:An) zt (.slice A' 0 c') 4
   have p3:({ ({ refA m 0 with job:={ (refA m 0).job with live:=false } }:An) with job:={ ({ refA m 0 with job:={ (refA m 0).job with live:=false } }:An).job with state:=4 } }:An).cells (.slice A' 0 c')=ca.cells (.slice A' 0 c'):=by rw[←HCA.out];rfl
   rw[p3]at p2;rw[←p1]at p2
   have fx:=fun(v:World) (D:List (Nat × Obj)) (hv:St W v J (D++(L'++F)))=>FIN.out ca CL.out HC.out v A' c' L' D hr' hv
   obtain⟨Q,hQ⟩:∃Q,(refA m 0).cells (.slice A' 0 c')=Q:=⟨_,rfl⟩;obtain⟨C,hC⟩:∃Q,ca.cells (.slice A' 0 c')=Q:=⟨_,rfl⟩;rw[hQ]at rsz rai rao p2 ⊢;rw[hC]at csz cai cao p2 fx
   have rfit:0+Q.size≤Tryz.zeroCells96.size:=by rw[rsz,zan];omega
   have rmany:zg Tryz.zeroCells96 0 Q.toList=Q:=by rw[zd _ _ (by rw[Array.length_toList,rsz,zan]),Array.toArray_toList]
   have cfit:0+C.size≤Tryz.zeroCells96.size:=by rw[csz,zan];omega
   have cmany:zg Tryz.zeroCells96 0 C.toList=C:=by rw[zd _ _ (by rw[Array.length_toList,csz,zan]),Array.toArray_toList]
   have l85:85 < Q.size:=by rw[rsz];omega
   have l83:83 < (zg Q 85 [.bool false]).size:=by rw[yd,rsz];omega
   have I1:Hid ((Tryz.prog.info? 4).map (·.size)=some 1):=za (by kernel_rfl);have I2:Hid ((Tryz.prog.info? 3).map (·.size)=some 1):=za (by kernel_rfl);have H3:=za h3;have RAI:=za rai;have RAO:=za rao;have RFIT:=za rfit;have RMANY:=za rmany;have FX:=za fx;have CAI:=za cai;have CAO:=za cao;have CFIT:=za cfit;have CMANY:=za cmany;have P2:=za p2;have L85:=za l85;have L83:=za l83;clear h2 h3 hr' rai rao rfit rmany fx hQ hC rsz csz cai cao cfit cmany p1 p2 p3 l85 l83 KX H1
   go_wp2_with (with_reducible refine zc rfl 96 (.tmp 5) (.tmp 28) rfl (g:=w2.heap.size) (off:=0) Q rfl rfl H3.out RFIT.out RAI.out RAO.out ?_;intro w4 h4;refine Hid.out ?_)
   refine za ?_;rw[RMANY.out]at h4;obtain⟨g5,hg5⟩:∃y,w2.heap.size=y:=⟨_,rfl⟩;rw[hg5]at h4 ⊢;have H4:=za h4;clear h4 H3
   go_wp2_with (with_reducible refine zk rfl 4 (.tmp 30) (.const (.bool false)) rfl (g:=g5) (off:=85) (.bool false) rfl rfl rfl H4.out L85.out I1.out rfl ?_;intro w5 h5;refine Hid.out ?_)
   refine za ?_;have H5:=za h5;clear h5 H4
   go_wp2_with (with_reducible refine zk rfl 3 (.tmp 32) (.const (.int .i64 4)) rfl (g:=g5) (off:=83) (.int .i64 4) rfl rfl rfl H5.out L83.out I2.out rfl ?_;intro w6 h6;refine Hid.out ?_)
   refine za ?_;rw[P2.out]at h6;have R6:Hid (w6.rangeAt g5 0 C.toList):=za (fun j u hj=>by rw[Nat.zero_add,h6.cell (g:=g5) (cs:=C) (t:=96) (fr:=(0,0)) (List.mem_cons_self ..) j];simpa using hj);have h7:=h6.perm (L':=(g,.cells Tryz.zeroCells96 96 (0,0))::(g5,.cells C 96 (0,0))::(L'++F)) ze;have H7:=za h7;clear h6 h7 H5
   go_wp2_with (first|(with_reducible refine zb 33 rfl (by kernel_rfl) 96 (.tmp 5) rfl g5 0 rfl C _ R6.out Tryz.underlying96 rfl CAI.out ?_)|(with_reducible refine zc rfl 96 (.tmp 4) (.tmp 33) rfl (g:=g) (off:=0) C rfl rfl H7.out CFIT.out CAI.out CAO.out ?_;intro w8 h8;refine Hid.out ?_))
   refine za ?_;rw[CMANY.out]at h8;have HZ:=za h8;clear h8 H7 R6;go_wp2_with fail;refine bodyPost_ret (zp rfl _ _ g 96 C (0,0) _ rfl (HZ.out.own (g,.cells C 96 (0,0)) (List.mem_cons_self ..)) Tryz.underlying96 (by kernel_rfl) CAI.out) rfl ?_;exact FX.out _ [_,_] HZ.out
  ·have b0:(x != 0)=true:=by simpa using h0
   by_cases h2:x=nb
   ·have b1:(x != nb)=false:=by simpa using h2
    have hc:R=ca:=by rw[hD,b1];simp
    clear hD K252 h2 h0;have KX:=za (K0.out _ _ H1.out (List.mem_cons_of_mem _ HM.out));have HC:=za hc;clear hc
    go_enter Tryz.func70,Tryz.ntmps70
    go_wp2_with fail;refine KX.out.mono ?_;rintro e w2 ⟨A',c',L',rfl,hr',h2⟩;have h3:=h2.alloc (.cells Tryz.zeroCells96 96);have rsz:=An.size (a:=refA m 0) zt (.slice A' 0 c');have rai:=yv (a:=refA m 0) zt (.slice A' 0 c');have rao:=An.one (refA m 0) (v:=.slice A' 0 c') rfl;have csz:=An.size (a:=ca) CT.out (.slice A' 0 c');have cai:=yv (a:=ca) CT.out (.slice A' 0 c');have cao:=An.one ca (v:=.slice A' 0 c') rfl;have p1:=put_live (refA m 0) zt (.slice A' 0 c') false;have p2:=put_state ({ refA m 0 with job:={ (refA m 0).job with live:=false } }:An) zt (.slice A' 0 c') 4
    have p3:({ ({ refA m 0 with job:={ (refA m 0).job with live:=false } }:An) with job:={ ({ refA m 0 with job:={ (refA m 0).job with live:=false } }:An).job with state:=4 } }:An).cells (.slice A' 0 c')=ca.cells (.slice A' 0 c'):=by rw[←HCA.out];rfl
    rw[p3]at p2;rw[←p1]at p2
    have fx:=fun(v:World) (D:List (Nat × Obj)) (hv:St W v J (D++(L'++F)))=>FIN.out ca CL.out HC.out v A' c' L' D hr' hv
    obtain⟨Q,hQ⟩:∃Q,(refA m 0).cells (.slice A' 0 c')=Q:=⟨_,rfl⟩;obtain⟨C,hC⟩:∃Q,ca.cells (.slice A' 0 c')=Q:=⟨_,rfl⟩;rw[hQ]at rsz rai rao p2 ⊢;rw[hC]at csz cai cao p2 fx
    have rfit:0+Q.size≤Tryz.zeroCells96.size:=by rw[rsz,zan];omega
    have rmany:zg Tryz.zeroCells96 0 Q.toList=Q:=by rw[zd _ _ (by rw[Array.length_toList,rsz,zan]),Array.toArray_toList]
    have cfit:0+C.size≤Tryz.zeroCells96.size:=by rw[csz,zan];omega
    have cmany:zg Tryz.zeroCells96 0 C.toList=C:=by rw[zd _ _ (by rw[Array.length_toList,csz,zan]),Array.toArray_toList]
    have l85:85 < Q.size:=by rw[rsz];omega
    have l83:83 < (zg Q 85 [.bool false]).size:=by rw[yd,rsz];omega
    have I1:Hid ((Tryz.prog.info? 4).map (·.size)=some 1):=za (by kernel_rfl);have I2:Hid ((Tryz.prog.info? 3).map (·.size)=some 1):=za (by kernel_rfl);have H3:=za h3;have RAI:=za rai;have RAO:=za rao;have RFIT:=za rfit;have RMANY:=za rmany;have FX:=za fx;have CAI:=za cai;have CAO:=za cao;have CFIT:=za cfit;have CMANY:=za cmany;have P2:=za p2;have L85:=za l85;have L83:=za l83;clear h2 h3 hr' rai rao rfit rmany fx hQ hC rsz csz cai cao cfit cmany p1 p2 p3 l85 l83 KX H1
    go_wp2_with (with_reducible refine zc rfl 96 (.tmp 5) (.tmp 28) rfl (g:=w2.heap.size) (off:=0) Q rfl rfl H3.out RFIT.out RAI.out RAO.out ?_;intro w4 h4;refine Hid.out ?_)
    refine za ?_;rw[RMANY.out]at h4;obtain⟨g5,hg5⟩:∃y,w2.heap.size=y:=⟨_,rfl⟩;rw[hg5]at h4 ⊢;have H4:=za h4;clear h4 H3
    go_wp2_with (with_reducible refine zk rfl 4 (.tmp 30) (.const (.bool false)) rfl (g:=g5) (off:=85) (.bool false) rfl rfl rfl H4.out L85.out I1.out rfl ?_;intro w5 h5;refine Hid.out ?_)
    refine za ?_;have H5:=za h5;clear h5 H4
    go_wp2_with (with_reducible refine zk rfl 3 (.tmp 32) (.const (.int .i64 4)) rfl (g:=g5) (off:=83) (.int .i64 4) rfl rfl rfl H5.out L83.out I2.out rfl ?_;intro w6 h6;refine Hid.out ?_)
    refine za ?_;rw[P2.out]at h6;have R6:Hid (w6.rangeAt g5 0 C.toList):=za (fun j u hj=>by rw[Nat.zero_add,h6.cell (g:=g5) (cs:=C) (t:=96) (fr:=(0,0)) (List.mem_cons_self ..) j];simpa using hj);have h7:=h6.perm (L':=(g,.cells Tryz.zeroCells96 96 (0,0))::(g5,.cells C 96 (0,0))::(L'++F)) ze;have H7:=za h7;clear h6 h7 H5
    go_wp2_with (first|(with_reducible refine zb 33 rfl (by kernel_rfl) 96 (.tmp 5) rfl g5 0 rfl C _ R6.out Tryz.underlying96 rfl CAI.out ?_)|(with_reducible refine zc rfl 96 (.tmp 4) (.tmp 33) rfl (g:=g) (off:=0) C rfl rfl H7.out CFIT.out CAI.out CAO.out ?_;intro w8 h8;refine Hid.out ?_))
    refine za ?_;rw[CMANY.out]at h8;have HZ:=za h8;clear h8 H7 R6;go_wp2_with fail;refine bodyPost_ret (zp rfl _ _ g 96 C (0,0) _ rfl (HZ.out.own (g,.cells C 96 (0,0)) (List.mem_cons_self ..)) Tryz.underlying96 (by kernel_rfl) CAI.out) rfl ?_;exact FX.out _ [_,_] HZ.out
   ·have b1:(x != nb)=true:=by simpa using h2
    have hc:R=refA m 252:=by rw[hD,b0,b1];simp
    clear hD K0 h2 h0;have KX:=za (K252.out _ _ H1.out (List.mem_cons_of_mem _ HM.out));have HC:=za hc;clear hc
    go_enter Tryz.func70,Tryz.ntmps70
    go_wp2_with fail;refine KX.out.mono ?_;rintro e w2 ⟨A',c',L',rfl,hr',h2⟩;have h3:=h2.perm (L':=(g,.cells Tryz.zeroCells96 96 (0,0))::(L'++F)) ze;have rsz:=An.size (a:=refA m 252) zt (.slice A' 0 c');have rai:=yv (a:=refA m 252) zt (.slice A' 0 c');have rao:=An.one (refA m 252) (v:=.slice A' 0 c') rfl
    have fx:=fun(v:World) (cs:Array Value) (hv:St W v J ((g,.cells cs 96 (0,0))::(L'++F)))=>FIN.out (refA m 252) rfl HC.out v A' c' L' [(g,.cells cs 96 (0,0))] hr' hv
    obtain⟨Q,hQ⟩:∃Q,(refA m 252).cells (.slice A' 0 c')=Q:=⟨_,rfl⟩;rw[hQ]at rsz rai rao fx ⊢
    have rfit:0+Q.size≤Tryz.zeroCells96.size:=by rw[rsz,zan];omega
    have rmany:zg Tryz.zeroCells96 0 Q.toList=Q:=by rw[zd _ _ (by rw[Array.length_toList,rsz,zan]),Array.toArray_toList]
    have H3:=za h3;have RAI:=za rai;have RAO:=za rao;have RFIT:=za rfit;have RMANY:=za rmany;have FX:=za fx;clear h2 h3 hr' rai rao rfit rmany fx hQ rsz KX H1
    go_wp2_with (with_reducible refine zc rfl 96 (.tmp 4) (.tmp 26) rfl (g:=g) (off:=0) Q rfl rfl H3.out RFIT.out RAI.out RAO.out ?_;intro w4 h4;refine Hid.out ?_)
    refine za ?_;rw[RMANY.out]at h4;have HZ:=za h4;clear h4 H3;go_wp2_with fail;refine bodyPost_ret (zp rfl _ _ g 96 Q (0,0) _ rfl (HZ.out.own (g,.cells Q 96 (0,0)) (List.mem_cons_self ..)) Tryz.underlying96 (by kernel_rfl) RAI.out) rfl ?_;exact FX.out _ _ HZ.out
end
end

section
set_option linter.unusedVariables false
set_option linter.unusedSimpArgs false
open Go.RowKit Go.Lib Go.Deep
section
variable {W w:World} {J:Nat→Option Obj} {t:Tb} {F:List (Nat × Obj)}
def rebA (m:Md):An:=if m.job.live=true then refA m 251 else if (planT m.known).1 < 0 then refA m 121 else ⟨⟨0,0,0,(planT m.known).1,0,zTb⟩,true,(planT m.known).2,zJ,m.began⟩
theorem run_build_rslot (p:Int) (w:World):(Instr.build 52 #[(3,.int .i64 p)]).run Tryz.prog w=.ok (.agg (⟨0,0,0,p,0,zTb⟩:Ry).cells) w:=run_build w _ _ _ (by kernel_rfl)
theorem run_build_reb (p b:Int) (l:List Cg) (A:Option Addr) (n c:Nat) (w:World):(Instr.build 96 #[(0,.agg (⟨0,0,0,p,0,zTb⟩:Ry).cells),(1,.bool true),(2,.slice A n c),(4,.int .i64 b)]).run Tryz.prog w=.ok (.agg ((⟨⟨0,0,0,p,0,zTb⟩,true,l,zJ,b⟩:An).cells (.slice A n c))) w:=run_build w _ _ _ (by kernel_rfl)
theorem o_reboot {m:Md} {nv:Value} {gm:Nat} (ok:m.Ok) (h:St W w J F) (hm:(gm,Obj.cells (m.cells nv) 88 (0,0))∈F):Calls Tryz.prog 74 #[.pointer (some ⟨gm,0,none⟩)] w (OPost W J F (rebA m)):=by
 have h1:=h.alloc (.cells Tryz.zeroCells96 96);obtain⟨g,hg⟩:∃g,w.heap.size=g:=⟨_,rfl⟩;rw[hg]at h1
 have mt:∀(v:World) (X:List (Nat × Obj)),St W v J X→(gm,Obj.cells (m.cells nv) 88 (0,0))∈X→v.cell? ⟨gm,80,none⟩=some (.bool m.job.live)∧v.cell? ⟨gm,83,none⟩=some (.int .i64 m.began)∧v.rangeAt gm 0 m.known.cells.toList:=fun v X hv hx=>⟨(hv.md ok hx).live,(hv.md ok hx).began,(hv.md ok hx).tb.all⟩
 have kref:=fun(x:Int) (v:World) (X:List (Nat × Obj)) (hv:St W v J X) (hx:(gm,Obj.cells (m.cells nv) 88 (0,0))∈X)=>o_ref ok x hv hx
 have kp:=fun(v:World) (X:List (Nat × Obj)) (hv:St W v J X)=>b_plan ok.known hv
 have ti:=z7 ok.known
 have fin:∀(a:An),a.l=[]→rebA m=a→∀(v:World) (A':Option Addr) (c':Nat) (L' D:List (Nat × Obj)),Row 147 40 (.slice A' 0 c') 0 [] L'→St W v J (D++(L'++F))→OPost W J F (rebA m) (.returned (.agg (a.cells (.slice A' 0 c')))) v:=fun a hl ha v A' c' L' D hr' hv=>by
  rw[ha];exact⟨A',c',L',by rw[hl];rfl,by rw[hl];exact hr',hv.weaken⟩
 have fin2:∀(a:An),rebA m=a→∀(v:World) (A':Option Addr) (n c':Nat) (L' D:List (Nat × Obj)),n=a.l.length→Row 147 40 (.slice A' n c') n (cgs a.l) L'→St W v J (D++(L'++F))→OPost W J F (rebA m) (.returned (.agg (a.cells (.slice A' n c')))) v:=fun a ha v A' n c' L' D hn hr' hv=>by
  rw[ha];subst hn;exact⟨A',c',L',rfl,hr',hv.weaken⟩
 have hD:rebA m=if m.job.live=true then refA m 251 else if (planT m.known).1 < 0 then refA m 121 else ⟨⟨0,0,0,(planT m.known).1,0,zTb⟩,true,(planT m.known).2,zJ,m.began⟩:=rfl
 generalize rebA m=R at *;obtain⟨⟨p,l⟩,hPL⟩:∃r,planT m.known=r:=⟨_,rfl⟩;rw[hPL]at kp hD;unfold PPost at kp;simp only at kp hD;obtain⟨lv,hlv⟩:∃b,m.job.live=b:=⟨_,rfl⟩;obtain⟨bg,hbg⟩:∃b,m.began=b:=⟨_,rfl⟩;obtain⟨C,hC⟩:∃b,m.known.cells=b:=⟨_,rfl⟩;unfold Tb.val at kp;rw[hlv]at mt hD;rw[hbg]at mt hD;rw[hC]at mt ti kp;have FIN:=za fin;have FIN2:=za fin2;have KREF:=za kref;have MT:=za mt;have H1:=za h1;have HM:=za hm;have TI:=za ti;have HD:=za hD;obtain⟨-,-,rk⟩:=mt _ _ h1 (List.mem_cons_of_mem _ hm);have RK:=za rk;have KP:=za (kp _ _ h1);clear fin fin2 kref mt h1 hm h ti kp hD rk hPL hlv hbg hC ok
 go_enter Tryz.func74,Tryz.ntmps74
 go_wp2_with (with_reducible refine zb 9 rfl (by kernel_rfl) 29 (.tmp 8) rfl gm 0 rfl C _ RK.out Tryz.underlying29 rfl TI.out ?_)
 refine KP.out.mono ?_;rintro e w2 ⟨A,c,L,rfl,hr,h2⟩;obtain⟨m80,m83,-⟩:=MT.out _ _ h2 (List.mem_append_right L (List.mem_cons_of_mem _ HM.out));have h2':=h2.perm (L':=(g,.cells Tryz.zeroCells96 96 (0,0))::(L++F)) ze;have H2:=za h2';have HR:=za hr;clear h2 h2' hr H1 KP RK
 cases lv with
 | true=>
  have HC:Hid (R=refA m 251):=za (by rw[HD.out];simp);have KX:=za (KREF.out 251 _ _ H2.out (List.mem_cons_of_mem _ (List.mem_append_right L HM.out)));clear KREF FIN2;go_wp2_with fail;refine KX.out.mono ?_;rintro e w3 ⟨A',c',L',rfl,hr',h2⟩;have h3:=h2.perm (L':=(g,.cells Tryz.zeroCells96 96 (0,0))::(L'++(L++F))) ze;have rsz:=An.size (a:=refA m 251) zt (.slice A' 0 c');have rai:=yv (a:=refA m 251) zt (.slice A' 0 c');have rao:=An.one (refA m 251) (v:=.slice A' 0 c') rfl
  have fx:=fun(v:World) (cs:Array Value) (hv:St W v J ((g,.cells cs 96 (0,0))::(L'++(L++F))))=>FIN.out (refA m 251) rfl HC.out v A' c' L' ((g,.cells cs 96 (0,0))::L) hr' (hv.perm ze)
  obtain⟨Q,hQ⟩:∃Q,(refA m 251).cells (.slice A' 0 c')=Q:=⟨_,rfl⟩;rw[hQ]at rsz rai rao fx ⊢
  have rfit:0+Q.size≤Tryz.zeroCells96.size:=by rw[rsz,zan];omega
  have rmany:zg Tryz.zeroCells96 0 Q.toList=Q:=by rw[zd _ _ (by rw[Array.length_toList,rsz,zan]),Array.toArray_toList]
  have H3:=za h3;have RAI:=za rai;have RAO:=za rao;have RFIT:=za rfit;have RMANY:=za rmany;have FX:=za fx;clear h2 h3 hr' rai rao rfit rmany fx hQ rsz KX
  go_wp2_with (with_reducible refine zc rfl 96 (.tmp 2) (.tmp 20) rfl (g:=g) (off:=0) Q rfl rfl H3.out RFIT.out RAI.out RAO.out ?_;intro w4 h4;refine Hid.out ?_)
  refine za ?_;rw[RMANY.out]at h4;have HZ:=za h4;clear h4 H3;go_wp2_with fail;refine bodyPost_ret (zp rfl _ _ g 96 Q (0,0) _ rfl (HZ.out.own (g,.cells Q 96 (0,0)) (List.mem_cons_self ..)) Tryz.underlying96 (by kernel_rfl) RAI.out) rfl ?_;exact FX.out _ _ HZ.out
 | false=>
  by_cases hp:p < 0
  ·have HC:Hid (R=refA m 121):=za (by rw[HD.out];simp[hp])
   have KX:=za (KREF.out 121 _ _ H2.out (List.mem_cons_of_mem _ (List.mem_append_right L HM.out)));clear KREF FIN2;go_wp2_with fail;refine KX.out.mono ?_;rintro e w3 ⟨A',c',L',rfl,hr',h2⟩;have h3:=h2.perm (L':=(g,.cells Tryz.zeroCells96 96 (0,0))::(L'++(L++F))) ze;have rsz:=An.size (a:=refA m 121) zt (.slice A' 0 c');have rai:=yv (a:=refA m 121) zt (.slice A' 0 c');have rao:=An.one (refA m 121) (v:=.slice A' 0 c') rfl
   have fx:=fun(v:World) (cs:Array Value) (hv:St W v J ((g,.cells cs 96 (0,0))::(L'++(L++F))))=>FIN.out (refA m 121) rfl HC.out v A' c' L' ((g,.cells cs 96 (0,0))::L) hr' (hv.perm ze)
   obtain⟨Q,hQ⟩:∃Q,(refA m 121).cells (.slice A' 0 c')=Q:=⟨_,rfl⟩;rw[hQ]at rsz rai rao fx ⊢
   have rfit:0+Q.size≤Tryz.zeroCells96.size:=by rw[rsz,zan];omega
   have rmany:zg Tryz.zeroCells96 0 Q.toList=Q:=by rw[zd _ _ (by rw[Array.length_toList,rsz,zan]),Array.toArray_toList]
   have H3:=za h3;have RAI:=za rai;have RAO:=za rao;have RFIT:=za rfit;have RMANY:=za rmany;have FX:=za fx;clear h2 h3 hr' rai rao rfit rmany fx hQ rsz KX
   go_wp2_with (with_reducible refine zc rfl 96 (.tmp 2) (.tmp 25) rfl (g:=g) (off:=0) Q rfl rfl H3.out RFIT.out RAI.out RAO.out ?_;intro w4 h4;refine Hid.out ?_)
   refine za ?_;rw[RMANY.out]at h4;have HZ:=za h4;clear h4 H3;go_wp2_with fail;refine bodyPost_ret (zp rfl _ _ g 96 Q (0,0) _ rfl (HZ.out.own (g,.cells Q 96 (0,0)) (List.mem_cons_self ..)) Tryz.underlying96 (by kernel_rfl) RAI.out) rfl ?_;exact FX.out _ _ HZ.out
  ·have hc:R=⟨⟨0,0,0,p,0,zTb⟩,true,l,zJ,bg⟩:=by rw[HD.out];simp[hp]
   obtain⟨an,han⟩:∃a,(⟨⟨0,0,0,p,0,zTb⟩,true,l,zJ,bg⟩:An)=a:=⟨_,rfl⟩
   have al:an.l=l:=by rw[←han]
   have ato:an.rep.t.Ok:=by rw[←han];exact zt
   have csz:=An.size (a:=an) ato (.slice A l.length c);have cai:=yv (a:=an) ato (.slice A l.length c);have cao:=An.one an (v:=.slice A l.length c) rfl;have b1:=run_build_rslot p;have b2:=run_build_reb p bg l A l.length c;rw[han]at hc b2
   have fx:=fun(v:World) (D:List (Nat × Obj)) (hv:St W v J (D++(L++F)))=>FIN2.out an hc v A l.length c L D (by rw[al]) (by rw[al];exact HR.out) hv
   obtain⟨Q,hQ⟩:∃Q,an.cells (.slice A l.length c)=Q:=⟨_,rfl⟩;obtain⟨RX,hRX⟩:∃Q,(⟨0,0,0,p,0,zTb⟩:Ry).cells=Q:=⟨_,rfl⟩;rw[hQ]at csz cai cao b2 fx;rw[hRX]at b1 b2
   have rfit:0+Q.size≤Tryz.zeroCells96.size:=by rw[csz,zan];omega
   have rmany:zg Tryz.zeroCells96 0 Q.toList=Q:=by rw[zd _ _ (by rw[Array.length_toList,csz,zan]),Array.toArray_toList]
   have RAI:=za cai;have RAO:=za cao;have RFIT:=za rfit;have RMANY:=za rmany;have FX:=za fx;have HB1:=za b1;have HB2:=za b2;clear cai cao rfit rmany fx hQ csz b1 b2 hRX han al ato hc KREF FIN FIN2;generalize l.length=n at *
   go_wp2_with (first|(with_reducible refine zh rfl 52 _ rfl _ ?_ (HB1.out _) ?_;·go_simp)|(with_reducible refine zh rfl 96 _ rfl _ ?_ (HB2.out _) ?_;·go_simp)|(with_reducible refine zc rfl 96 (.tmp 2) (.tmp 33) rfl (g:=g) (off:=0) Q rfl rfl H2.out RFIT.out RAI.out RAO.out ?_;intro w4 h4;refine Hid.out ?_))
   refine za ?_;rw[RMANY.out]at h4;have HZ:=za h4;clear h4 H2;go_wp2_with fail;refine bodyPost_ret (zp rfl _ _ g 96 Q (0,0) _ rfl (HZ.out.own (g,.cells Q 96 (0,0)) (List.mem_cons_self ..)) Tryz.underlying96 (by kernel_rfl) RAI.out) rfl ?_;exact FX.out _ [_] HZ.out
end
end

section
set_option linter.unusedVariables false
set_option linter.unusedSimpArgs false
open Go.RowKit Go.Lib Go.Deep
section
variable {W w:World} {J:Nat→Option Obj} {t:Tb} {F:List (Nat × Obj)}
def keptB (x:Int):Bool:=x==0||(x==92||x==64)
theorem zaj (n:Int) (w:World):Calls Tryz.prog 67 #[.int .i64 n] w fun e w'=>e=.returned (.bool (keptB n))∧w=w':=by
 unfold keptB;obtain⟨b0,h0⟩:∃b,(n==0)=b:=⟨_,rfl⟩;obtain⟨b1,h1⟩:∃b,(n==92)=b:=⟨_,rfl⟩;rw[h0,h1]
 cases b0<;>cases b1<;>
 ·go_enter Tryz.func67,Tryz.ntmps67
  go_wp2_with fail;go_ret;exact⟨by simp,rfl⟩
theorem o_live {m:Md} {nv:Value} {gm:Nat} (ok:m.Ok) (h:St W w J F) (hm:(gm,Obj.cells (m.cells nv) 88 (0,0))∈F):Calls Tryz.prog 23 #[.pointer (some ⟨gm,0,none⟩)] w fun e w'=>e=.returned (.bool m.job.live)∧w=w':=by
 have c:=(h.md ok hm).live;clear h hm ok
 go_enter Tryz.func23,Tryz.ntmps23
 go_wp2_with fail;go_ret;exact⟨rfl,rfl⟩
def zA:An:=⟨⟨0,0,0,0,0,zTb⟩,false,[],zJ,0⟩
def storedA (m:Md) (a:An) (x:Int):An × Bool:=if (!keptB x||(x != 0&&!a.keeps))=true then (zA,false) else if x≠0 then (refA m x,true) else (a,true)
def TPost (W:World) (J:Nat→Option Obj) (F:List (Nat × Obj)) (r:An × Bool) (e:Ending) (w':World):Prop:=
 ∃A c L,e=.returned (.tuple #[.agg (r.1.cells (.slice A r.1.l.length c)),.bool r.2])∧Row 147 40 (.slice A r.1.l.length c) r.1.l.length (cgs r.1.l) L∧St W w' J (L++F)
theorem run_build_za (w:World):(Instr.build 96 #[]).run Tryz.prog w=.ok (.agg (zA.cells (.slice none 0 0))) w:=run_build w _ _ _ (by kernel_rfl)
theorem o_stored {m:Md} {nv:Value} {gm n c:Nat} {A:Option Addr} {a:An} {L:List (Nat × Obj)} (ok:m.Ok) (x:Int) (ato:a.rep.t.Ok) (hr:Row 147 40 (.slice A n c) n (cgs a.l) L) (hn:n=a.l.length) (h:St W w J (L++F)) (hm:(gm,Obj.cells (m.cells nv) 88 (0,0))∈F) :
  Calls Tryz.prog 40 #[.pointer (some ⟨gm,0,none⟩),.agg (a.cells (.slice A n c)),.int .i64 x] w (TPost W J F (storedA m a x)):=by
 have h1:=(h.alloc (.cells (a.cells (.slice A n c)) 96)).alloc (.cells Tryz.zeroCells96 96);obtain⟨g,hg⟩:∃g,w.heap.size=g:=⟨_,rfl⟩;rw[World.size_alloc,hg]at h1
 have kref:=fun(v:World) (X:List (Nat × Obj)) (hv:St W v J X) (hx:(gm,Obj.cells (m.cells nv) 88 (0,0))∈X)=>o_ref ok x hv hx
 have fin:∀(q:An) (b:Bool),storedA m a x=(q,b)→∀(v:World) (A':Option Addr) (n' c':Nat) (L' D:List (Nat × Obj)),n'=q.l.length→Row 147 40 (.slice A' n' c') n' (cgs q.l) L'→St W v J (D++(L'++F))→TPost W J F (storedA m a x) (.returned (.tuple #[.agg (q.cells (.slice A' n' c')),.bool b])) v:=fun q b hq v A' n' c' L' D hn' hr' hv=>by
  rw[hq];subst hn';exact⟨A',c',L',rfl,hr',hv.weaken⟩
 have hD:storedA m a x=if (!keptB x||(x != 0&&!a.keeps))=true then (zA,false) else if x≠0 then (refA m x,true) else (a,true):=rfl
 generalize storedA m a x=R at *
 have kat:∀(v:World) (X:List (Nat × Obj)),St W v J X→(g,Obj.cells (a.cells (.slice A n c)) 96 (0,0))∈X→v.cell? ⟨g,80,none⟩=some (.bool a.keeps)∧v.rangeAt g 0 (a.cells (.slice A n c)).toList:=fun v X hv hx=>⟨(hv.cell hx 80).trans (An.g80 ato _ 0),fun j u hj=>by rw[Nat.zero_add,hv.cell hx j];simpa using hj⟩
 have rsz:=An.size (a:=a) ato (.slice A n c);have rai:=yv (a:=a) ato (.slice A n c);have rao:=An.one a (v:=.slice A n c) rfl;obtain⟨CA,hCA⟩:∃C,a.cells (.slice A n c)=C:=⟨_,rfl⟩;have HCA:=za hCA;rw[hCA]at kat h1 rsz rai rao ⊢
 have rfit:0+CA.size≤Tryz.zeroCells96.size:=by rw[rsz,zan];omega
 have rmany:zg Tryz.zeroCells96 0 CA.toList=CA:=by rw[zd _ _ (by rw[Array.length_toList,rsz,zan]),Array.toArray_toList]
 obtain⟨k80,ra0⟩:=kat _ _ h1 (by simp);have FIN:=za fin;have KREF:=za kref;have H1:=za h1;have HM:=za hm;have HD:=za hD;have HROW:=za hr;have HN:=za hn;have RA0:=za ra0;obtain⟨KP,hKP⟩:∃b,keptB x=b:=⟨_,rfl⟩;obtain⟨KS,hKS⟩:∃b,a.keeps=b:=⟨_,rfl⟩;rw[hKS]at k80;have HKP:=za hKP;have HD:Hid (R=if (!KP||(x != 0&&!KS))=true then (zA,false) else if x≠0 then (refA m x,true) else (a,true)):=za (by rw[←hKP,←hKS];exact HD.out);clear fin kref h1 h hm hD hr hn ra0 hKP hKS hCA kat ato ok
 cases KP with
 | false=>
  clear rsz rai rao rfit rmany
  have hc:R=(zA,false):=by rw[HD.out];simp_all
  have rsz:=An.size (a:=zA) zt (.slice none 0 0);have rai:=yv (a:=zA) zt (.slice none 0 0);have rao:=An.one zA (v:=(.slice none 0 0)) rfl;obtain⟨Q,hQ⟩:∃Q,zA.cells (.slice none 0 0)=Q:=⟨_,rfl⟩
  have fx:=fun(v:World) (cs:Array Value) (hv:St W v J ((g+1,.cells cs 96 (0,0))::(g,.cells CA 96 (0,0))::(L++F)))=>FIN.out zA false hc v none 0 0 [] ([(g+1,.cells cs 96 (0,0)),(g,.cells CA 96 (0,0))]++L) rfl (Row.nil _ _) (by rw[List.append_assoc];exact hv)
  have bz:=run_build_za;rw[hQ]at rsz rai rao fx bz
  have rfit:0+Q.size≤Tryz.zeroCells96.size:=by rw[rsz,zan];omega
  have rmany:zg Tryz.zeroCells96 0 Q.toList=Q:=by rw[zd _ _ (by rw[Array.length_toList,rsz,zan]),Array.toArray_toList]
  have RAI:=za rai;have RAO:=za rao;have RFIT:=za rfit;have RMANY:=za rmany;have FX:=za fx;clear rai rao rfit rmany fx hQ rsz;have HBZ:=za bz;clear bz hc HD FIN KREF
  go_enter Tryz.func40,Tryz.ntmps40
  go_wp2_with (first|(go_at_call 67;(with_reducible refine(zaj x _).mono ?_);rintro e wq ⟨rfl,rfl⟩;rw[HKP.out])|(with_reducible refine zh rfl 96 _ rfl _ ?_ (HBZ.out _) ?_;·go_simp)|(with_reducible refine zc rfl 96 (.tmp 6) (.tmp 21) rfl (g:=g+1) (off:=0) Q rfl rfl H1.out RFIT.out RAI.out RAO.out ?_;intro w4 h4;refine Hid.out ?_))
  refine za ?_;rw[RMANY.out]at h4;have HZ:=za h4;clear h4 H1;go_wp2_with fail;refine bodyPost_ret (zr rfl _ _ (g+1) 96 Q (0,0) _ _ rfl rfl (HZ.out.own (g+1,.cells Q 96 (0,0)) (by simp)) Tryz.underlying96 (by kernel_rfl) RAI.out) rfl ?_;exact FX.out _ _ HZ.out
 | true=>
  by_cases hx:x=0
  ·subst hx
   have RAI:=za rai;have RAO:=za rao;have RFIT:=za rfit;have RMANY:=za rmany;clear rsz rai rao rfit rmany
   have hc:R=(a,true):=by rw[HD.out];simp_all
   have fx:=fun(v:World) (cs:Array Value) (hv:St W v J ((g+1,.cells cs 96 (0,0))::(g,.cells CA 96 (0,0))::(L++F)))=>FIN.out a true hc v A n c L [(g+1,.cells cs 96 (0,0)),(g,.cells CA 96 (0,0))] HN.out HROW.out hv
   rw[HCA.out]at fx;have FX:=za fx;clear fx hc HD FIN KREF
   go_enter Tryz.func40,Tryz.ntmps40
   go_wp2_with (first|(go_at_call 67;(with_reducible refine(zaj 0 _).mono ?_);rintro e wq ⟨rfl,rfl⟩;rw[HKP.out])|(with_reducible refine zb 28 rfl (by kernel_rfl) 96 (.tmp 4) rfl g 0 rfl CA _ RA0.out Tryz.underlying96 rfl RAI.out ?_)|(with_reducible refine zc rfl 96 (.tmp 6) (.tmp 28) rfl (g:=g+1) (off:=0) CA rfl rfl H1.out RFIT.out RAI.out RAO.out ?_;intro w4 h4;refine Hid.out ?_))
   refine za ?_;rw[RMANY.out]at h4;have HZ:=za h4;clear h4 H1;go_wp2_with fail;refine bodyPost_ret (zr rfl _ _ (g+1) 96 CA (0,0) _ _ rfl rfl (HZ.out.own (g+1,.cells CA 96 (0,0)) (by simp)) Tryz.underlying96 (by kernel_rfl) RAI.out) rfl ?_;exact FX.out _ _ HZ.out
  ·have b1:(x != 0)=true:=by simpa using hx
   clear rsz rai rao rfit rmany
   cases KS with
   | false=>
    have hc:R=(zA,false):=by rw[HD.out];simp_all
    have rsz:=An.size (a:=zA) zt (.slice none 0 0);have rai:=yv (a:=zA) zt (.slice none 0 0);have rao:=An.one zA (v:=(.slice none 0 0)) rfl;obtain⟨Q,hQ⟩:∃Q,zA.cells (.slice none 0 0)=Q:=⟨_,rfl⟩
    have fx:=fun(v:World) (cs:Array Value) (hv:St W v J ((g+1,.cells cs 96 (0,0))::(g,.cells CA 96 (0,0))::(L++F)))=>FIN.out zA false hc v none 0 0 [] ([(g+1,.cells cs 96 (0,0)),(g,.cells CA 96 (0,0))]++L) rfl (Row.nil _ _) (by rw[List.append_assoc];exact hv)
    have bz:=run_build_za;rw[hQ]at rsz rai rao fx bz
    have rfit:0+Q.size≤Tryz.zeroCells96.size:=by rw[rsz,zan];omega
    have rmany:zg Tryz.zeroCells96 0 Q.toList=Q:=by rw[zd _ _ (by rw[Array.length_toList,rsz,zan]),Array.toArray_toList]
    have RAI:=za rai;have RAO:=za rao;have RFIT:=za rfit;have RMANY:=za rmany;have FX:=za fx;clear rai rao rfit rmany fx hQ rsz;have HBZ:=za bz;clear bz hc HD FIN KREF
    go_enter Tryz.func40,Tryz.ntmps40
    go_wp2_with (first|(go_at_call 67;(with_reducible refine(zaj x _).mono ?_);rintro e wq ⟨rfl,rfl⟩;rw[HKP.out])|(with_reducible refine zh rfl 96 _ rfl _ ?_ (HBZ.out _) ?_;·go_simp)|(with_reducible refine zc rfl 96 (.tmp 6) (.tmp 21) rfl (g:=g+1) (off:=0) Q rfl rfl H1.out RFIT.out RAI.out RAO.out ?_;intro w4 h4;refine Hid.out ?_))
    refine za ?_;rw[RMANY.out]at h4;have HZ:=za h4;clear h4 H1;go_wp2_with fail;refine bodyPost_ret (zr rfl _ _ (g+1) 96 Q (0,0) _ _ rfl rfl (HZ.out.own (g+1,.cells Q 96 (0,0)) (by simp)) Tryz.underlying96 (by kernel_rfl) RAI.out) rfl ?_;exact FX.out _ _ HZ.out
   | true=>
    have hc:R=(refA m x,true):=by rw[HD.out];simp_all
    have KX:=za (KREF.out _ _ H1.out (List.mem_cons_of_mem _ (List.mem_cons_of_mem _ (List.mem_append_right L HM.out))));clear HD KREF
    go_enter Tryz.func40,Tryz.ntmps40
    go_wp2_with (go_at_call 67;(with_reducible refine(zaj x _).mono ?_);rintro e wq ⟨rfl,rfl⟩;rw[HKP.out])
    refine KX.out.mono ?_;rintro e w3 ⟨A',c',L',rfl,hr',h2⟩;have h3:=h2.perm (L':=(g+1,.cells Tryz.zeroCells96 96 (0,0))::(g,.cells CA 96 (0,0))::L++(L'++F)) ze;have rsz:=An.size (a:=(refA m x)) zt (.slice A' 0 c');have rai:=yv (a:=(refA m x)) zt (.slice A' 0 c');have rao:=An.one (refA m x) (v:=(.slice A' 0 c')) rfl;obtain⟨Q,hQ⟩:∃Q,(refA m x).cells (.slice A' 0 c')=Q:=⟨_,rfl⟩
    have fx:=fun(v:World) (cs:Array Value) (hv:St W v J ((g+1,.cells cs 96 (0,0))::(g,.cells CA 96 (0,0))::L++(L'++F)))=>FIN.out (refA m x) true hc v A' 0 c' L' ([(g+1,.cells cs 96 (0,0)),(g,.cells CA 96 (0,0))]++L) rfl hr' (by exact hv)
    rw[hQ]at rsz rai rao fx ⊢
    have rfit:0+Q.size≤Tryz.zeroCells96.size:=by rw[rsz,zan];omega
    have rmany:zg Tryz.zeroCells96 0 Q.toList=Q:=by rw[zd _ _ (by rw[Array.length_toList,rsz,zan]),Array.toArray_toList]
    have RAI:=za rai;have RAO:=za rao;have RFIT:=za rfit;have RMANY:=za rmany;have FX:=za fx;clear rai rao rfit rmany fx hQ rsz;have H3:=za h3;clear h2 h3 hr' KX H1 hc FIN
    go_wp2_with (with_reducible refine zc rfl 96 (.tmp 6) (.tmp 27) rfl (g:=g+1) (off:=0) Q rfl rfl H3.out RFIT.out RAI.out RAO.out ?_;intro w4 h4;refine Hid.out ?_)
    refine za ?_;rw[RMANY.out]at h4;have HZ:=za h4;clear h4 H3;go_wp2_with fail;refine bodyPost_ret (zr rfl _ _ (g+1) 96 Q (0,0) _ _ rfl rfl (HZ.out.own (g+1,.cells Q 96 (0,0)) (by simp)) Tryz.underlying96 (by kernel_rfl) RAI.out) rfl ?_;exact FX.out _ _ HZ.out
end
end
end Go.Proofs.YtnjnooeldkideaaGreatDoor
