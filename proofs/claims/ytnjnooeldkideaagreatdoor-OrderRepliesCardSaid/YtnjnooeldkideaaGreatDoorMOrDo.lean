/- order: an entry. order: clones; a model's copy. slices that can be read, as rows; order: a model anew. A region that draws its order, whose last operation waits for all the others: the others under one condition on the world, then the last one. order: a model anew: the walk. -/
import Derived.Test.YtnjnooeldkideaaGreatDoorOrEd
import Derived.Test.YtnjnooeldkideaaGreatDoorMGlyphC
import Derived.OwnWalk
import Derived.Lib.MinMax
import Derived.Test.YtnjnooeldkideaaGreatDoorBase
import Derived.StillTail
import Derived.Deep.RegionWith
import Derived.Deep.RegionHeld3
import Derived.Test.YtnjnooeldkideaaGreatDoorMOrT
namespace Go.Proofs.YtnjnooeldkideaaGreatDoor
set_option maxRecDepth 100000
set_option maxHeartbeats 8000000
section
set_option linter.unusedVariables false
set_option linter.unusedSimpArgs false
open Go.RowKit Go.Lib Go.Deep
section
variable {W w:World} {J:Nat→Option Obj} {t:Tb} {F:List (Nat × Obj)}
variable {m:Md} {gm n c:Nat} {A:Option Addr} {ns:List ByteArray} {Ln:List (Nat × Obj)}
def doM (m:Md) (ns:List ByteArray) (e:En):Option Md:=if e.kind=1 then calledM m ns e else if e.kind=2 then endedM m e else none
theorem o_do (tb:Go.Proofs.YtnjnooeldkideaaGreatDoor.TB W J) (mo:MOk J m ns A n c Ln) (e:En) (eok:e.Ok) (hs:e.call.name.size≤1000000) (hLn:∀p∈Ln,p∈F) (h:St W w J ((gm,.cells (m.cells (.slice A n c)) 88 (0,0))::F)) :
  Calls Tryz.prog 17 #[.pointer (some ⟨gm,0,none⟩),e.val] w fun e' w'=>e'=.returned (.bool (doM m ns e).isSome)∧St W w' J ((gm,.cells (((doM m ns e).getD m).cells (.slice A n c)) 88 (0,0))::F):=by
 have h1:=h.alloc (.cells e.cells 54);obtain⟨g,hg⟩:∃g,w.heap.size=g:=⟨_,rfl⟩;rw[hg]at h1;have ea:=h1.en eok (List.mem_cons_self ..);have e0:=ea.kind;have er0:=ea.all;have eai:=qk eok;have h2:=h1.perm (L':=(gm,.cells (m.cells (.slice A n c)) 88 (0,0))::(g,.cells e.cells 54 (0,0))::F) ze;have kc:=o_called tb mo e eok hs (F:=(g,.cells e.cells 54 (0,0))::F) (fun p hp=>List.mem_cons_of_mem _ (hLn p hp)) h2;have ke:=o_ended mo.ok e eok h2
 have hD:doM m ns e=if e.kind=1 then calledM m ns e else if e.kind=2 then endedM m e else none:=rfl
 unfold En.val at *;obtain⟨EX,hEX⟩:∃y,e.cells=y:=⟨_,rfl⟩;obtain⟨kd,hkd⟩:∃y,e.kind=y:=⟨_,rfl⟩;rw[hEX]at h1 er0 eai kc ke e0 h2 ⊢;rw[hkd]at e0 hD;have H2:=za h2;have RA:=za er0;have EAI:=za eai;have KC:=za kc;have KE:=za ke;clear h1 h2 h er0 eai kc ke ea hEX hkd
 by_cases h1:kd=1
 ·subst h1
  rw[if_pos rfl]at hD;rw[hD];clear hD KE;generalize calledM m ns e=R at *
  go_enter Tryz.func17,Tryz.ntmps17
  go_wp2_with (with_reducible refine zb 10 rfl (by kernel_rfl) 54 (.tmp 3) rfl g 0 rfl EX _ RA.out Tryz.underlying54 rfl EAI.out ?_)
  refine KC.out.mono ?_;rintro e' w3 ⟨rfl,h3⟩;go_wp2_with fail;go_ret;exact⟨rfl,h3.keep [(g,.cells EX 54 (0,0))]⟩
 ·have b1:(kd==1)=false:=by simpa using h1
  rw[if_neg h1]at hD;clear KC
  by_cases h2:kd=2
  ·subst h2
   rw[if_pos rfl]at hD;rw[hD];clear hD h1;generalize endedM m e=R at *
   go_enter Tryz.func17,Tryz.ntmps17
   go_wp2_with (with_reducible refine zb 15 rfl (by kernel_rfl) 54 (.tmp 3) rfl g 0 rfl EX _ RA.out Tryz.underlying54 rfl EAI.out ?_)
   refine KE.out.mono ?_;rintro e' w3 ⟨rfl,h3⟩;go_wp2_with fail;go_ret;exact⟨rfl,h3.keep [(g,.cells EX 54 (0,0))]⟩
  ·have b2:(kd==2)=false:=by simpa using h2
   rw[if_neg h2]at hD;rw[hD];clear hD KE h1 h2
   go_enter Tryz.func17,Tryz.ntmps17
   go_wp2_with fail;go_ret;have h3:=H2.out
   (try rw[Option.getD_none])
   exact⟨rfl,h3.keep [(g,.cells EX 54 (0,0))]⟩
end
end

section
set_option linter.unusedVariables false
set_option linter.unusedSimpArgs false
open Go.RowKit Go.Lib Go.Deep
section
variable {W w:World} {J:Nat→Option Obj} {t:Tb} {F:List (Nat × Obj)}
theorem run_eqlnil {P:Program} (t:TypeId) {e:TypeId} (h:P.underlying t=some (.slice e)) (a:Option Addr) (l c:Nat) (w:World):(binOp .eql t (.slice a l c) (.slice none 0 0)).run P w=.ok (.bool a.isNone) w:=by
 simp[binOp,Sem.run_bind,run_equal_slice_nil w t e a l c h,Result.andThen]
theorem clone_strs (A:Option Addr) (n c:Nat) (xs:List Value) (Lx:List (Nat × Obj)) (hp:∀(v:World) (X:List (Nat × Obj)),St W v J X→(∀p∈Lx,p∈X)→Src v 1 A n xs) (hone:∀u∈xs,u.oneCell'=true) (hn:n≤1000) (h:St W w J F) (hL:∀p∈Lx,p∈F) :
  Calls Tryz.prog 50 #[.slice A n c] w fun e w'=>∃A' c' L',e=.returned (.slice A' n c')∧Row 9 1 (.slice A' n c') n xs L'∧St W w' J (L'++F):=by
 cases A with
 | none=>
  have hs:=hp w F h hL
  have hx:xs=[]:=by
   cases hb:xs with
   | nil=>rfl
   | cons x l=>
    obtain⟨ad,h1,_⟩:=hs.2 0 x (by rw[hb];rfl)
    cases h1
  have h0:n=0:=by
   have q:=hs.1;rw[hx]at q
   simp at q
   omega
  subst hx h0;have H:=za h
  have hq:=fun c=>run_eqlnil (P:=Tryz.prog) 30 Tryz.underlying30 none 0 c
  clear h hp hs hone
  go_enter Tryz.func50,Tryz.ntmps50
  go_wp2_with fail;go_ret;exact⟨none,0,[],rfl,Row.nil _ _,H.out⟩
 | some ad=>
  have h2:=h.alloc (.cells #[] 9);have hsrc:=hp _ _ h2 (fun p hp=>List.mem_cons_of_mem _ (hL p hp));have hr:=Row.empty 9 1 w.heap.size
  have hq:=fun l c=>run_eqlnil (P:=Tryz.prog) 30 Tryz.underlying30 (some ad) l c
  clear hp h
  go_enter Tryz.func50,Tryz.ntmps50
  go_wp2_with (at_builtin;refine Hid.out ?_)
  refine za ?_;refine z8 (F:=F) rfl (.tmp 5) (.tmp 6) 30 rfl 9 (.string ⟨#[]⟩) 1 16 Tryz.underlying30 (by kernel_rfl) (by kernel_rfl) (by omega) rfl hr (by exact h2) rfl (by exact hsrc) hone n (by omega) xs rfl (by unfold maxLen;omega) (by omega) ?_;intro A1 c1 w2 L1 hr1 h3 ho;have H3:=za h3;have HR:=za hr1;clear h3 hr1 ho h2 hsrc hr hone;go_wp2_with fail;go_ret;exact⟨_,_,_,rfl,HR.out,H3.out⟩
variable {m:Md} {gm n c:Nat} {A:Option Addr} {ns:List ByteArray} {Ln:List (Nat × Obj)}
theorem Nms.src (h:Nms A n c ns Ln) (v:World) (X:List (Nat × Obj)) (hv:St W v J X) (hL:∀p∈Ln,p∈X):Src v 1 A n (ns.map Value.string):=Row.src h (fun p hp=>hv.own p (hL p hp))
theorem zmd:Tryz.zeroCells88.size=84:=by kernel_rfl
theorem Md.one (m:Md) {v:Value} (hv:v.oneCell'=true):(m.cells v).all (·.oneCell')=true:=by
 have h0:m.known.cells.toList.all (·.oneCell')=true:=by have h:=m.known.one;rw[←Array.all_toList]at h;exact h
 unfold Md.cells;rw[List.all_toArray,List.all_append,List.all_append,List.all_append,h0]
 simp[Jb.list,hv]
 exact⟨rfl,⟨rfl,rfl,rfl,rfl,rfl,rfl⟩,rfl⟩
theorem Md.put_names {m:Md} (ok:m.known.Ok) (v v':Value):(m.cells v).setIfInBounds 75 v'=m.cells v':=by
 have h:=Tb.size ok;unfold Md.cells;rw[List.setIfInBounds_toArray,List.set_append_right _ _ (by simp;omega)]
 congr 2
 simp[h]
theorem o_copy (mo:MOk J m ns A n c Ln) (hLn:∀p∈Ln,p∈F) (h:St W w J F) (hm:(gm,Obj.cells (m.cells (.slice A n c)) 88 (0,0))∈F) :
  Calls Tryz.prog 21 #[.pointer (some ⟨gm,0,none⟩)] w fun e w'=>∃g' A' c' L',e=.returned (.pointer (some ⟨g',0,none⟩))∧MOk J m ns A' n c' L'∧St W w' J ((g',.cells (m.cells (.slice A' n c')) 88 (0,0))::(L'++F)):=by
 have ka:=fun(v:World) (X:List (Nat × Obj)) (hv:St W v J X) (hL:∀p∈Ln,p∈X)=>clone_strs A n c (ns.map Value.string) Ln (fun v X hv hL=>Nms.src mo.names v X hv hL) (fun u hu=>by obtain⟨b,_,rfl⟩:=List.mem_map.1 hu;rfl) mo.few hv hL
 have ra:w.rangeAt gm 0 (m.cells (.slice A n c)).toList:=fun j u hj=>by rw[Nat.zero_add,h.cell hm j];simpa using hj
 have m75:=(h.md mo.ok hm).names;have msz:=Md.size mo.ok.known (.slice A n c);have mai:=md_info mo.ok.known (.slice A n c);have mao:=Md.one m (v:=.slice A n c) rfl;have h1:=h.alloc (.cells Tryz.zeroCells88 88)
 have pn:=fun v'=>Md.put_names mo.ok.known (.slice A n c) v'
 have fin:∀(v:World) (g':Nat) (A':Option Addr) (c':Nat) (L':List (Nat × Obj)),Row 9 1 (.slice A' n c') n (ns.map Value.string) L'→St W v J ((g',.cells (m.cells (.slice A' n c')) 88 (0,0))::(L'++F))→∃g'' A' c' L',Ending.returned (.pointer (some ⟨g',0,none⟩))=.returned (.pointer (some ⟨g'',0,none⟩))∧MOk J m ns A' n c' L'∧St W v J ((g'',.cells (m.cells (.slice A' n c')) 88 (0,0))::(L'++F)):=fun v g' A' c' L' hr hv=>⟨g',A',c',L',rfl,⟨mo.ok,mo.b0,mo.b1,hr,mo.few⟩,hv⟩
 obtain⟨MC,hMC⟩:∃y,m.cells (.slice A n c)=y:=⟨_,rfl⟩;rw[hMC]at ra msz mai mao pn
 have fit:0+MC.size≤Tryz.zeroCells88.size:=by rw[msz,zmd];omega
 have many:zg Tryz.zeroCells88 0 MC.toList=MC:=by rw[zd _ _ (by rw[Array.length_toList,msz,zmd]),Array.toArray_toList]
 have l75:75 < MC.size:=by rw[msz];omega
 have FIN:=za fin;have KA:=za ka;have RA:=za ra;have MAI:=za mai;have MAO:=za mao;have H1:=za h1;have FIT:=za fit;have MANY:=za many;have PN:=za pn;have HLN:=za hLn;have L75:=za l75;have HM:=za hm
 have m75':=fun(v:World) (X:List (Nat × Obj)) (hv:St W v J X) (hx:(gm,Obj.cells (m.cells (.slice A n c)) 88 (0,0))∈X)=>(hv.md mo.ok hx).names
 have M75:=za m75';clear fin ka ra mai mao h1 fit many pn hLn l75 hm h m75 m75' hMC msz mo
 go_enter Tryz.func21,Tryz.ntmps21
 go_wp2_with (first|(with_reducible refine zb 6 rfl (by kernel_rfl) 88 (.tmp 5) rfl gm 0 rfl MC _ RA.out Tryz.underlying88 rfl MAI.out ?_)|(with_reducible refine zc rfl 88 (.tmp 3) (.tmp 6) rfl (g:=w.heap.size) (off:=0) MC rfl rfl H1.out FIT.out MAI.out MAO.out ?_;intro w2 h2;refine Hid.out ?_))
 refine za ?_;rw[MANY.out]at h2;obtain⟨g3,hg3⟩:∃y,w.heap.size=y:=⟨_,rfl⟩;rw[hg3]at h2 ⊢;have c75:=M75.out _ _ h2 (List.mem_cons_of_mem _ HM.out);have KA2:=za (KA.out _ _ h2 (fun p hp=>List.mem_cons_of_mem _ (HLN.out p hp)));clear h2 H1 KA RA hg3;go_wp2_with fail;refine KA2.out.mono ?_;rintro e w3 ⟨A',c',L',rfl,hr,h3⟩;have h4:=h3.perm (L':=(g3,.cells MC 88 (0,0))::(L'++F)) ze;have I1:Hid ((Tryz.prog.info? 30).map (·.size)=some 1):=za (by kernel_rfl);have H4:=za h4;have HR:=za hr;clear h3 h4 hr KA2 c75
 go_wp2_with (with_reducible refine zk rfl 30 (.tmp 12) (.tmp 11) rfl (g:=g3) (off:=75) (.slice A' n c') rfl rfl rfl H4.out L75.out I1.out rfl ?_;intro w5 h5;refine Hid.out ?_)
 refine za ?_;have h6:St W w5 J ((g3,.cells (MC.setIfInBounds 75 (.slice A' n c')) 88 (0,0))::(L'++F)):=h5;rw[PN.out]at h6;have H6:=za h6;clear h5 h6 H4;go_wp2_with fail;go_ret;exact FIN.out _ _ _ _ _ HR.out H6.out
end
end

section
set_option linter.unusedVariables false
set_option linter.unusedSimpArgs false
open Go.RowKit Go.Lib Go.Deep
section
variable {W w:World} {J:Nat→Option Obj} {t:Tb} {F:List (Nat × Obj)}
structure Rd (W:World) (J:Nat→Option Obj) (Lx:List (Nat × Obj)) (k:Nat) (A:Option Addr) (rows:List (List Value)):Prop where
 len:∀r∈rows,r.length=k
 at_:∀(v:World) (X:List (Nat × Obj)),St W v J X→(∀p∈Lx,p∈X)→∀i r,rows[i]?=some r→∃b off,A=some ⟨b,off,none⟩∧v.rangeAt b (off+i*k) r
theorem za1 {k:Nat}:∀(rows:List (List Value)),(∀r∈rows,r.length=k)→rows.flatten.length=rows.length*k
 | [],_=>by simp
 | r::rows,h=>by
  rw[List.flatten_cons,List.length_append,za1 rows (fun q hq=>h q (List.mem_cons_of_mem _ hq)),h r (List.mem_cons_self ..),List.length_cons,Nat.add_mul]
  omega
theorem zam {k:Nat}:∀(rows:List (List Value)),(∀r∈rows,r.length=k)→∀i r,rows[i]?=some r→∀j,j < k→rows.flatten[i*k+j]?=r[j]?
 | [],_,i,r,hi,_,_=>by simp at hi
 | q::rows,h,0,r,hi,j,hj=>by
  simp at hi
  subst hi;rw[List.flatten_cons,Nat.zero_mul,Nat.zero_add,List.getElem?_append_left (by rw[h q (List.mem_cons_self ..)];exact hj)]
 | q::rows,h,i+1,r,hi,j,hj=>by
  have hq:=h q (List.mem_cons_self ..);rw[List.flatten_cons,List.getElem?_append_right (by rw[hq,Nat.add_mul];omega),hq,show(i+1)*k+j-k=i*k+j by rw[Nat.add_mul];omega];exact zam rows (fun x hx=>h x (List.mem_cons_of_mem _ hx)) i r (by simpa using hi) j hj
theorem flat_ex {k:Nat} (hk:0 < k):∀(rows:List (List Value)),(∀r∈rows,r.length=k)→∀j u,rows.flatten[j]?=some u→∃i r l,rows[i]?=some r∧l < k∧j=i*k+l∧r[l]?=some u:=fun rows h j u hj=>by
 have hl:=(List.getElem?_eq_some_iff.1 hj).1;rw[za1 rows h]at hl;have hi:j / k < rows.length:=Nat.div_lt_of_lt_mul (by rw[Nat.mul_comm];exact hl);refine⟨j / k,rows[j / k],j % k,List.getElem?_eq_getElem hi,Nat.mod_lt _ hk,by rw[Nat.mul_comm,Nat.div_add_mod],?_⟩;rw[←zam rows h (j / k) rows[j / k] (List.getElem?_eq_getElem hi) (j % k) (Nat.mod_lt _ hk),Nat.mul_comm,Nat.div_add_mod];exact hj
section
variable {Lx:List (Nat × Obj)} {k:Nat} {A:Option Addr} {rows:List (List Value)}
theorem Rd.src (hk:0 < k) (h:Rd W J Lx k A rows) (v:World) (X:List (Nat × Obj)) (hv:St W v J X) (hL:∀p∈Lx,p∈X):Src v k A rows.length rows.flatten:=by
 refine⟨za1 rows h.len,fun j u hj=>?_⟩;obtain⟨i,r,l,hi,hl,rfl,hr⟩:=flat_ex hk rows h.len j u hj;obtain⟨b,off,rfl,hc⟩:=h.at_ v X hv hL i r hi;refine⟨_,rfl,?_⟩;rw[show(⟨b,off,none⟩:Addr).add (i*k+l)=⟨b,off+(i*k+l),none⟩ by unfold Addr.add;split<;>simp_all,←Nat.add_assoc];exact hc l u hr
theorem Rd.of_row (hk:0 < k) {T:TypeId} {n c:Nat} {xs:List Value} {L':List (Nat × Obj)} (hr:Row T k (.slice A n c) n xs L') (hx:rows.flatten=xs) (hlen:∀r∈rows,r.length=k):Rd W J L' k A rows:=by
 refine⟨hlen,fun v X hv hL i r hi=>?_⟩
 ·have hrl:=hlen r (List.mem_of_getElem? hi)
  have h0:xs[i*k+0]?=some (r[0]'(by omega)):=by
   rw[←hx,zam rows hlen i r hi 0 hk];exact List.getElem?_eq_getElem _
  obtain⟨g,off,cap,cur,hv',hL',-⟩:=hr.cells h0
  injection hv' with e1 e2 e3
  subst e1;refine⟨g,off,rfl,fun j u hj=>?_⟩
  have hj':j < k:=by have:=(List.getElem?_eq_some_iff.1 hj).1;omega
  have h1:xs[i*k+j]?=some u:=by rw[←hx,zam rows hlen i r hi j hj'];exact hj
  obtain⟨g',off',cap',cur',hv2,hL2,hc⟩:=hr.cells h1
  injection hv2 with q1 q2 q3
  injection q1 with q1
  injection q1 with q4 q5
  subst q4 q5;have hin:=hL (g,.cells cur' T (0,0)) (by rw[hL2];exact List.mem_singleton.2 rfl);rw[show off+i*k+j=off+(i*k+j) by omega,hv.cell hin (off+(i*k+j))];exact hc
theorem Rd.mono {J':Nat→Option Obj} {Ly:List (Nat × Obj)} (h:Rd W J Lx k A rows) (hle:Le J J') (hL:∀p∈Lx,p∈Ly):Rd W J' Ly k A rows:=⟨h.len,fun v X hv hX=>h.at_ v X (hv.less hle) (fun p hp=>hX p (hL p hp))⟩
theorem Rd.tail {b off:Nat} {r:List Value} (h:Rd W J Lx k (some ⟨b,off,none⟩) (r::rows)):Rd W J Lx k (some ⟨b,off+k,none⟩) rows:=⟨fun q hq=>h.len q (List.mem_cons_of_mem _ hq),fun v X hv hL i q hi=>by
 obtain⟨b',off',e,hc⟩:=h.at_ v X hv hL (i+1) q (by simpa using hi)
 injection e with e
 injection e with e1 e2
 subst e1 e2
 exact⟨b,off+k,rfl,by rw[show off+k+i*k=off+(i+1)*k by rw[Nat.add_mul];omega];exact hc⟩⟩
end
variable {m:Md} {gm n c:Nat} {A:Option Addr} {ns:List ByteArray} {Ln:List (Nat × Obj)}
def y2 (ns:List ByteArray):List (List Value):=ns.map (fun s=>[Value.string s])
def filtN (ns:List ByteArray):List ByteArray:=(ns.filter k7).map foldB
def newM (t:Tb) (tries:Int):Md:=⟨t,max 1 (min tries 7),zJ,0⟩
theorem filtN_take (ns:List ByteArray) (k:Nat) (s:ByteArray) (h:ns[k]?=some s):filtN (ns.take (k+1))=if k7 s=true then filtN (ns.take k)++[foldB s] else filtN (ns.take k):=by
 unfold filtN;rw[List.take_add_one,h,Option.toList_some,List.filter_append,List.map_append]
 by_cases hs:k7 s=true
 ·simp[hs]
 ·simp[hs]
theorem filtN_len (ns:List ByteArray):(filtN ns).length≤ns.length:=by
 unfold filtN;rw[List.length_map];exact List.length_filter_le _ _
theorem run_build_new (t:Tb) (ok:t.Ok) (x:Int) (w:World):(Instr.build 88 #[(0,.agg t.cells),(2,.int .i64 x)]).run Tryz.prog w=.ok (.agg ((⟨t,x,zJ,0⟩:Md).cells (.slice none 0 0))) w:=by
 obtain⟨⟨st,tr,ver,sz,ds⟩,⟨st',tr',ver',sz',ds'⟩,ac,bo,fl⟩:=t;have h0:=ok.s0.dig;have h1:=ok.s1.dig;simp only at h0 h1;obtain⟨d0,d1,d2,d3,d4,d5,d6,d7,d8,d9,d10,d11,d12,d13,d14,d15,d16,d17,d18,d19,d20,d21,d22,d23,d24,d25,d26,d27,d28,d29,d30,d31,rfl⟩:=jv ds h0;obtain⟨e0,e1,e2,e3,e4,e5,e6,e7,e8,e9,e10,e11,e12,e13,e14,e15,e16,e17,e18,e19,e20,e21,e22,e23,e24,e25,e26,e27,e28,e29,e30,e31,rfl⟩:=jv ds' h1;exact run_build w _ _ _ (by kernel_rfl)
end
end

section
set_option linter.unusedVariables false
set_option linter.unusedSimpArgs false
open Go.RowKit
section
variable {P:Program} {ops ops':Array Oper} {md:Region.Mode} {Q:Exit→Act→World→Prop} {N:Act→World→Prop} {n:Nat}
def SinkQ (Q:Exit→Act→World→Prop) (N:Act→World→Prop):Exit→Act→World→Prop:=fun e a w=>match e with
 | .normal=>N a w
 | e=>Q e a w
theorem upon_sink {o:Oper} {a:Act} {K:Act→World→Prop} {r:Result Next} (h:o.upon P a K (SinkQ Q N) r):o.upon P a K Q r:=by
 cases r with
 | ok x w'=>
  cases x<;>simp only[Oper.upon]at h ⊢<;>(exact h)
 | halt x w'=>cases x<;>simp only[Oper.upon]at h ⊢<;>exact h
def Region.sinkOK (md:Region.Mode) (ops:Array Oper) (n:Nat):Bool:=
 decide (ops.size=n+1)&&Region.sinkB md ops n&&((List.range (n+1)).all fun i=>match ops[i]? with
  | none=>false
  | some o=>(o.after.all fun e=>decide (e.on < i))&&(match o.guard with|none=>true|some (g,_)=>decide (g < i)))
structure SinkFits (md:Region.Mode) (ops ops':Array Oper) (n:Nat):Prop where
 size:ops.size=n+1
 size':ops'.size=n
 same:∀i,i < n→ops'[i]?=ops[i]?
 sink:Region.sinkB md ops n=true
 after:∀(i:Nat) (o:Oper),ops[i]?=some o→∀e∈o.after,e.on < i
 guard:∀(i:Nat) (o:Oper) (g:Nat) (b:Bool),ops[i]?=some o→o.guard=some (g,b)→g < i
theorem SinkFits.of {l:List Oper} (h:Region.sinkOK md l.toArray n=true):SinkFits md l.toArray (l.take n).toArray n:=by
 unfold Region.sinkOK at h;simp only[Bool.and_eq_true,decide_eq_true_eq]at h;obtain⟨⟨h1,h2⟩,h3⟩:=h
 have hl:l.length=n+1:=by simpa using h1
 have key:∀(i:Nat) (o:Oper),l.toArray[i]?=some o→(∀e∈o.after,e.on < i)∧(∀g b,o.guard=some (g,b)→g < i):=fun i o ho=>by
  have hi:i < n+1:=by have:=(Array.getElem?_eq_some_iff.1 ho).1;omega
  have:=List.all_eq_true.1 h3 i (List.mem_range.2 hi);rw[ho]at this;simp only[Bool.and_eq_true]at this;refine⟨fun e he=>by simpa using Array.all_eq_true_iff_forall_mem.1 this.1 e he,fun g b hg=>?_⟩;have h5:=this.2;rw[hg]at h5
  simpa using h5
 refine⟨h1,by simp;omega,fun i hi=>?_,h2,fun i o ho=>(key i o ho).1,fun i o g b ho hg=>(key i o ho).2 g b hg⟩
 simp[hi]
theorem SinkFits.ready (F:SinkFits md ops ops' n) {listed listed':Array Bool} (hs:listed.size=n+1) (hs':listed'.size=n) (hl:∀i,i < n→listed'[i]?=listed[i]?) {i:Nat} (hi:i < n) :
  i∈Region.ready md ops' listed'↔i∈Region.ready md ops listed:=by
 have hg:∀j d,j < n→listed'.getD j d=listed.getD j d:=fun j d hj=>by
  have:=hl j hj;rw[Array.getD_eq_getD_getElem?,Array.getD_eq_getD_getElem?,this]
 rw[mem_ready,mem_ready,hg i true hi,F.same i hi]
 constructor
 ·rintro⟨h1,o,ho,h2⟩
  exact⟨h1,o,ho,fun e he hb=>by rw[←hg e.on false (by have:=F.after i o ho e he;omega)];exact h2 e he hb⟩
 ·rintro⟨h1,o,ho,h2⟩
  exact⟨h1,o,ho,fun e he hb=>by rw[hg e.on false (by have:=F.after i o ho e he;omega)];exact h2 e he hb⟩
theorem SinkFits.all (F:SinkFits md ops ops' n) {listed:Array Bool} (hs:listed.size=n+1) (h:∀i,i < n→i ∉ Region.ready md ops listed):∀i,i < n→listed.getD i false=true:=by
 intro i
 induction i using Nat.strongRecOn with
 | _ i ih=>
  intro hi
  cases hc:listed.getD i false with
  | true=>rfl
  | false=>
   refine absurd (mem_ready.2 ⟨getD_in (by omega) hc,ops[i]'(by rw[F.size];omega),Array.getElem?_eq_getElem _,fun e he hb=>?_⟩) (h i hi);have:=F.after i _ (Array.getElem?_eq_getElem (by rw[F.size];omega)) e he;exact ih e.on this (by omega)
theorem SinkFits.last (F:SinkFits md ops ops' n) {listed:Array Bool} (hs:listed.size=n+1) (hn:listed.getD n false=false) (h:∀i,i < n→listed.getD i false=true):n∈Region.ready md ops listed:=
 mem_ready.2 ⟨getD_in (by omega) hn,ops[n]'(by rw[F.size];omega),Array.getElem?_eq_getElem _,fun e he hb=>h e.on (F.after n _ (Array.getElem?_eq_getElem (by rw[F.size];omega)) e he)⟩
theorem SinkFits.none (F:SinkFits md ops ops' n) {listed:Array Bool} (h:∀i,i < n+1→listed.getD i false=true):Region.ready md ops listed=[]:=by
 rw[List.eq_nil_iff_forall_not_mem];intro i hi;obtain⟨h1,o,ho,_⟩:=mem_ready.1 hi;have hlt:=(Array.getElem?_eq_some_iff.1 ho).1;have:=h i (by rw[F.size]at hlt;exact hlt);rw[getD_both h1]at this
 cases this
theorem wpAny_over {listed:Array Bool} {a:Act} {w:World} (h0:Region.ready md ops listed=[]) (h:Q .normal a w):∀f,wpAny P md ops Q f listed a w
 | 0=>⟨h0,h⟩
 | f+1=>⟨fun _=>h,fun i hi=>by rw[h0]at hi;cases hi⟩
theorem wpOp_sink (F:SinkFits md ops ops' n) {i:Nat} (hi:i < n) {K:Act→World→Prop} {a:Act} {w:World} (h:wpOp P ops' (SinkQ Q N) i K a w):wpOp P ops Q i K a w:=by
 unfold wpOp at *;rw[F.same i hi]at h
 cases ho:ops[i]? with
 | none=>rw[ho]at h;exact h
 | some o=>
  rw[ho]at h;dsimp only at h ⊢
  have hw:Region.wanted o (yielded ops' a.tmps)=Region.wanted o (yielded ops a.tmps):=by
   unfold Region.wanted
   cases hg:o.guard with
   | none=>rfl
   | some p=>
    obtain⟨g,b⟩:=p;have:=F.guard i o g b ho hg;dsimp only;unfold yielded;rw[F.same g (by omega)]
  rw[hw]at h
  split
  ·rename_i hc
   rw[if_pos hc]at h;exact h.imp upon_sink id
  ·rename_i hc
   rw[if_neg hc]at h;exact h
theorem wpAny_sink (F:SinkFits md ops ops' n) {o:Oper} (ho:ops[n]?=some o):∀(f:Nat) (listed listed':Array Bool) (a:Act) (w:World),HeadInv md ops n listed→listed'.size=n→(∀i,i < n→listed'[i]?=listed[i]?)→
  wpAny P md ops' (SinkQ Q (wpList P ops Q [o])) f listed' a w→wpAny P md ops Q (f+1) listed a w:=by
 intro f
 have hc:Region.chainB md ops n=true:=List.all_eq_true.2 fun t ht=>by
  have:=List.mem_range.1 ht;rw[F.size]at this
  simp
  exact .inl (by omega)
 have step : ∀ (g : Nat) (listed listed' : Array Bool) (a : Act) (w : World), HeadInv md ops n listed → listed'.size = n → (∀ i, i < n → listed'[i]? = listed[i]?) →
   (Region.ready md ops' listed'=[]→wpList P ops Q [o] a w)→(∀i,i < n→i∈Region.ready md ops listed→wpOp P ops Q i (wpAny P md ops Q g (listed.setIfInBounds i true)) a w)→wpAny P md ops Q (g+1) listed a w:=by
  intro g listed listed' a w inv hs' hl h0 h1
  have hs:listed.size=n+1:=by rw[inv.size,F.size]
  have hn:listed.getD n false=false:=getD_both (inv.tail n (Nat.le_refl _) (by rw[F.size];omega))
  have hready:∀i,i∈Region.ready md ops listed→i < n+1:=fun i hi=>by
   obtain⟨_,x,hx,_⟩:=mem_ready.1 hi;have:=(Array.getElem?_eq_some_iff.1 hx).1;rw[F.size]at this;exact this
  refine⟨fun h2=>?_,fun i hi=>?_⟩
  ·have hall:=F.all hs (fun i _ hi=>by rw[h2]at hi;cases hi)
   have:=F.last hs hn hall;rw[h2]at this
   cases this
  ·have hin:=hready i hi
   by_cases hlt:i < n
   ·exact h1 i hlt hi
   ·have e:i=n:=by omega
    subst e
    have hno:∀j,j < i→j ∉ Region.ready md ops listed:=fun j hj hr=>by
     obtain⟨hun,_⟩:=mem_ready.1 hr;exact tail_waits F.sink hc (by rw[F.size];omega) inv _ j rfl hj hun i (Nat.le_refl _) hi
    have hall:=F.all hs hno
    have h2:Region.ready md ops' listed'=[]:=by
     rw[List.eq_nil_iff_forall_not_mem];intro j hj;obtain⟨_,x,hx,_⟩:=mem_ready.1 hj
     have hj2:j < i:=by have:=(Array.getElem?_eq_some_iff.1 hx).1;rw[F.size']at this;exact this
     exact hno j hj2 ((F.ready hs hs' hl hj2).1 hj)
    have h3:=h0 h2
    have hw:wpOp P ops Q i (Q .normal) a w:=by unfold wpOp;simp only[ho];exact h3
    refine wpOp_mono (fun a' w' h'=>wpAny_over (F.none fun j hj=>?_) h' g) hw
    by_cases hji:j=i
    ·subst hji
     rw[Array.getD_eq_getD_getElem?,Array.getElem?_setIfInBounds_self_of_lt (by omega)]
     rfl
    ·rw[getD_set_ne false (Ne.symm hji)]
     exact hall j (by omega)
 induction f with
 | zero=>
  intro listed listed' a w inv hs' hl h
  have hs:listed.size=n+1:=by rw[inv.size,F.size]
  exact step 0 listed listed' a w inv hs' hl (fun _=>h.2) (fun i hi hr=>by
   have:=(F.ready hs hs' hl hi).2 hr;rw[h.1]at this
   cases this)
 | succ f ih=>
  intro listed listed' a w inv hs' hl h
  have hs:listed.size=n+1:=by rw[inv.size,F.size]
  refine step (f+1) listed listed' a w inv hs' hl h.1 (fun i hi hr=>?_);have hr':=(F.ready hs hs' hl hi).2 hr;refine wpOp_mono (fun a' w' h'=>ih (listed.setIfInBounds i true) (listed'.setIfInBounds i true) a' w' (inv.set hr hi) (by simp[hs']) (fun j hj=>?_) h') (wpOp_sink F hi (h.2 i hr'))
  by_cases hji:i=j
  ·subst hji
   rw[Array.getElem?_setIfInBounds_self_of_lt (by omega),Array.getElem?_setIfInBounds_self_of_lt (by omega)]
  ·rw[Array.getElem?_setIfInBounds_ne hji,Array.getElem?_setIfInBounds_ne hji]
   exact hl j hj
theorem wp_region_sink {S:World→Prop} {id:Nat} {a:Act} {w:World} {l:List Oper} {o:Oper} (n:Nat) (hm:P.follows .mixedOrders=true) (hB:Region.sinkOK .any l.toArray n=true) (ho:l.toArray[n]?=some o) (hS:S w.drew)
  (h:S w.drew→wpAnyH P .any (l.take n).toArray (SinkQ Q (wpList P l.toArray Q [o])) S n (Array.replicate n false) a w.drew):(Code.region id l.toArray true).wp P Q a w:=by
 have F:=SinkFits.of hB;refine wp_region_any hm ?_;have hsz:l.toArray.size=n+1:=F.size;rw[hsz]
 exact wpAny_sink F ho n (Array.replicate (n+1) false) (Array.replicate n false) a _
  ⟨by rw[Array.size_replicate,F.size],fun j oj _ hl=>(by rw[getD_replicate_false]at hl;cases hl),fun t _ ht=>getD_in (by rw[Array.size_replicate];rw[F.size]at ht;exact ht) (getD_replicate_false _ _)⟩
  (Array.size_replicate ..) (fun i hi=>by rw[Array.getElem?_replicate,Array.getElem?_replicate,if_pos hi,if_pos (by omega)]) (wpAny_of_held n _ a _ (h hS))
end
end

section
set_option linter.unusedVariables false
set_option linter.unusedSimpArgs false
open Go.RowKit Go.Lib Go.Deep
section
variable {W w:World} {J:Nat→Option Obj} {t:Tb} {F:List (Nat × Obj)}
variable {m:Md} {gm n c:Nat} {A:Option Addr} {ns:List ByteArray} {Ln:List (Nat × Obj)}
theorem step_append_row {P:Program} {W w:World} {I:Nat→Option Obj} {F L:List (Nat × Obj)} {ops:Array Oper} {o:Oper} {a:Act} {K:Act→World→Prop} {Q:Exit→Act→World→Prop} {E:Prop} (hgd:o.guard=none) (s x:Operand) (t:TypeId)
  (ho:o.op=.call { callee:=.builtin .append,args:=#[s,x],argTypes:=#[t,t] })
  (e:TypeId) (z:Value) (size bytes:Nat) (ht:P.underlying t=some (.slice e)) (hi:(P.info? e).map (fun i=>(i.zero,i.size,i.bytes))=some (some z,size,bytes)) (hzs:z.cells.size=size) (hsz:0 < size)
  {v:Value} {n:Nat} {xs:List Value} (hs:a.eval s=v) (hrow:Row e size v n xs L) (hst:St W w I (L++F)) {A:Option Addr} {m c:Nat} {news:List Value} (hx:a.eval x=.slice A m c) (hsrc:Src w size A m news) (h1:∀u∈news,u.oneCell'=true)
  (k:Nat) (hk:n+m=k) (ys:List Value) (hys:xs++news=ys) (h63:k≤maxLen) (hbytes:k*bytes≤140737488355328)
  (h:∀A' c' w' L',Row e size (.slice A' k c') k ys L'→St W w' I (L'++F)→K (a.put o.dst (.slice A' k c')) w') :
  if Region.wanted o (yielded ops a.tmps)=true then Oper.wp P o a w K Q else E:=by
 have hw:Region.wanted o (yielded ops a.tmps)=true:=by simp[Region.wanted,hgd]
 rw[if_pos hw];subst hk;subst hys;obtain⟨v',w',L',hr,h2,h3⟩:=run_append_row (P:=P) t o.type e z size bytes ht hi hzs hsz hrow hst (c:=c) hsrc h1 h63 hbytes;unfold Oper.wp execOp;simp only[ho,resolve,invoke,builtin,Sem.run_bind,Sem.run_pure,Result.andThen_ok,List.map_toArray,List.map_cons,List.map_nil,hs,hx,hr];obtain⟨A',c',rfl⟩:=h2.shape;exact h A' c' w' L' h2 h3
theorem Src.newS' (w:World) (size:Nat) (cs:Array Value) (t:TypeId) {b:Nat} (hb:w.heap.size=b) (n:Nat) (hn:cs.size=n*size):Src (w.alloc (.cells cs t)) size (some ⟨b,0,none⟩) n cs.toList:=by
 subst hb;refine⟨by simpa using hn,fun j u hj=>⟨_,rfl,?_⟩⟩;rw[show(⟨w.heap.size,0,none⟩:Addr).add j=⟨w.heap.size,j,none⟩ by unfold Addr.add;split<;>simp_all];exact cell_new rfl (by rw[←Array.getElem?_toList];exact hj)
theorem newM_ok {t:Tb} (ok:t.Ok) (x:Int):(newM t x).Ok:=⟨ok,by show -9223372036854775808≤max 1 (min x 7);omega,by show max 1 (min x 7)≤9223372036854775807;omega,zJ_ok,by show -9223372036854775808≤(0:Int);decide,by show(0:Int)≤9223372036854775807;decide⟩
theorem o_new (tb:Go.Proofs.YtnjnooeldkideaaGreatDoor.TB W J) (t:Tb) (tok:t.Ok) (x:Int) (hx0:-9223372036854775808≤x) (hx1:x≤9223372036854775807) (hrd:Rd W J Ln 1 A (y2 ns)) (hn:ns.length≤1000) (hsz:∀s∈ns,s.size≤1000000) (hL:∀p∈Ln,p∈F) (h:St W w J F) :
  Calls Tryz.prog 14 #[t.val,.slice A ns.length c,.int .i64 x] w fun e w'=>∃g' A' c' L',e=.returned (.pointer (some ⟨g',0,none⟩))∧MOk J (newM t x) (filtN ns) A' (filtN ns).length c' L'∧St W w' J ((g',.cells ((newM t x).cells (.slice A' (filtN ns).length c')) 88 (0,0))::(L'++F)):=by
 have mok:=newM_ok tok x;have h1:=h.alloc (.cells t.cells 29);obtain⟨g,hg⟩:∃g,w.heap.size=g:=⟨_,rfl⟩;rw[hg]at h1
 have ra:(w.alloc (.cells t.cells 29)).rangeAt g 0 t.cells.toList:=fun j u hj=>by rw[Nat.zero_add,h1.cell (g:=g) (List.mem_cons_self ..) j];simpa using hj
 have ti:=z7 tok;have bz:=run_build_new t tok (max 1 (min x 7));have hbx:=h1.alloc (.cells ((newM t x).cells (.slice none 0 0)) 88);rw[World.size_alloc,hg]at hbx
 have fin:∀(v:World) (A':Option Addr) (c':Nat) (L':List (Nat × Obj)),Nms A' (filtN ns).length c' (filtN ns) L'→St W v J ((g+1,.cells ((newM t x).cells (.slice A' (filtN ns).length c')) 88 (0,0))::(L'++((g,.cells t.cells 29 (0,0))::F)))→∃g' A' c' L',Ending.returned (.pointer (some ⟨g+1,0,none⟩))=.returned (.pointer (some ⟨g',0,none⟩))∧MOk J (newM t x) (filtN ns) A' (filtN ns).length c' L'∧St W v J ((g',.cells ((newM t x).cells (.slice A' (filtN ns).length c')) 88 (0,0))::(L'++F)):=fun v A' c' L' hr hv=>
  ⟨g+1,A',c',L',rfl,⟨mok,by show(0:Int)≤0;decide,by show(0:Int)≤1000000;decide,hr,by have:=filtN_len ns;omega⟩,hv.keep [(g,.cells t.cells 29 (0,0))]⟩
 have msz:=fun v=>Md.size mok.known v
 have m75:=fun(v:Value) (u:World) (X:List (Nat × Obj)) (hu:St W u J X) (hx:(g+1,Obj.cells ((newM t x).cells v) 88 (0,0))∈X)=>(hu.md mok hx).names
 have pn:=fun v v'=>Md.put_names mok.known v v'
 have e1:(⟨t,max 1 (min x 7),zJ,0⟩:Md)=newM t x:=rfl;rw[e1]at bz;unfold Tb.val;obtain⟨CT,hCT⟩:∃y,t.cells=y:=⟨_,rfl⟩;rw[hCT]at h1 ra ti bz hbx fin ⊢;generalize newM t x=M0 at *;obtain⟨BX,hBX⟩:∃y,M0.cells (.slice none 0 0)=y:=⟨_,rfl⟩;have FIN:=za fin;have RA:=za ra;have TI:=za ti;have HBZ:=za bz;have H1:=za hbx;have M75:=za m75;have PN:=za pn;have MSZ:=za msz;have RD:=za hrd;have HSZ:=za hsz;have HL:=za hL;obtain⟨N,hN⟩:∃N,ns.length=N:=⟨_,rfl⟩;rw[hN]at hn ⊢;have HN:=za hN;have I1:Hid ((Tryz.prog.info? 30).map (·.size)=some 1):=za (by kernel_rfl);clear fin ra ti bz hbx m75 pn msz hrd hsz hL h1 h tok mok hN e1 hCT hBX
 go_enter Tryz.func14,Tryz.ntmps14
 go_wp2_with (first|(with_reducible refine zb 10 rfl (by kernel_rfl) 29 (.tmp 3) rfl g 0 rfl CT _ RA.out Tryz.underlying29 rfl TI.out ?_)|(with_reducible refine zh rfl 88 _ rfl _ ?_ (HBZ.out _) ?_;·go_simp))
 clear HBZ RA
 go_loopw [18] (fun i wr=>∃(k:Nat) (A':Option Addr) (c':Nat) (L':List (Nat × Obj)),i=.int .i64 k∧k≤N∧Nms A' (filtN (ns.take k)).length c' (filtN (ns.take k)) L'∧St W wr J ((g+1,.cells (M0.cells (.slice A' (filtN (ns.take k)).length c')) 88 (0,0))::(L'++((g,.cells CT 29 (0,0))::F)))) (fun i _=>N-(intOf i).toNat)
 case atStart=>exact⟨0,none,0,[],rfl,by omega,Row.nil _ _,H1.out⟩
 case round=>
  obtain⟨k,A',c',L',rfl,hk,hrow,hst⟩:=hrel;clear H1
  by_cases hkl:k < N
  ·obtain⟨sx,hsx⟩:∃o,ns[k]?=some o:=⟨_,List.getElem?_eq_getElem (by rw[HN.out];exact hkl)⟩
   obtain⟨b,off,rfl,hcell⟩:=RD.out.at_ wr _ hst (fun p hp=>by simp[HL.out p hp]) k [.string sx] (by unfold y2;rw[List.getElem?_map,hsx];rfl);have c0:=hcell 0 _ rfl;rw[Nat.mul_one,Nat.add_zero]at c0;have hnext:=filtN_take ns k sx hsx;have hflen:=filtN_len (ns.take k);rw[List.length_take]at hflen;have hss:=HSZ.out sx (List.mem_of_getElem? hsx)
   have kn:=fun(v:World) (X:List (Nat × Obj)) (hv:St W v J X)=>name_any tb sx (by omega) hv
   have kf:=fun(v:World) (X:List (Nat × Obj)) (hv:St W v J X)=>za0 tb sx (by omega) hv
   have ef:(⟨(j7 sx).toArray⟩:ByteArray)=foldB sx:=rfl;rw[ef]at kf;clear ef;obtain⟨no,hno⟩:∃b,k7 sx=b:=⟨_,rfl⟩;rw[hno]at kn hnext;generalize filtN (ns.take k)=fs at *;obtain⟨fx,hfx⟩:∃y,foldB sx=y:=⟨_,rfl⟩;rw[hfx]at kf hnext;obtain⟨fl,hfl⟩:∃y,fs.length=y:=⟨_,rfl⟩;rw[hfl]at hrow hst hflen
   have hfl1:fl≤1000:=by omega
   have KN:=za (kn _ _ hst);have KF:=za kf;have HNX:=za hnext;have HROW:=za hrow;have HFL:=za hfl;clear kn kf hnext hrow hno hfx hcell hsx hss hflen hfl hst;go_wp2_with fail;refine KN.out.mono ?_;rintro e w2 ⟨rfl,h2⟩;clear KN c0
   cases no with
   | false=>
    have HN2:=za (show filtN (ns.take (k+1))=fs from HNX.out);have H2:=za h2;clear HNX h2;go_wp2_with fail
    go_roundw
    case rel=>exact⟨k+1,A',c',L',by go_num,by omega,by rw[HN2.out,HFL.out];exact HROW.out,by rw[HN2.out,HFL.out];exact H2.out⟩
    case measure=>simp[intOf];omega
   | true=>
    have HN2:=za (show filtN (ns.take (k+1))=fs++[fx] from HNX.out);have m75:=M75.out _ _ _ h2 (List.mem_cons_self ..);have h3:=h2.perm (L':=L'++((g+1,.cells (M0.cells (.slice A' fl c')) 88 (0,0))::(g,.cells CT 29 (0,0))::F)) ze;have HDW:=za h2.drew1;have s1:=M75.out _ _ _ HDW.out (List.mem_cons_self ..);clear HNX h2 h3 m75;go_wp2_with fail;refine wp_region_sink (S:=fun v=>v.cell? ⟨g+1,75,none⟩=some (.slice A' fl c')) 11 (by kernel_rfl) (by kernel_rfl) rfl s1 (fun hHeld=>?_);dsimp only[List.take]
    refine tk op0 (v:=?_) (by kernel_rfl) ?_ (by assumption) ?_ fun _ _ _ h=>h
    rotate_left
    ·(refine ya rfl fun w hSw=>?_;(try dsimp only at hSw);go_simp;try with_reducible rfl)
    try simp only[Act.put,pu1,pu2,pu3]
    refine tk op1 (v:=?_) (by kernel_rfl) ?_ (by assumption) ?_ fun _ _ _ h=>h
    rotate_left
    ·(refine ya rfl fun w hSw=>?_;(try dsimp only at hSw);go_simp;try with_reducible rfl)
    try simp only[Act.put,pu1,pu2,pu3]
    refine tk op2 (v:=?_) (by kernel_rfl) ?_ (by assumption) ?_ fun _ _ _ h=>h
    rotate_left
    ·(refine ya rfl fun w hSw=>?_;(try dsimp only at hSw);go_simp;try with_reducible rfl)
    try simp only[Act.put,pu1,pu2,pu3]
    refine tk op3 (v:=?_) (by kernel_rfl) ?_ (by assumption) ?_ fun _ _ _ h=>h
    rotate_left
    ·(refine ya rfl fun w hSw=>?_;(try dsimp only at hSw);go_simp;try with_reducible rfl)
    try simp only[Act.put,pu1,pu2,pu3]
    refine tk op4 (v:=?_) (by kernel_rfl) ?_ (by assumption) ?_ fun _ _ _ h=>h
    rotate_left
    ·((refine Or.inl ⟨by rfl,?_⟩;intro w hSw;go_simp;try with_reducible rfl))
    try simp only[Act.put,pu1,pu2,pu3]
    refine tk op5 (v:=?_) (by kernel_rfl) ?_ (by assumption) ?_ fun _ _ _ h=>h
    rotate_left
    ·(refine ya rfl fun w hSw=>?_;(try dsimp only at hSw);go_simp;try with_reducible rfl)
    try simp only[Act.put,pu1,pu2,pu3]
    refine rd1 op6 (by kernel_rfl) fun K hK=>?_
    go_simp
    ((go_at_call 34;(with_reducible refine(KF.out _ _ HDW.out).mono ?_);rintro e wf ⟨rfl,hfo⟩;dsimp only))
    refine hK.out _ _ ?_ fun hHeld=>?_
    ·(try dsimp only)<;>((exact M75.out _ _ _ hfo (List.mem_cons_self ..)))
    clear hK K
    try simp only[Act.put,pu1,pu2,pu3]
    refine rd1 op7 (by kernel_rfl) fun K hK=>?_
    go_simp
    refine hK.out _ _ ?_ fun hHeld=>?_
    ·(try dsimp only)<;>((exact M75.out _ _ _ (hfo.alloc_ (.cells #[.string fx] 9)) (List.mem_cons_self ..)))
    clear hK K
    try simp only[Act.put,pu1,pu2,pu3]
    refine rd1 op8 (by kernel_rfl) fun K hK=>?_
    ((refine step_append_row (F:=(g+1,.cells (M0.cells (.slice A' fl c')) 88 (0,0))::(g,.cells CT 29 (0,0))::F) rfl (.tmp 29) (.tmp 32) 30 rfl 9 (.string ⟨#[]⟩) 1 16 Tryz.underlying30 (by kernel_rfl) rfl (by omega) rfl HROW.out (St.perm (L':=L'++((g+1,.cells (M0.cells (.slice A' fl c')) 88 (0,0))::(g,.cells CT 29 (0,0))::F)) (hfo.alloc_ (.cells #[.string fx] 9)) ze) rfl (Src.newS' _ 1 #[.string fx] 9 rfl 1 rfl) (by intro u hu;simp at hu;rw[hu];rfl) (fl+1) rfl ((fs++[fx]).map Value.string) (by simp) (by unfold maxLen;omega) (by omega) ?_;intro A5 c5 w5 L5 hr5 h5';have h5:=h5'.perm (L':=(g+1,.cells (M0.cells (.slice A' fl c')) 88 (0,0))::(L5++((g,.cells CT 29 (0,0))::F))) ze;dsimp only))
    refine hK.out _ _ ?_ fun hHeld=>?_
    ·(try dsimp only)<;>((exact M75.out _ _ _ h5 (by simp)))
    clear hK K
    try simp only[Act.put,pu1,pu2,pu3]
    refine tk op9 (v:=?_) (by kernel_rfl) ?_ (by assumption) ?_ fun _ _ _ h=>h
    rotate_left
    ·(refine ya rfl fun w hSw=>?_;(try dsimp only at hSw);go_simp;try with_reducible rfl)
    try simp only[Act.put,pu1,pu2,pu3]
    refine tk (oq op0) (v:=?_) (by kernel_rfl) ?_ (by assumption) ?_ fun _ _ _ h=>h
    rotate_left
    ·(refine ya rfl fun w hSw=>?_;(try dsimp only at hSw);go_simp;try with_reducible rfl)
    try simp only[Act.put,pu1,pu2,pu3]
    refine wpAnyH_done (by kernel_rfl) ?_ _;have e5:=M75.out _ _ _ h5 (List.mem_cons_self ..);have f5:=h5.frozen (g:=g+1) (cs:=M0.cells (.slice A' fl c')) (t:=88) (by simp) 75;have h7:=St.set (A:=[]) h5 75 (.slice A5 (fl+1) c5);rw[PN.out]at h7;have hf2:=h7;clear h7 h5' h5
    show wpList _ _ _ [_] _ _
    go_wp2_with fail
    go_roundw
    case rel=>exact⟨k+1,A5,c5,L5,by go_num,by omega,by rw[HN2.out,List.length_append,HFL.out];exact hr5,by rw[HN2.out,List.length_append,HFL.out];exact hf2⟩
    case measure=>simp[intOf];omega
  ·obtain rfl:k=N:=by omega
   rw[←HN.out,List.take_length]at hrow hst;have HROW:=za hrow;have HST:=za hst;clear hrow hst;go_wp2_with fail;go_ret;exact FIN.out _ _ _ _ HROW.out HST.out
end
end
end Go.Proofs.YtnjnooeldkideaaGreatDoor
