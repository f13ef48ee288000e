/- order: is all placed that must be? order: may a span be placed next? slices.Delete of one span, in a slice of the proof's own. slices.Delete of one span: the walk. order: a span's entry, done by a copy. order: a span's entry, done by a copy: case 1. order: a span's entry, done by a copy: case 2. order: a span's entry, done by a copy: case 3. order: a span's entry, done by a copy: case 4. order: place, in one; what an entry makes is well; found as data. order: is there an order of what is left? order: is there an order of what is left: the walk. order: a history as data; Find. Maps from texts, made by the program itself. Maps from numbers to numbers, made by the program itself. order: where each serial's entry stands. order: do calls and answers fit their entries? order: Check. order: the law's own example; as data. order: the law's own example: the walks. -/
import Derived.Test.YtnjnooeldkideaaGreatDoorMOrDo
import Derived.Test.YtnjnooeldkideaaGreatDoorMOrEn
import Derived.OwnWalk
import Derived.Test.YtnjnooeldkideaaGreatDoorMOrT
import Derived.Deep.DeepCutAuto
import Derived.Test.YtnjnooeldkideaaGreatDoorSlices
import Derived.Carry
import Derived.WalkKit
import Derived.Laws.StructEq
import Derived.Test.YtnjnooeldkideaaGreatDoorMOrTa
namespace Go.Proofs.YtnjnooeldkideaaGreatDoor
set_option maxRecDepth 100000
set_option maxHeartbeats 8000000
section
set_option linter.unusedVariables false
set_option linter.unusedSimpArgs false
open Go.RowKit Go.Lib Go.Deep
section
variable {W w:World} {J:Nat→Option Obj} {t:Tb} {F:List (Nat × Obj)}
variable {A B:Option Addr} {n c:Nat} {ss:List Sp} {es:List En} {Lx:List (Nat × Obj)}
def uo (ss:List Sp):List (List Value):=ss.map (fun s=>s.cells.toList)
def zak (es:List En):List (List Value):=es.map (fun s=>s.cells.toList)
theorem over_in (s:Sp) (h:St W w J F):Calls Tryz.prog 84 #[s.val] w fun e w'=>e=.returned (.bool (decide (0 < s.upto)))∧St W w' J F:=by
 have h1:=h.alloc (.cells s.cells 71);obtain⟨g,hg⟩:∃g,w.heap.size=g:=⟨_,rfl⟩;rw[hg]at h1;have c2:=(h1.cell (g:=g) (cs:=s.cells) (t:=71) (fr:=(0,0)) (by simp) 2).trans s.at_.2.2;unfold Sp.val;obtain⟨CA,hA⟩:∃C,s.cells=C:=⟨_,rfl⟩;rw[hA]at c2 h1 ⊢;clear hA;generalize s.upto=x at *;have H1:=za h1;clear h h1
 go_enter Tryz.func84,Tryz.ntmps84
 go_wp2_with fail;go_ret;exact⟨by simp,H1.out.weaken (A:=[_])⟩
theorem Rd.sp (h:Rd W J Lx 88 A (uo ss)) (v:World) (X:List (Nat × Obj)) (hv:St W v J X) (hL:∀p∈Lx,p∈X) (k:Nat) (s:Sp) (hk:ss[k]?=some s):∃b off,A=some ⟨b,off,none⟩∧v.rangeAt b (off+k*88) s.cells.toList:=
 h.at_ v X hv hL k _ (by unfold uo;rw[List.getElem?_map,hk];rfl)
theorem Rd.en (h:Rd W J Lx 126 A (zak es)) (v:World) (X:List (Nat × Obj)) (hv:St W v J X) (hL:∀p∈Lx,p∈X) (k:Nat) (s:En) (hk:es[k]?=some s):∃b off,A=some ⟨b,off,none⟩∧v.rangeAt b (off+k*126) s.cells.toList:=
 h.at_ v X hv hL k _ (by unfold zak;rw[List.getElem?_map,hk];rfl)
def anyUp (ss:List Sp):Bool:=ss.any fun s=>decide (0 < s.upto)
theorem anyUp_take (ss:List Sp) (k:Nat) (s:Sp) (h:ss[k]?=some s):anyUp (ss.take (k+1))=(anyUp (ss.take k)||decide (0 < s.upto)):=by
 unfold anyUp;rw[List.take_add_one,h,Option.toList_some,List.any_append]
 simp
theorem over_index (hrd:Rd W J Lx 88 A (uo ss)) (sok:∀s∈ss,s.Ok) (hn:ss.length≤1000) (hL:∀p∈Lx,p∈F) (h:St W w J F) :
  Calls Tryz.prog 109 #[.slice A ss.length c,.func (.func 84) #[] #[]] w fun e w'=>∃z:Int,e=.returned (.int .i64 z)∧decide (z≥0)=anyUp ss∧St W w' J F:=by
 have kc:=fun(s:Sp) (v:World) (X:List (Nat × Obj)) (hv:St W v J X)=>over_in s hv
 unfold Sp.val at kc;obtain⟨N,hN⟩:∃N,ss.length=N:=⟨_,rfl⟩;rw[hN]at hn ⊢;have H0:=za h;have KC:=za kc;have RD:=za hrd;have HL:=za hL;have HN:=za hN;have SOK:=za sok
 have fin:∀(z:Int) (v:World),decide (z≥0)=anyUp ss→St W v J F→∃z':Int,Ending.returned (.int .i64 z)=.returned (.int .i64 z')∧decide (z'≥0)=anyUp ss∧St W v J F:=fun z v hz hv=>⟨z,rfl,hz,hv⟩
 have FIN:=za fin;clear h kc hrd hL hN sok fin
 go_enter Tryz.func109,Tryz.ntmps109
 go_wp2_with fail
 go_loopw [8] (fun v wr=>∃k:Nat,v=.int .i64 (k:Int)∧k≤N∧anyUp (ss.take k)=false∧St W wr J F) (fun v _=>N-(intOf v).toNat)
 case atStart=>exact⟨0,rfl,by omega,by simp[anyUp],H0.out⟩
 case round=>
  obtain⟨k,rfl,hk,ha,hst⟩:=hrel;clear H0
  by_cases hkl:k < N
  ·obtain⟨x,hx⟩:∃o,ss[k]?=some o:=⟨_,List.getElem?_eq_getElem (by rw[HN.out];exact hkl)⟩
   obtain⟨b,off,rfl,hr⟩:=RD.out.sp wr _ hst HL.out k x hx;have hnx:=anyUp_take ss k x hx;rw[ha,Bool.false_or]at hnx;have hin:=sp_info (SOK.out x (List.mem_of_getElem? hx));have KX:=za (KC.out x _ _ hst);obtain⟨X,hX⟩:∃X,x.cells=X:=⟨_,rfl⟩;obtain⟨ub,hub⟩:∃b,decide (0 < x.upto)=b:=⟨_,rfl⟩;rw[hX]at hr hin KX;rw[hub]at hnx KX;have HR:=za hr;have HI:=za hin;have HNX:=za hnx;clear hst hr hin hnx ha hx hX hub
   go_wp2_with (with_reducible refine zb 15 rfl (by kernel_rfl) 71 (.tmp 14) rfl b (off+k*88) rfl X _ HR.out Tryz.underlying71 rfl HI.out ?_)
   refine KX.out.mono ?_;rintro e w1 ⟨rfl,h1⟩;have H2:=za h1;clear h1 KX HR
   cases ub with
   | true=>
    have hfin:decide ((k:Int)≥0)=anyUp ss:=by
     have e1:anyUp ss=true:=by
      have h2:=HNX.out;unfold anyUp at h2 ⊢;rw[List.any_eq_true]at h2 ⊢;obtain⟨q,hq,hq2⟩:=h2;exact⟨q,List.mem_of_mem_take hq,hq2⟩
     rw[e1]
     simp
    have HF:=za (FIN.out k _ hfin H2.out);clear hfin;go_wp2_with fail;go_ret;exact HF.out
   | false=>
    go_wp2_with fail
    go_roundw
    case rel=>exact⟨k+1,by go_num,by omega,HNX.out,H2.out⟩
    case measure=>simp[intOf];omega
  ·obtain rfl:k=N:=by omega
   rw[←HN.out,List.take_length]at ha;have HF:=za (FIN.out (-1) _ (by rw[ha];rfl) hst);clear ha hst;go_wp2_with fail;go_ret;exact HF.out
theorem over_has (hrd:Rd W J Lx 88 A (uo ss)) (sok:∀s∈ss,s.Ok) (hn:ss.length≤1000) (hL:∀p∈Lx,p∈F) (h:St W w J F) :
  Calls Tryz.prog 83 #[.slice A ss.length c,.func (.func 84) #[] #[]] w fun e w'=>e=.returned (.bool (anyUp ss))∧St W w' J F:=by
 have k:=over_index (c:=c) hrd sok hn hL h;generalize anyUp ss=R at *;generalize ss.length=N at *;have K:=za k;clear k h hrd sok hL
 go_enter Tryz.func83,Tryz.ntmps83
 go_wp2_with fail;refine K.out.mono ?_;rintro e w1 ⟨z,rfl,hz,h1⟩;have H2:=za h1;have HZ:=za hz;clear h1 hz K;go_wp2_with fail;go_ret;exact⟨by rw[←HZ.out];rfl,H2.out⟩
def overB (ss:List Sp) (es:List En):Bool:=es.isEmpty&&!anyUp ss
theorem o_over {k d:Nat} (hrd:Rd W J Lx 88 A (uo ss)) (sok:∀s∈ss,s.Ok) (hn:ss.length≤1000) (hk:es.length=k) (hL:∀p∈Lx,p∈F) (h:St W w J F) :
  Calls Tryz.prog 51 #[.agg #[.slice A ss.length c,.slice B k d]] w fun e w'=>e=.returned (.bool (overB ss es))∧St W w' J F:=by
 have h1:=h.alloc (.cells #[.slice A ss.length c,.slice B k d] 80);have c0:=h1.cell (g:=w.heap.size) (cs:=#[.slice A ss.length c,.slice B k d]) (t:=80) (fr:=(0,0)) (by simp) 0;have c1:=h1.cell (g:=w.heap.size) (cs:=#[.slice A ss.length c,.slice B k d]) (t:=80) (fr:=(0,0)) (by simp) 1;have hc:=over_has (c:=c) hrd sok hn (fun p hp=>List.mem_cons_of_mem _ (hL p hp)) h1
 have hR:overB ss es=(decide (k=0)&&!anyUp ss):=by
  unfold overB;rw[←hk]
  cases es<;>simp
 rw[hR];generalize anyUp ss=R at *;generalize ss.length=N at *;have H1:=za h1;have K:=za hc;clear h1 h hrd sok hL hc hk hR
 by_cases h0:k=0
 ·subst h0
  go_enter Tryz.func51,Tryz.ntmps51
  go_wp2_with fail;refine K.out.mono ?_;rintro e w1 ⟨rfl,h1⟩;have H2:=za h1;clear h1;go_wp2_with fail;go_ret;exact⟨by simp,H2.out.weaken (A:=[_])⟩
 ·have b0:((k:Int)==0)=false:=by simpa using h0
  clear K
  go_enter Tryz.func51,Tryz.ntmps51
  go_wp2_with fail;go_ret;exact⟨by simp[h0],H1.out.weaken (A:=[_])⟩
end
end

section
set_option linter.unusedVariables false
set_option linter.unusedSimpArgs false
open Go.RowKit Go.Lib Go.Deep
section
variable {W w:World} {J:Nat→Option Obj} {t:Tb} {F:List (Nat × Obj)}
variable {A B:Option Addr} {n c:Nat} {ss:List Sp} {es:List En} {Lx:List (Nat × Obj)}
theorem zspan:Tryz.zeroCells71.size=88:=by kernel_rfl
theorem Sp.one (s:Sp):s.cells.all (·.oneCell')=true:=by
 have h0:s.rep.cells.toList.all (·.oneCell')=true:=by have h:=s.rep.one;rw[←Array.all_toList]at h;exact h
 unfold Sp.cells;rw[List.all_toArray,List.all_append,List.all_append,h0]
 rfl
end
end

section
set_option linter.unusedVariables false
set_option linter.unusedSimpArgs false
open Go.RowKit Go.Lib Go.Deep
section
variable {W w:World} {J:Nat→Option Obj} {t:Tb} {F:List (Nat × Obj)}
section
variable {P:Program} {W w:World} {I:Nat→Option Obj} {F:List (Nat × Obj)}
end
end
end

section
set_option linter.unusedVariables false
set_option linter.unusedSimpArgs false
open Go.RowKit Go.Lib Go.Deep
section
variable {W w:World} {J:Nat→Option Obj} {t:Tb} {F:List (Nat × Obj)}
end
end

section
set_option linter.unusedVariables false
set_option linter.unusedSimpArgs false
open Go.RowKit Go.Lib Go.Deep
section
variable {W w:World} {J:Nat→Option Obj} {t:Tb} {F:List (Nat × Obj)}
variable {m:Md} {gm n c:Nat} {A:Option Addr} {ns:List ByteArray} {Ln:List (Nat × Obj)}
theorem zRy_ok:zRy.Ok:=jx 0 (by decide) (by decide)
theorem plEn_ok {x:Sp} (ok:x.Ok) {r:Ry} (rok:r.Ok) {s:Int} (h0:-9223372036854775808≤s) (h1:s≤9223372036854775807):(⟨1,x.serial,x.call,r,s,0,0,zS⟩:En).Ok:=⟨by show -9223372036854775808≤(1:Int);decide,by show(1:Int)≤9223372036854775807;decide,ok.s0,ok.s1,ok.call,rok,h0,h1,by show -9223372036854775808≤(0:Int);decide,by show(0:Int)≤9223372036854775807;decide,by show -9223372036854775808≤(0:Int);decide,by show(0:Int)≤9223372036854775807;decide,zS_ok⟩
theorem replyM_ok (mo:MOk J m ns A n c Ln) (q:Cl) (qok:q.Ok) (x:Int) (hx0:-9223372036854775808≤x) (hx1:x≤9223372036854775807):(zbl m ns q x).1.Ok:=by
 unfold zbl
 split
 ·exact(uv mo.ok mo.b0 mo.b1 (zbn mo q qok) x hx0 hx1).rep
 ·exact zRy_ok
structure SpAt (v:World) (g:Nat) (x:Sp):Prop where
 serial:v.cell? ⟨g,0,none⟩=some (.int .i64 x.serial)
 frm:v.cell? ⟨g,1,none⟩=some (.int .i64 x.frm)
 upto:v.cell? ⟨g,2,none⟩=some (.int .i64 x.upto)
 call:v.rangeAt g 3 x.call.cells.toList
 rep:v.rangeAt g 8 x.rep.cells.toList
 err:v.cell? ⟨g,8,none⟩=some (.int .i64 x.rep.err)
theorem St.spAt {v:World} {X:List (Nat × Obj)} {g:Nat} {x:Sp} {T:TypeId} {fr:Nat × Nat} (ok:x.Ok) (h:St W v J X) (hm:(g,Obj.cells x.cells T fr)∈X):SpAt v g x:=by
 have h3:=Cl.size x.call;have h4:=Ry.size ok.rep.t;refine⟨h.cell hm 0,h.cell hm 1,h.cell hm 2,?_,?_,h.cell hm 8⟩
 ·intro j u hj
  have hl:j < 5:=by have:=(List.getElem?_eq_some_iff.1 hj).1;rw[Array.length_toList,h3]at this;exact this
  rw[h.cell hm (3+j)];unfold Sp.cells;rw[List.getElem?_toArray,List.getElem?_append_right (by simp),List.getElem?_append_left (by simp;omega)]
  simpa using hj
 ·intro j u hj
  rw[h.cell hm (8+j)];unfold Sp.cells;rw[List.getElem?_toArray,List.getElem?_append_right (by simp;omega),List.getElem?_append_right (by simp;omega)];simp only[List.length_cons,List.length_nil,Array.length_toList,h3];rw[show 8+j-(0+1+1+1)-5=j by omega]
  simpa using hj
end
end

section
set_option linter.unusedVariables false
set_option linter.unusedSimpArgs false
open Go.RowKit Go.Lib Go.Deep
section
variable {W w:World} {J:Nat→Option Obj} {t:Tb} {F:List (Nat × Obj)}
variable {m:Md} {gm n c:Nat} {A:Option Addr} {ns:List ByteArray} {Ln:List (Nat × Obj)}
end
end

section
set_option linter.unusedVariables false
set_option linter.unusedSimpArgs false
open Go.RowKit Go.Lib Go.Deep
section
variable {W w:World} {J:Nat→Option Obj} {t:Tb} {F:List (Nat × Obj)}
variable {m:Md} {gm n c:Nat} {A:Option Addr} {ns:List ByteArray} {Ln:List (Nat × Obj)}
end
end

section
set_option linter.unusedVariables false
set_option linter.unusedSimpArgs false
open Go.RowKit Go.Lib Go.Deep
section
variable {W w:World} {J:Nat→Option Obj} {t:Tb} {F:List (Nat × Obj)}
variable {m:Md} {gm n c:Nat} {A:Option Addr} {ns:List ByteArray} {Ln:List (Nat × Obj)}
end
end

section
set_option linter.unusedVariables false
set_option linter.unusedSimpArgs false
open Go.RowKit Go.Lib Go.Deep
section
variable {W w:World} {J:Nat→Option Obj} {t:Tb} {F:List (Nat × Obj)}
variable {m:Md} {gm n c:Nat} {A:Option Addr} {ns:List ByteArray} {Ln:List (Nat × Obj)}
end
end

section
set_option linter.unusedVariables false
set_option linter.unusedSimpArgs false
open Go.RowKit Go.Lib Go.Deep
section
variable {W w:World} {J:Nat→Option Obj} {t:Tb} {F:List (Nat × Obj)}
variable {m:Md} {gm n c:Nat} {A:Option Addr} {ns:List ByteArray} {Ln:List (Nat × Obj)}
theorem uk (l:List Cg) (x:Int):(saidA m l x).began=m.began:=by
 unfold saidA
 split<;>rfl
theorem askA_began (ns:List ByteArray) (q:Cl):m.began≤(askA m ns q).began∧(askA m ns q).began≤m.began+1:=by
 unfold askA
 repeat' split
 ·unfold instA
  repeat' split
  all_goals (first|(show m.began≤m.began∧m.began≤m.began+1;omega)|(show m.began≤m.began+1∧m.began+1≤m.began+1;omega))
 ·unfold cancA
  split
  all_goals (show m.began≤m.began∧m.began≤m.began+1;omega)
 ·rw[uk];omega
 ·show m.began≤m.began∧m.began≤m.began+1;omega
 ·rw[uk];omega
 ·unfold rebA
  repeat' split
  all_goals (show m.began≤m.began∧m.began≤m.began+1;omega)
 ·show m.began≤m.began∧m.began≤m.began+1;omega
theorem storedA_began (a:An) (x:Int) (h:(storedA m a x).2=true):(storedA m a x).1.began=m.began∨(storedA m a x).1.began=a.began:=by
 unfold storedA at h ⊢
 split
 ·rename_i hc
  rw[if_pos hc]at h
  cases h
 ·split
  ·exact Or.inl rfl
  ·exact Or.inr rfl
theorem askA_good' (ok:m.Ok) (h0:0≤m.began) (h1:m.began≤1000000) (ns:List ByteArray) (q:Cl) (qok:q.Ok):(askA m ns q).Good:=askA_goodX ok h0 h1 ns q qok
structure Md.Well (m:Md) (k:Nat):Prop where
 ok:m.Ok
 b0:0≤m.began
 b1:m.began+k≤1000000
theorem Md.Well.less {k l:Nat} (h:m.Well k) (hl:l≤k):m.Well l:=⟨h.ok,h.b0,by have:=h.b1;omega⟩
theorem doM_well {k:Nat} (h:m.Well (k+1)) (ns:List ByteArray) (e:En) (eok:e.Ok) (m':Md) (hd:doM m ns e=some m'):m'.Well k:=by
 have hb0:=h.b0;have hb1:=h.b1;unfold doM at hd
 split at hd
 ·unfold calledM at hd
  split at hd
  ·split at hd
   ·rename_i hc
    split at hd
    ·injection hd with hd
     have ag:=askA_good' h.ok h.b0 (by omega) ns e.call eok.call;have sg:=uv h.ok h.b0 (by omega) ag e.store eok.o0 eok.o1;have ba:=askA_began (m:=m) ns e.call;have bs:=storedA_began (m:=m) (askA m ns e.call) e.store hc.1;have tk:=qa (cs:=(storedA m (askA m ns e.call) e.store).1.l) h.ok.known sg.form;rw[←hd];refine⟨⟨tk,h.ok.t0,h.ok.t1,sg.job,?_,?_⟩,?_,?_⟩
     ·show -9223372036854775808≤(storedA m (askA m ns e.call) e.store).1.began;omega
     ·show(storedA m (askA m ns e.call) e.store).1.began≤9223372036854775807;omega
     ·show 0≤(storedA m (askA m ns e.call) e.store).1.began;omega
     ·show(storedA m (askA m ns e.call) e.store).1.began+(k:Int)≤1000000;omega
    ·cases hd
   ·cases hd
  ·cases hd
 ·split at hd
  ·have key:∀(u:Md),u.Ok→u.began=m.began→(yr u e).Well k:=fun u uok hu=>⟨⟨uok.known,uok.t0,uok.t1,⟨uok.job.n0,uok.job.n1,eok.t0,eok.t1,eok.f0,eok.f1,uok.job.l0,uok.job.l1,uok.job.f0,uok.job.f1⟩,uok.b0,uok.b1⟩,by show 0≤u.began;omega,by show u.began+(k:Int)≤1000000;omega⟩
   unfold endedM at hd
   split at hd
   ·split at hd
    ·split at hd
     ·cases hl:landsM m e.slot with
      | none=>rw[hl]at hd;cases hd
      | some u=>
       rw[hl,Option.map_some]at hd
       injection hd with hd
       rw[←hd];have uok:=landsM_ok h.ok e.slot eok.slot;rw[hl,Option.getD_some]at uok;refine key u uok ?_;unfold landsM at hl
       split at hl
       ·cases hl
       ·split at hl
        ·split at hl
         ·injection hl with hl
          rw[←hl]
         ·cases hl
        ·cases hl
     ·cases hd
    ·split at hd
     ·split at hd
      ·cases hd
      ·injection hd with hd
       rw[←hd];exact key m h.ok rfl
     ·cases hd
   ·cases hd
  ·cases hd
end
end

section
set_option linter.unusedVariables false
set_option linter.unusedSimpArgs false
open Go.RowKit Go.Lib Go.Deep
section
variable {W w:World} {J:Nat→Option Obj} {t:Tb} {F:List (Nat × Obj)}
variable {m:Md} {gm n c cn d:Nat} {A An B:Option Addr} {ns:List ByteArray} {Ln Lx Ly:List (Nat × Obj)} {ss:List Sp} {es:List En}
theorem spRows_len (ss:List Sp) (ok:∀s∈ss,s.Ok):∀r∈uo ss,r.length=88:=fun r hr=>by
 obtain⟨e,he,rfl⟩:=List.mem_map.1 hr;rw[Array.length_toList];exact Sp.size (ok e he)
structure FnOk (W:World) (J:Nat→Option Obj) (F:List (Nat × Obj)) (A:Option Addr) (ss:List Sp) (B:Option Addr) (es:List En) (f:Nat):Prop where
 sp:∃Lx,Rd W J Lx 88 A (uo ss)∧∀p∈Lx,p∈F
 en:∃Ly,Rd W J Ly 126 B (zak es)∧∀p∈Ly,p∈F
 sok:∀s∈ss,s.Ok
 snm:∀s∈ss,s.call.name.size≤1000000
 eok:∀e∈es,e.Ok
 enm:∀e∈es,e.call.name.size≤1000000
 many:ss.length+es.length < f
 few:f≤1000
structure MdIn (J:Nat→Option Obj) (F:List (Nat × Obj)) (gm:Nat) (m:Md) (ns:List ByteArray) (n f:Nat):Prop where
 ex:∃An cn Ln,MOk J m ns An n cn Ln∧(∀p∈Ln,p∈F)∧(gm,Obj.cells (m.cells (.slice An n cn)) 88 (0,0))∈F
 well:m.Well f
theorem FnOk.more {f:Nat} {G:List (Nat × Obj)} (h:FnOk W J F A ss B es f) (hG:∀p∈F,p∈G):FnOk W J G A ss B es f:=
 ⟨let ⟨L,a,b⟩:=h.sp;⟨L,a,fun p hp=>hG p (b p hp)⟩,let ⟨L,a,b⟩:=h.en;⟨L,a,fun p hp=>hG p (b p hp)⟩,h.sok,h.snm,h.eok,h.enm,h.many,h.few⟩
theorem MdIn.more {f:Nat} {G:List (Nat × Obj)} (h:MdIn J F gm m ns n f) (hG:∀p∈F,p∈G):MdIn J G gm m ns n f:=
 ⟨let ⟨An,cn,Ln,a,b,c⟩:=h.ex;⟨An,cn,Ln,a,fun p hp=>hG p (b p hp),hG _ c⟩,h.well⟩
theorem MOk.of {J:Nat→Option Obj} {m m':Md} {ns:List ByteArray} {A:Option Addr} {n c k:Nat} {Ln:List (Nat × Obj)} (h:MOk J m ns A n c Ln) (hw:m'.Well k):MOk J m' ns A n c Ln:=⟨hw.ok,hw.b0,by have:=hw.b1;omega,h.names,h.few⟩
end
end

section
set_option linter.unusedVariables false
set_option linter.unusedSimpArgs false
open Go.RowKit Go.Lib Go.Deep
section
variable {W w:World} {J:Nat→Option Obj} {t:Tb} {F:List (Nat × Obj)}
variable {n:Nat} {ns:List ByteArray}
end
end

section
set_option linter.unusedVariables false
set_option linter.unusedSimpArgs false
open Go.RowKit Go.Lib Go.Deep
section
variable {W w:World} {J:Nat→Option Obj} {t:Tb} {F:List (Nat × Obj)}
variable {nA lA pA:Option Addr} {nc lc pc:Nat} {nms:List ByteArray} {es:List En} {ss:List Sp} {t:Tb}
def y7 (t:Tb) (nv:Value) (tries:Int) (lv sv:Value):Array Value:=(t.cells.toList++[nv,.int .i64 tries,lv,sv]).toArray
structure HyOk (W:World) (J:Nat→Option Obj) (F:List (Nat × Obj)) (t:Tb) (nA:Option Addr) (nms:List ByteArray) (tries:Int) (lA:Option Addr) (es:List En) (pA:Option Addr) (ss:List Sp):Prop where
 tok:t.Ok
 x0:-9223372036854775808≤tries
 x1:tries≤9223372036854775807
 nm:∃L,Rd W J L 1 nA (y2 nms)∧∀p∈L,p∈F
 nfew:nms.length≤100
 nsz:∀s∈nms,s.size≤1000000
 en:∃L,Rd W J L 126 lA (zak es)∧∀p∈L,p∈F
 efew:es.length≤100
 eok:∀e∈es,e.Ok
 enm:∀e∈es,e.call.name.size≤1000000
 sp:∃L,Rd W J L 88 pA (uo ss)∧∀p∈L,p∈F
 sfew:ss.length≤100
 sok:∀s∈ss,s.Ok
 snm:∀s∈ss,s.call.name.size≤1000000
theorem HyOk.more {F G:List (Nat × Obj)} {tries:Int} (h:HyOk W J F t nA nms tries lA es pA ss) (hG:∀p∈F,p∈G):HyOk W J G t nA nms tries lA es pA ss:=
 ⟨h.tok,h.x0,h.x1,let ⟨L,a,b⟩:=h.nm;⟨L,a,fun p hp=>hG p (b p hp)⟩,h.nfew,h.nsz,let ⟨L,a,b⟩:=h.en;⟨L,a,fun p hp=>hG p (b p hp)⟩,h.efew,h.eok,h.enm,let ⟨L,a,b⟩:=h.sp;⟨L,a,fun p hp=>hG p (b p hp)⟩,h.sfew,h.sok,h.snm⟩
theorem za2 (ok:t.Ok) (nv:Value) (tries:Int) (lv sv:Value):(y7 t nv tries lv sv).size=79:=by
 have h:=Tb.size ok
 simp[y7,h]
theorem hy_g (ok:t.Ok) (nv:Value) (tries:Int) (lv sv:Value) (j:Nat):(y7 t nv tries lv sv)[75+j]?=[nv,.int .i64 tries,lv,sv][j]?:=by
 have h:=Tb.size ok;unfold y7;rw[List.getElem?_toArray,List.getElem?_append_right (by simp;omega)]
 congr 1
 simp[h]
structure HyAt (v:World) (g:Nat) (t:Tb) (nv:Value) (tries:Int) (lv sv:Value):Prop where
 first:v.rangeAt g 0 t.cells.toList
 names:v.cell? ⟨g,75,none⟩=some nv
 trs:v.cell? ⟨g,76,none⟩=some (.int .i64 tries)
 log:v.cell? ⟨g,77,none⟩=some lv
 spans:v.cell? ⟨g,78,none⟩=some sv
 all:v.rangeAt g 0 (y7 t nv tries lv sv).toList
theorem St.hy {v:World} {X:List (Nat × Obj)} {g:Nat} {nv:Value} {tries:Int} {lv sv:Value} {T:TypeId} {fr:Nat × Nat} (ok:t.Ok) (h:St W v J X) (hm:(g,Obj.cells (y7 t nv tries lv sv) T fr)∈X):HyAt v g t nv tries lv sv:=
 ⟨fun j u hj=>by
  have hl:j < 75:=by have:=(List.getElem?_eq_some_iff.1 hj).1;rw[Array.length_toList,Tb.size ok]at this;exact this
  rw[Nat.zero_add,h.cell hm j];unfold y7;rw[List.getElem?_toArray,List.getElem?_append_left (by simp[Tb.size ok];omega)]
  exact hj,(h.cell hm 75).trans (hy_g ok nv tries lv sv 0),(h.cell hm 76).trans (hy_g ok nv tries lv sv 1),(h.cell hm 77).trans (hy_g ok nv tries lv sv 2),(h.cell hm 78).trans (hy_g ok nv tries lv sv 3),fun j u hj=>by rw[Nat.zero_add,h.cell hm j];simpa using hj⟩
theorem Row.le {E:TypeId} {size n c:Nat} {A:Option Addr} {xs:List Value} {L:List (Nat × Obj)} (h:Row E size (.slice A n c) n xs L):n≤c:=by
 obtain⟨_,⟨hv,h0,_⟩|⟨g,off,cap,cur,hv,_,hnc,_⟩⟩:=h
 ·omega
 ·injection hv with _ _ h3
  omega
theorem new_well {f:Nat} (ok:t.Ok) (x:Int) (hf:f≤1000):(newM t x).Well f:=⟨newM_ok ok x,by show(0:Int)≤0;decide,by show(0:Int)+f≤1000000;omega⟩
end
end

section
set_option linter.unusedVariables false
set_option linter.unusedSimpArgs false
open Go.RowKit
def look (l:List (ByteArray × Value)) (k:ByteArray):Option Value:=
 match l with
 | []=>none
 | (k',v)::l=>if k=k' then some v else look l k
def World.setB (w:World) (b:Nat) (o:Obj):World:={ w with heap:=w.heap.setIfInBounds b o }
theorem St.setB {W w:World} {I:Nat→Option Obj} {D:Nat} {o o':Obj} {L:List (Nat × Obj)} (h:St W w I ((D,o)::L)):St W (World.setB w D o') I ((D,o')::L):=by
 have hn:=h.nodup;simp only[List.map_cons,List.nodup_cons]at hn;have hlt:=h.lt (p:=(D,o)) (by simp)
 have hsame:(World.setB w D o').heap[D]?=some o':=by unfold World.setB;simp[Array.getElem?_setIfInBounds_self,hlt]
 have hoth:∀k,k≠D→(World.setB w D o').heap[k]?=w.heap[k]?:=fun k hk=>by unfold World.setB;simp[Array.getElem?_setIfInBounds_ne (Ne.symm hk)]
 refine⟨h.os,h.tape,h.output,fun p hp=>?_,h.nodup,fun b o hb=>?_,fun p hp=>?_⟩
 ·rcases List.mem_cons.1 hp with rfl|hp
  ·exact hsame
  ·rw[hoth _ (fun e=>hn.1 (by rw[←e];exact List.mem_map_of_mem (f:=(·.1)) hp))]
   exact h.own p (by simp[hp])
 ·rw[hoth _ (fun e=>?_)]
  ·exact h.imm b o hb
  ·have:=h.apart (D,_) (List.mem_cons_self ..)
   simp only at this;rw[e,this]at hb
   cases hb
 ·rcases List.mem_cons.1 hp with rfl|hp
  ·exact h.apart (D,o) (by simp)
  ·exact h.apart p (by simp[hp])
section
variable {P:Program} {t K E:TypeId} {w:World} {b:Nat} {l:List (ByteArray × Value)}
end
end

section
set_option linter.unusedVariables false
set_option linter.unusedSimpArgs false
open Go.RowKit
def lookI:List (Int × Int)→Int→Option Int
 | [],_=>none
 | (k',v)::l,k=>if k=k' then some v else lookI l k
def putI:List (Int × Int)→Int→Int→List (Int × Int)
 | [],k,v=>[(k,v)]
 | (k',v')::l,k,v=>if k=k' then (k',v)::l else (k',v')::putI l k v
def lk (l:List (Int × Int)) (k:Int):Int:=(lookI l k).getD 0
def jy:List (Int × Int)→Nat→List MapEntry
 | [],_=>[]
 | (k,v)::l,i=>{ key:=.int .i64 k,val:=.int .i64 v,born:=i }::jy l (i+1)
def yp (l:List (Int × Int)):Obj:=.map (jy l 0).toArray l.length
theorem mapEntI_new:∀(l:List (Int × Int)) (k v:Int) (i:Nat),lookI l k=none→jy (putI l k v) i=jy l i++[{ key:=.int .i64 k,val:=.int .i64 v,born:=i+l.length }]∧(putI l k v).length=l.length+1
 | [],k,v,i,_=>by simp[putI,jy]
 | (a,b)::l,k,v,i,h=>by
  unfold lookI at h
  split at h
  ·cases h
  ·rename_i hn
   obtain⟨h1,h2⟩:=mapEntI_new l k v (i+1) h;unfold putI;rw[if_neg hn];simp only[jy,List.length_cons,h1,h2,List.cons_append];refine⟨?_,trivial⟩;rw[show i+1+l.length=i+(l.length+1) by omega]
theorem findI:∀(l:List (Int × Int)) (k:Int) (i j:Nat),(lookI l k=none→Instr.findNow (.int .i64) (.int .i64 k) (jy l i) j=some none)∧
  (∀v,lookI l k=some v→∃n,Instr.findNow (.int .i64) (.int .i64 k) (jy l i) j=some (some (j+n,.int .i64 v))∧((jy l i)[n]?).map (fun e=>e.key)=some (.int .i64 k)∧(∀u,(jy l i).modify n (fun e=>{ e with key:=.int .i64 k,val:=.int .i64 u })=jy (putI l k u) i∧(putI l k u).length=l.length))
 | [],k,i,j=>⟨fun _=>rfl,fun v h=>by cases h⟩
 | (a,b)::l,k,i,j=>by
  obtain⟨h1,h2⟩:=findI l k (i+1) (j+1);simp only[lookI,jy,Instr.findNow,Instr.sameNow,if_true]
  by_cases h:k=a
  ·subst h
   rw[if_pos rfl];simp only[beq_self_eq_true];refine⟨fun e=>(by cases e),fun v e=>?_⟩
   cases e
   refine⟨0,rfl,rfl,fun u=>⟨?_,?_⟩⟩
   ·simp[putI,jy]
   ·simp[putI]
  ·have hb:(k==a)=false:=beq_eq_false_iff_ne.2 h
   rw[if_neg h,hb];refine⟨h1,fun v e=>?_⟩;obtain⟨n,e1,e2,e3⟩:=h2 v e;refine⟨n+1,by rw[show j+(n+1)=j+1+n by omega];exact e1,by simpa using e2,fun u=>?_⟩;obtain⟨e4,e5⟩:=e3 u;unfold putI;rw[if_neg h];refine⟨?_,by simp[e5]⟩;rw[List.modify_succ_cons,e4]
   rfl
theorem sameBits_int (k:Int):Instr.sameBits 10000 (.int .i64 k) (.int .i64 k)=true:=by
 rw[show(10000:Nat)=9999+1 from rfl]
 simp[Instr.sameBits]
section
variable {P:Program} {t K E:TypeId} {w:World} {b:Nat} {l:List (Int × Int)}
theorem jk {k:IntKind} (hK:P.underlying K=some (.int k)) (e:Bool) (n:Int):(Instr.checkKey e 10000 K (.int k n)).run P w=.ok () w:=by
 rw[show(10000:Nat)=9999+1 from rfl,Instr.checkKey]
 simp[Sem.run_bind,run_underlying hK,Result.andThen]
theorem run_mapUpdateI (ht:P.underlying t=some (.map K E)) (hK:P.underlying K=some (.int .i64)) (hb:w.heap[b]?=some (yp l)) (k v:Int) :
  (Instr.mapUpdate t (.map (some b)) (.int .i64 k) (.int .i64 v)).run P w=.ok () (World.setB w b (yp (putI l k v))):=by
 obtain⟨h1,h2⟩:=findI l k 0 0;unfold yp at hb
 cases hl:lookI l k with
 | none=>
  have:=h1 hl;obtain⟨e1,e2⟩:=mapEntI_new l k v 0 hl
  simp[Instr.mapUpdate,Sem.run_bind,run_underlying ht,getObj,Sem.run,hb,Result.andThen,jk hK,Instr.findKey,run_underlying hK,this]
  simp[setObj,Sem.run,World.setB,yp,e1,e2,hb]
 | some u=>
  obtain⟨n,hn,hkk,hm⟩:=h2 u hl;obtain⟨e1,e2⟩:=hm v;rw[Nat.zero_add]at hn
  simp[Instr.mapUpdate,Sem.run_bind,run_underlying ht,getObj,Sem.run,hb,Result.andThen,jk hK,Instr.findKey,run_underlying hK,hn,Instr.keyThatStays,hkk,sameBits_int]
  simp[setObj,Sem.run,World.setB,yp,e1,e2,hb]
end
end

section
set_option linter.unusedVariables false
set_option linter.unusedSimpArgs false
open Go.RowKit Go.Lib Go.Deep
section
variable {W w:World} {J:Nat→Option Obj} {t:Tb} {F:List (Nat × Obj)}
variable {lA:Option Addr} {lc:Nat} {es:List En} {Le:List (Nat × Obj)}
theorem run_lookupI2 {P:Program} {t K E:TypeId} {w:World} {b:Nat} {l:List (Int × Int)} (ht:P.underlying t=some (.map K E)) (hK:P.underlying K=some (.int .i64)) (hb:w.heap[b]?=some (yp l)) (hz:(zeroValue E).run P w=.ok (.int .i64 0) w) (k:Int) :
  (Instr.lookup t (.map (some b)) (.int .i64 k) true).run P w=.ok (.tuple #[.int .i64 (lk l k),.bool (lookI l k).isSome]) w:=by
 obtain⟨h1,h2⟩:=findI l k 0 0;unfold yp at hb;unfold lk
 cases hl:lookI l k with
 | none=>
  have:=h1 hl
  simp[Instr.lookup,Sem.run_bind,run_underlying ht,getObj,Sem.run,hb,Result.andThen,jk hK,Instr.findKey,run_underlying hK,this,hz]
 | some v=>
  obtain⟨n,hn,_⟩:=h2 v hl
  simp[Instr.lookup,Sem.run_bind,run_underlying ht,getObj,Sem.run,hb,Result.andThen,jk hK,Instr.findKey,run_underlying hK,hn,hz]
theorem za3 {v:World} {X:List (Nat × Obj)} {b:Nat} {l:List (Int × Int)} (hv:St W v J X) (hm:(b,yp l)∈X) (k:Int):(Instr.lookup 72 (.map (some b)) (.int .i64 k) true).run Tryz.prog v=.ok (.tuple #[.int .i64 (lk l k),.bool (lookI l k).isSome]) v:=
 run_lookupI2 Tryz.underlying72 Tryz.underlying3 (hv.own _ hm) (by kernel_rfl) k
theorem map_put {v:World} {X:List (Nat × Obj)} {b:Nat} {l:List (Int × Int)} (hv:St W v J ((b,yp l)::X)) (k u:Int):(Instr.mapUpdate 72 (.map (some b)) (.int .i64 k) (.int .i64 u)).run Tryz.prog v=.ok () (World.setB v b (yp (putI l k u)))∧St W (World.setB v b (yp (putI l k u))) J ((b,yp (putI l k u))::X):=
 ⟨run_mapUpdateI Tryz.underlying72 Tryz.underlying3 (hv.own _ (List.mem_cons_self ..)) k u,hv.setB⟩
end
end

section
set_option linter.unusedVariables false
set_option linter.unusedSimpArgs false
open Go.RowKit Go.Lib Go.Deep
section
variable {W w:World} {J:Nat→Option Obj} {t:Tb} {F:List (Nat × Obj)}
variable {nA lA pA:Option Addr} {nc lc pc:Nat} {nms:List ByteArray} {es:List En} {ss:List Sp} {t:Tb}
end
end

section
set_option linter.unusedVariables false
set_option linter.unusedSimpArgs false
open Go.RowKit Go.Lib Go.Deep
section
variable {W w:World} {J:Nat→Option Obj} {t:Tb} {F:List (Nat × Obj)}
variable {nA lA pA:Option Addr} {nc lc pc:Nat} {nms:List ByteArray} {es:List En} {ss:List Sp} {t:Tb}
theorem any_take_succ {α:Type} (p:α→Bool) {l:List α} {k:Nat} {x:α} (h:l[k]?=some x):(l.take (k+1)).any p=((l.take k).any p||p x):=by
 rw[List.take_add_one,h,Option.toList_some,List.any_append]
 simp
theorem any_of_take {α:Type} (p:α→Bool) {l:List α} {k:Nat} {x:α} (h:l[k]?=some x) (hp:p x=true):l.any p=true:=List.any_eq_true.2 ⟨x,List.mem_of_getElem? h,hp⟩
end
end

section
set_option linter.unusedVariables false
set_option linter.unusedSimpArgs false
open Go.RowKit Go.Lib Go.Deep
section
variable {W w:World} {J:Nat→Option Obj} {t:Tb} {F:List (Nat × Obj)}
def gS:Slt:=⟨3,0,2,9,List.replicate 32 0⟩
def gTb:Tb:=⟨gS,zS,0,0,0⟩
def coreB:ByteArray:=⟨#[99,111,114,101]⟩
def CoreB:ByteArray:=⟨#[67,79,82,69]⟩
def alC:Cl:=⟨0,1,0,0,CoreB⟩
def alE:En:=⟨1,5,alC,⟨0,1,0,0,0,zTb⟩,0,0,0,zS⟩
def alS:Sp:=⟨1,1,0,⟨0,3,0,0,empB⟩,zRy⟩
def alM:Md:=newM gTb 3
theorem gTb_ok:gTb.Ok:=⟨⟨by decide,by decide,by decide,by decide,by decide,by decide,by decide,by decide,by decide⟩,zS_ok,by decide,by decide,by decide,by decide,by decide,by decide⟩
theorem al_names:filtN [coreB]=[coreB]:=by
 have h1:k7 coreB=true:=by decide +kernel
 have h2:j7 coreB=[99,111,114,101]:=by decide +kernel
 unfold filtN;simp only[List.filter_cons,h1,if_true,List.filter_nil,List.map_cons,List.map_nil,foldB,h2]
 rfl
def alM2:Md:=⟨⟨gS,bareS 1,0,0,0⟩,3,⟨1,1,0,true,1,0⟩,1⟩
theorem al_do:doM alM [coreB] alE=some alM2:=by kernel_rfl
end
end

section
set_option linter.unusedVariables false
set_option linter.unusedSimpArgs false
open Go.RowKit Go.Lib Go.Deep
section
variable {W w:World} {J:Nat→Option Obj} {t:Tb} {F:List (Nat × Obj)}
theorem run_build_gs (w:World):(Instr.build 26 #[(0,.int .i64 3),(2,.int .u64 2),(3,.int .i64 9)]).run Tryz.prog w=.ok (.agg gS.cells) w:=run_build w _ _ _ (by kernel_rfl)
theorem run_build_g2 (w:World):(Instr.build 27 #[(0,.agg gS.cells),(1,.agg zS.cells)]).run Tryz.prog w=.ok (.agg (gS.cells++zS.cells)) w:=run_build w _ _ _ (by kernel_rfl)
theorem run_build_gt (w:World):(Instr.build 29 #[(0,.agg (gS.cells++zS.cells))]).run Tryz.prog w=.ok (.agg gTb.cells) w:=run_build w _ _ _ (by kernel_rfl)
theorem law_good (h:St W w J F):Calls Tryz.prog 22 #[] w fun e w'=>e=.returned gTb.val∧St W w' J F:=by
 have h1:=h.alloc (.cells Tryz.zeroCells29 29);have b1:=run_build_gs;have b2:=jr;have b3:=run_build_g2;have b4:=run_build_gt;have ti:=z7 gTb_ok;have ts:=Tb.size gTb_ok;have tone:=gTb.one;unfold Tb.val;obtain⟨G1,hG1⟩:∃y,gS.cells=y:=⟨_,rfl⟩;obtain⟨G2,hG2⟩:∃y,zS.cells=y:=⟨_,rfl⟩;rw[hG1]at b1 b3 b4;rw[hG2]at b2 b3 b4;obtain⟨G3,hG3⟩:∃y,G1++G2=y:=⟨_,rfl⟩;rw[hG3]at b3 b4;obtain⟨GT,hGT⟩:∃y,gTb.cells=y:=⟨_,rfl⟩;rw[hGT]at b4 ti ts tone ⊢
 have fit:0+GT.size≤Tryz.zeroCells29.size:=by rw[ts,qu];omega
 have many:zg Tryz.zeroCells29 0 GT.toList=GT:=by rw[zd _ _ (by rw[Array.length_toList,ts,qu]),Array.toArray_toList]
 have B1:=za b1;have B2:=za b2;have B3:=za b3;have B4:=za b4;have TI:=za ti;have TO:=za tone;have FIT:=za fit;have MANY:=za many;have H1:=za h1;clear b1 b2 b3 b4 ti ts tone fit many h1 h hG1 hG2 hG3 hGT
 go_enter Tryz.func22,Tryz.ntmps22
 go_wp2_with (first|(with_reducible refine zh rfl 26 _ rfl _ ?_ (B1.out _) ?_;·go_simp)|(with_reducible refine zh rfl 26 _ rfl _ ?_ (B2.out _) ?_;·go_simp)|(with_reducible refine zh rfl 27 _ rfl _ ?_ (B3.out _) ?_;·go_simp)|(with_reducible refine zh rfl 29 _ rfl _ ?_ (B4.out _) ?_;·go_simp)|(with_reducible refine zc rfl 29 (.tmp 0) (.tmp 4) rfl (g:=w.heap.size) (off:=0) GT rfl rfl H1.out FIT.out TI.out TO.out ?_;intro w4 h4;refine Hid.out ?_))
 refine za ?_;rw[MANY.out]at h4;have HZ:=za h4;clear h4 H1;go_wp2_with fail;refine bodyPost_ret (zp rfl _ _ w.heap.size 29 GT (0,0) _ rfl (HZ.out.own (w.heap.size,.cells GT 29 (0,0)) (List.mem_cons_self ..)) Tryz.underlying29 (by kernel_rfl) TI.out) rfl ?_;exact⟨rfl,HZ.out.weaken (A:=[_])⟩
theorem al_rd {b:Nat}:Rd W J [(b,.cells #[.string coreB] 9 (0,0))] 1 (some ⟨b,0,none⟩) (y2 [coreB]):=
 Rd.of_row (by omega) (Row.whole 9 1 b 1 #[.string coreB] rfl (by unfold maxLen;omega)) rfl (fun r hr=>by simp[y2]at hr;rw[hr];rfl)
theorem run_build_alr (w:World):(Instr.build 52 #[(1,.int .i64 1)]).run Tryz.prog w=.ok (.agg (⟨0,1,0,0,0,zTb⟩:Ry).cells) w:=run_build w _ _ _ (by kernel_rfl)
theorem run_build_ale (w:World):(Instr.build 54 #[(0,.int .i64 1),(1,.int .i64 5),(2,.agg alC.cells),(3,.agg (⟨0,1,0,0,0,zTb⟩:Ry).cells)]).run Tryz.prog w=.ok (.agg alE.cells) w:=run_build w _ _ _ (by kernel_rfl)
theorem run_build_als (w:World):(Instr.build 71 #[(0,.int .i64 1),(1,.int .i64 1),(3,.agg (⟨0,3,0,0,empB⟩:Cl).cells)]).run Tryz.prog w=.ok (.agg alS.cells) w:=run_build w _ _ _ (by kernel_rfl)
theorem run_build_alh (A:Option Addr) (n c:Nat) (w:World):(Instr.build 34 #[(0,.agg gTb.cells),(4,.slice A n c)]).run Tryz.prog w=.ok (.agg (y7 gTb (.slice none 0 0) 0 (.slice none 0 0) (.slice A n c))) w:=run_build w _ _ _ (by kernel_rfl)
theorem alE_ok:alE.Ok:=plEn_ok (x:=⟨5,0,0,alC,⟨0,1,0,0,0,zTb⟩⟩) ⟨by decide,by decide,by decide,by decide,by decide,by decide,⟨by decide,by decide,by decide,by decide,by decide,by decide,by decide,by decide,by decide⟩,ui (by omega) (by omega) (by omega) (by omega) (by omega) (by omega) (by omega) (by omega) (by omega) (by omega) zt⟩ (ui (by omega) (by omega) (by omega) (by omega) (by omega) (by omega) (by omega) (by omega) (by omega) (by omega) zt) (by decide) (by decide)
theorem uq:alS.Ok:=⟨by decide,by decide,by decide,by decide,by decide,by decide,⟨by decide,by decide,by decide,by decide,by decide,by decide,by decide,by decide,by decide⟩,zRy_ok⟩
theorem alC_ok:alC.Ok:=⟨by decide,by decide,by decide,by decide,by decide,by decide,by decide,by decide,by decide⟩
theorem alM2_ok:alM2.Ok:=⟨⟨gTb_ok.s0,qw 1 (by decide) (by decide),by decide,by decide,by decide,by decide,by decide,by decide⟩,by decide,by decide,⟨by decide,by decide,by decide,by decide,by decide,by decide,by decide,by decide,by decide,by decide⟩,by decide,by decide⟩
theorem zbr {k:Nat} {A:Option Addr}:Rd W J [] k A []:=⟨fun r hr=>(by cases hr),fun v X hv hX i r hi=>by simp at hi⟩
theorem al_hy {b:Nat}:HyOk W J ((b,.cells alS.cells 71 (0,0))::F) gTb none [] 0 none [] (some ⟨b,0,none⟩) [alS] where
 tok:=gTb_ok
 x0:=by decide
 x1:=by decide
 nm:=⟨[],zbr,fun p hp=>(by cases hp)⟩
 nfew:=by decide
 nsz:=fun s hs=>(by cases hs)
 en:=⟨[],zbr,fun p hp=>(by cases hp)⟩
 efew:=by decide
 eok:=fun s hs=>(by cases hs)
 enm:=fun s hs=>(by cases hs)
 sp:=⟨[(b,.cells alS.cells 71 (0,0))],Rd.of_row (by omega) (Row.whole 71 88 b 1 alS.cells (by rw[Sp.size uq]) (by unfold maxLen;omega)) (by simp[uo]) (spRows_len _ (fun s hs=>by simp at hs;rw[hs];exact uq)),fun p hp=>by simp at hp;simp[hp]⟩
 sfew:=by decide
 sok:=fun s hs=>by simp at hs;rw[hs];exact uq
 snm:=fun s hs=>by simp at hs;rw[hs];decide
end
end
end Go.Proofs.YtnjnooeldkideaaGreatDoor
