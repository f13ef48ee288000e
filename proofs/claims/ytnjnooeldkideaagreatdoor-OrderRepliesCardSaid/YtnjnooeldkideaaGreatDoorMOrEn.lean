/- order: entries and spans as data; '==' on them. order: was a span over when another one began? strings.Builder in the proof's own memory: WriteByte, String. glyph.Fold: walks. -/
import Derived.Test.YtnjnooeldkideaaGreatDoorMOrTa
import Derived.Test.YtnjnooeldkideaaGreatDoorCallA
import Derived.Test.YtnjnooeldkideaaGreatDoorSlices
import Derived.Test.YtnjnooeldkideaaGreatDoorRows
import Derived.Lib.UnsafeStr
import Derived.Lib.Builder
import Derived.Laws.Externs
import Derived.RegionTactic
import Derived.BigRegion
import Derived.Test.YtnjnooeldkideaaGreatDoorMParts
namespace Go.Proofs.YtnjnooeldkideaaGreatDoor
set_option maxRecDepth 100000
set_option maxHeartbeats 1000000
section
set_option linter.unusedVariables false
set_option linter.unusedSimpArgs false
open Go.RowKit Go.Lib Go.Deep
section
variable {W w:World} {J:Nat→Option Obj} {t:Tb} {F:List (Nat × Obj)}
structure Ry.Ok (r:Ry):Prop where
 e0:-9223372036854775808≤r.err
 e1:r.err≤9223372036854775807
 j0:-9223372036854775808≤r.job
 j1:r.job≤9223372036854775807
 t0:-9223372036854775808≤r.state
 t1:r.state≤9223372036854775807
 l0:-9223372036854775808≤r.slot
 l1:r.slot≤9223372036854775807
 f0:-9223372036854775808≤r.fault
 f1:r.fault≤9223372036854775807
 t:r.t.Ok
structure En where
 kind:Int
 serial:Int
 call:Cl
 rep:Ry
 store:Int
 state:Int
 fault:Int
 slot:Slt
structure En.Ok (e:En):Prop where
 k0:-9223372036854775808≤e.kind
 k1:e.kind≤9223372036854775807
 s0:-9223372036854775808≤e.serial
 s1:e.serial≤9223372036854775807
 call:e.call.Ok
 rep:e.rep.Ok
 o0:-9223372036854775808≤e.store
 o1:e.store≤9223372036854775807
 t0:-9223372036854775808≤e.state
 t1:e.state≤9223372036854775807
 f0:-9223372036854775808≤e.fault
 f1:e.fault≤9223372036854775807
 slot:e.slot.Ok
def En.cells (e:En):Array Value:=([Value.int .i64 e.kind,.int .i64 e.serial]++(e.call.cells.toList++(e.rep.cells.toList++([Value.int .i64 e.store,.int .i64 e.state,.int .i64 e.fault]++e.slot.cells.toList)))).toArray
def En.val (e:En):Value:=.agg e.cells
structure Sp where
 serial:Int
 frm:Int
 upto:Int
 call:Cl
 rep:Ry
structure Sp.Ok (s:Sp):Prop where
 s0:-9223372036854775808≤s.serial
 s1:s.serial≤9223372036854775807
 f0:-9223372036854775808≤s.frm
 f1:s.frm≤9223372036854775807
 t0:-9223372036854775808≤s.upto
 t1:s.upto≤9223372036854775807
 call:s.call.Ok
 rep:s.rep.Ok
def Sp.cells (s:Sp):Array Value:=([Value.int .i64 s.serial,.int .i64 s.frm,.int .i64 s.upto]++(s.call.cells.toList++s.rep.cells.toList)).toArray
def Sp.val (s:Sp):Value:=.agg s.cells
theorem En.size {e:En} (ok:e.Ok):e.cells.size=126:=by
 have h:=Ry.size ok.rep.t;have h2:=ok.slot.len;have h3:=Cl.size e.call
 simp[En.cells,h,h2,h3]
theorem Sp.size {s:Sp} (ok:s.Ok):s.cells.size=88:=by
 have h:=Ry.size ok.rep.t;have h3:=Cl.size s.call
 simp[Sp.cells,h,h3]
theorem qk {e:En} (ok:e.Ok):(Tryz.prog.info? 54).map (·.size)=some e.cells.size:=by rw[En.size ok];kernel_rfl
theorem sp_info {s:Sp} (ok:s.Ok):(Tryz.prog.info? 71).map (·.size)=some s.cells.size:=by rw[Sp.size ok];kernel_rfl
theorem yu {r:Ry} (ok:r.t.Ok):(Tryz.prog.info? 52).map (·.size)=some r.cells.size:=by rw[Ry.size ok];kernel_rfl
def callK:List Kn:=[kI,kI,kI,kI,.str]
def replyK:List Kn:=[kI,kI,kI,kI,kI]++tableK
def entryK:List Kn:=[kI,kI]++(callK++(replyK++([kI,kI,kI]++slotK)))
theorem good_call (c:Cl) (ok:c.Ok):goodRow callK c.cells.toList:=⟨kI_ok ok.c0 ok.c1,kI_ok ok.k0 ok.k1,kI_ok ok.s0 ok.s1,kI_ok ok.j0 ok.j1,by show c.name.size≤maxLen;have:=ok.n1;unfold maxLen;omega,trivial⟩
theorem good_ry (r:Ry) (ok:r.Ok):goodRow replyK r.cells.toList:=
 goodRow.app (ks:=[kI,kI,kI,kI,kI]) (vs:=[.int .i64 r.err,.int .i64 r.job,.int .i64 r.state,.int .i64 r.slot,.int .i64 r.fault]) ⟨kI_ok ok.e0 ok.e1,kI_ok ok.j0 ok.j1,kI_ok ok.t0 ok.t1,kI_ok ok.l0 ok.l1,kI_ok ok.f0 ok.f1,trivial⟩ (zah r.t ok.t)
theorem good_entry (e:En) (ok:e.Ok):goodRow entryK e.cells.toList:=
 goodRow.app (ks:=[kI,kI]) (vs:=[.int .i64 e.kind,.int .i64 e.serial]) ⟨kI_ok ok.k0 ok.k1,kI_ok ok.s0 ok.s1,trivial⟩ (goodRow.app (good_call _ ok.call) (goodRow.app (good_ry _ ok.rep)
  (goodRow.app (ks:=[kI,kI,kI]) (vs:=[.int .i64 e.store,.int .i64 e.state,.int .i64 e.fault]) ⟨kI_ok ok.o0 ok.o1,kI_ok ok.t0 ok.t1,kI_ok ok.f0 ok.f1,trivial⟩ (ud _ ok.slot))))
theorem eq_ry (x y:Ry) (okx:x.Ok) (oky:y.Ok) (w:World):∃r:Bool,(Op.equalIn 10000 52 (.agg x.cells) (.agg y.cells)).run Tryz.prog w=.ok r w∧(r=true↔x.cells=y.cells):=
 zbe 10 (by omega) (by kernel_rfl) (by kernel_rfl) 10 (ks:=replyK) (by kernel_rfl) (by kernel_rfl) (good_ry x okx) (good_ry y oky) w
theorem eq_entry (x y:En) (okx:x.Ok) (oky:y.Ok) (w:World):∃r:Bool,(Op.equalIn 10000 54 (.agg x.cells) (.agg y.cells)).run Tryz.prog w=.ok r w∧(r=true↔x.cells=y.cells):=
 zbe 10 (by omega) (by kernel_rfl) (by kernel_rfl) 10 (ks:=entryK) (by kernel_rfl) (by kernel_rfl) (good_entry x okx) (good_entry y oky) w
end
end

section
set_option linter.unusedVariables false
set_option linter.unusedSimpArgs false
open Go.RowKit Go.Lib Go.Deep
section
variable {W w:World} {J:Nat→Option Obj} {t:Tb} {F:List (Nat × Obj)}
def aheadB (a b:Sp):Bool:=decide (0 < a.upto)&&decide (a.upto < b.frm)
theorem Sp.at_ (s:Sp):s.cells[0]?=some (.int .i64 s.serial)∧s.cells[1]?=some (.int .i64 s.frm)∧s.cells[2]?=some (.int .i64 s.upto):=⟨rfl,rfl,rfl⟩
end
end

section
set_option linter.unusedVariables false
set_option linter.unusedSimpArgs false
open Go.RowKit
def BldSt (W w:World) (I:Nat→Option Obj) (sb:Nat) (bs:List UInt8) (F:List (Nat × Obj)):Prop:=
 ∃A0 A c Lr,(A0=.pointer none∨A0=.pointer (some ⟨sb,0,none⟩))∧Row 5 1 (.slice A bs.length c) bs.length (bs.map bval) Lr∧Off0 (.slice A bs.length c)∧
  St W w I ((sb,.cells #[A0,.slice A bs.length c] 120 (0,0))::(Lr++F))
theorem BldSt.new {W w:World} {I:Nat→Option Obj} {F:List (Nat × Obj)} (h:St W w I F):BldSt W (w.alloc (.cells #[.pointer none,.slice none 0 0] 120)) I w.heap.size [] F:=
 ⟨_,none,0,[],.inl rfl,Row.nil _ _,Off0.nil,h.alloc _⟩
theorem BldSt.frame {W w:World} {I:Nat→Option Obj} {sb:Nat} {bs:List UInt8} {F:List (Nat × Obj)} (h:BldSt W w I sb bs F):St W w I F:=by
 obtain⟨A0,A,c,Lr,_,_,_,hst⟩:=h
 exact St.weaken (A:=[_]) hst |>.weaken
theorem bldShape {w:World} {sb:Nat} {cs:Array Value} {t:TypeId} {fr:Nat × Nat} (h:w.heap[sb]?=some (.cells cs t fr)):w.shape? sb=some (t,cs.size):=by simp[World.shape?,h]
theorem bldCheck_new {W w:World} {I:Nat→Option Obj} {sb:Nat} {sl:Value} {F:List (Nat × Obj)} (hst:St W w I ((sb,.cells #[.pointer none,sl] 120 (0,0))::F)) :
  Calls Tryz.prog 88 #[.pointer (some ⟨sb,0,none⟩)] w fun e w'=>e=.returned (.tuple #[])∧St W w' I ((sb,.cells #[.pointer (some ⟨sb,0,none⟩),sl] 120 (0,0))::F):=by
 have hb:=hst.own (sb,.cells #[.pointer none,sl] 120 (0,0)) (by simp);have hsh:=bldShape hb;have h0:w.cell? ⟨sb,0,none⟩=some (.pointer none):=hst.cell (g:=sb) (cs:=#[.pointer none,sl]) (t:=120) (fr:=(0,0)) (by simp) 0;have hfz:w.frozen? ⟨sb,0,none⟩=false:=hst.frozen (g:=sb) (cs:=#[.pointer none,sl]) (t:=120) (by simp) 0;have fin:St W (w.setCell ⟨sb,0,none⟩ (.pointer (some ⟨sb,0,none⟩))) I ((sb,.cells #[.pointer (some ⟨sb,0,none⟩),sl] 120 (0,0))::F):=St.set (A:=[]) hst 0 _;have Fin:=za fin;have Hsh:=za hsh;clear fin hst hsh hb;obtain⟨j,hj,hjs⟩:∃j,Tryz.prog.info? 120=some j∧j.size=2:=Option.map_eq_some_iff.1 (by kernel_rfl:(Tryz.prog.info? 120).map (·.size)=some 2);have Hj:=za hj;have Hjs:=za hjs;clear hj hjs
 go_enter Tryz.func88,Tryz.ntmps88
 go_wp2_with fail;rw[Lib.run_to_unsafe w ⟨sb,0,none⟩ Tryz.underlying117 Tryz.underlying178 Hj.out (by rw[Hjs.out];decide) Hsh.out (Nat.zero_lt_succ 1)];simp only[Result.andThen];rw[Oper.upon_value];go_wp2_with fail;rw[run_callFunc_extern Tryz.func112 (by kernel_rfl) (by kernel_rfl) (by kernel_rfl) (e:=Extern.AbiNoEscape.same) (by kernel_rfl)];rw[Lib.run_noEscape];simp only[Result.andThen];rw[Oper.upon_value];go_wp2_with fail;rw[Lib.run_from_unsafe w ⟨sb,0,none⟩ Tryz.underlying178 Tryz.underlying117 Hj.out Hsh.out (by kernel_rfl)];simp only[Result.andThen];rw[Oper.upon_value];go_wp2_with fail;exact⟨rfl,.tuple #[],by simp[results,Tryz.f88],rfl,Fin.out⟩
theorem bldCheck_old {W w:World} {I:Nat→Option Obj} {sb:Nat} {sl:Value} {F:List (Nat × Obj)} (hst:St W w I ((sb,.cells #[.pointer (some ⟨sb,0,none⟩),sl] 120 (0,0))::F)) :
  Calls Tryz.prog 88 #[.pointer (some ⟨sb,0,none⟩)] w fun e w'=>e=.returned (.tuple #[])∧St W w' I ((sb,.cells #[.pointer (some ⟨sb,0,none⟩),sl] 120 (0,0))::F):=by
 have h0:w.cell? ⟨sb,0,none⟩=some (.pointer (some ⟨sb,0,none⟩)):=hst.cell (g:=sb) (cs:=#[.pointer (some ⟨sb,0,none⟩),sl]) (t:=120) (fr:=(0,0)) (by simp) 0;have Fin:=za hst;clear hst
 obtain⟨j,hj⟩:∃j,Tryz.prog.info? 120=some j:=by
  cases h:Tryz.prog.info? 120 with
  | some j=>exact⟨j,rfl⟩
  | none => have h2 : (Tryz.prog.info? 120).map (·.size) = some 2 := by kernel_rfl
            rw[h]at h2;cases h2
 have Hj:=za hj;clear hj
 go_enter Tryz.func88,Tryz.ntmps88
 go_wp2_with fail;rw[Lib.run_neq_ptr_same (w:=w) _ Tryz.underlying117 Hj.out];go_wp2_with fail;exact⟨rfl,.tuple #[],by simp[results,Tryz.f88],rfl,Fin.out⟩
theorem bldCheck {W w:World} {I:Nat→Option Obj} {sb:Nat} {A0 sl:Value} {F:List (Nat × Obj)} (hA:A0=.pointer none∨A0=.pointer (some ⟨sb,0,none⟩)) (hst:St W w I ((sb,.cells #[A0,sl] 120 (0,0))::F)) :
  Calls Tryz.prog 88 #[.pointer (some ⟨sb,0,none⟩)] w fun e w'=>e=.returned (.tuple #[])∧St W w' I ((sb,.cells #[.pointer (some ⟨sb,0,none⟩),sl] 120 (0,0))::F):=by
 rcases hA with rfl|rfl
 ·exact bldCheck_new hst
 ·exact bldCheck_old hst
theorem bldByte {W w:World} {I:Nat→Option Obj} {sb:Nat} {bs:List UInt8} {F:List (Nat × Obj)} (b:UInt8) (h:BldSt W w I sb bs F) (hlen:bs.length < 140737488355328) :
  Calls Tryz.prog 59 #[.pointer (some ⟨sb,0,none⟩),.int .u8 (b.toNat:Int)] w fun e w'=>e=.returned .nilIface∧BldSt W w' I sb (bs++[b]) F:=by
 obtain⟨A0,A,c,Lr,hA,hr,h0,hst⟩:=h
 go_enter Tryz.func59,Tryz.ntmps59
 go_wp2_with fail;refine(bldCheck hA hst).mono ?_;rintro e w1 ⟨rfl,h1⟩;have q1:w1.cell? ⟨sb,1,none⟩=some (.slice A bs.length c):=h1.cell (g:=sb) (cs:=#[.pointer (some ⟨sb,0,none⟩),.slice A bs.length c]) (t:=120) (fr:=(0,0)) (by simp) 1;have h2:St W (w1.alloc (.cells #[.int .u8 (b.toNat:Int)] 5)) I (Lr++((sb,.cells #[.pointer (some ⟨sb,0,none⟩),.slice A bs.length c] 120 (0,0))::F)):=St.swap (A:=[(sb,_)]) (St.alloc_ h1 _);have hsrc:=Src.one w1 (.int .u8 (b.toNat:Int)) 5;clear hst hA;have H1:=za h1;clear h1
 have hone:∀u∈[Value.int .u8 (b.toNat:Int)],u.oneCell'=true:=by simp[Value.oneCell']
 go_wp2_with (at_builtin;refine Hid.out ?_)
 refine za ?_;refine z8 (F:=(sb,.cells #[.pointer (some ⟨sb,0,none⟩),.slice A bs.length c] 120 (0,0))::F) rfl (.tmp 11) (.tmp 13) _ rfl 5 (.int .u8 0) 1 1 Tryz.underlying118 (by kernel_rfl) rfl (by omega) rfl hr (by exact h2) rfl (by exact hsrc) hone (bs.length+1) rfl ((bs++[b]).map bval) (by rw[List.map_append];rfl) (by unfold maxLen;omega) (by omega) ?_;intro A1 c1 w2 L1 hr1 h3 ho;have q2:w2.cell? ⟨sb,1,none⟩=some (.slice A bs.length c):=h3.cell (g:=sb) (cs:=#[.pointer (some ⟨sb,0,none⟩),.slice A bs.length c]) (t:=120) (fr:=(0,0)) (by simp) 1;have f2:w2.frozen? ⟨sb,1,none⟩=false:=h3.frozen (g:=sb) (cs:=#[.pointer (some ⟨sb,0,none⟩),.slice A bs.length c]) (t:=120) (by simp) 1;have h4:St W (w2.setCell ⟨sb,1,none⟩ (.slice A1 (bs.length+1) c1)) I ((sb,.cells #[.pointer (some ⟨sb,0,none⟩),.slice A1 (bs.length+1) c1] 120 (0,0))::(L1++F)):=St.set (A:=[]) (St.swap (B:=[(sb,_)]) h3) 1 _
 have hfin:BldSt W (w2.setCell ⟨sb,1,none⟩ (.slice A1 (bs.length+1) c1)) I sb (bs++[b]) F:=by
  refine⟨_,A1,c1,L1,.inr rfl,?_,?_,?_⟩<;>rw[List.length_append,List.length_singleton]
  ·exact hr1
  ·exact ho h0
  ·exact h4
 have Hfin:=za hfin;clear hfin h4 h3 hr1 ho h2 hsrc hone q1 hr h0;go_wp2_with fail;go_ret;exact⟨rfl,Hfin.out⟩
theorem St.freezeHead {W w:World} {I:Nat→Option Obj} {g n:Nat} {o:Obj} {F:List (Nat × Obj)} (h:St W w I ((g,o)::F)) (i:Nat):St W (w.freeze ⟨g,i,none⟩ n) I F:=by
 unfold World.freeze
 split
 ·exact St.weaken (A:=[_]) h
 ·have hF:=St.weaken (A:=[_]) h
  have hn:=h.nodup;simp only[List.map_cons,List.nodup_cons]at hn;refine⟨h.os,h.tape,h.output,fun p hp=>?_,hF.nodup,fun b o' hb=>?_,hF.apart⟩
  ·have hne:g≠p.1:=fun e=>hn.1 (e ▸ List.mem_map_of_mem hp)
   simp only[Array.getElem?_modify];rw[if_neg hne];exact hF.own p hp
  ·have hne : g ≠ b := by
    rintro rfl;have:=h.apart (g,o) (by simp);simp only at this;rw[this]at hb
    cases hb
   simp only[Array.getElem?_modify];rw[if_neg hne];exact h.imm b o' hb
theorem bldString {W w:World} {I:Nat→Option Obj} {sb:Nat} {bs:List UInt8} {F:List (Nat × Obj)} (h:BldSt W w I sb bs F) (hne:bs≠[]) :
  Calls Tryz.prog 62 #[.pointer (some ⟨sb,0,none⟩)] w fun e w'=>e=.returned (.string ⟨bs.toArray⟩)∧St W w' I F:=by
 obtain⟨A0,A,c,Lr,hA,hr,h0,hst⟩:=h
 have hlen:0 < bs.length:=by cases bs with|nil=>exact absurd rfl hne|cons _ _=>simp
 obtain⟨hl,⟨_,hz,_⟩|⟨g,off,cap,cur,hv,rfl,hnc,hcm,hsz,hx⟩⟩:=id hr
 ·omega
 injection hv with hv1 _ hv2
 subst hv1;subst hv2;obtain rfl:=h0 _ _ _ _ rfl;have hst':St W w I ([(g,.cells cur 5 (0,0))]++([(sb,.cells #[A0,.slice (some ⟨g,0,none⟩) bs.length c] 120 (0,0))]++F)):=St.swap (A:=[(sb,_)]) hst;have c1:w.drew.cell? ⟨sb,1,none⟩=some (.slice (some ⟨g,0,none⟩) bs.length c):=hst.drew1.cell (g:=sb) (cs:=#[A0,.slice (some ⟨g,0,none⟩) bs.length c]) (t:=120) (fr:=(0,0)) (by simp) 1;have hg:w.heap[g]?=some (.cells cur 5 (0,0)):=hst'.own (g,.cells cur 5 (0,0)) (by simp)
 have hSD:(Builtin.unsafeSliceData_ #[118] 155 #[.slice (some ⟨g,0,none⟩) bs.length c]).run Tryz.prog w.drew=.ok (.pointer (some ⟨g,0,none⟩)) w.drew:=
  Lib.run_unsafeSliceData_row _ _ _ _ _ _ (by omega)
 have hUS:(Builtin.unsafeString_ #[155,3] 9 #[.pointer (some ⟨g,0,none⟩),.int .i64 bs.length]).run Tryz.prog w.drew=.ok (.string ⟨bs.toArray⟩) (w.drew.freeze ⟨g,0,none⟩ bs.length):=by
  refine Lib.run_unsafeString_row (w:=w.drew) 155 3 9 5 Tryz.underlying155 (by kernel_rfl) g cur.size (bldShape hg) bs hne (by omega) (by unfold maxLen at hcm;omega) ?_;intro j x hj;obtain⟨ad,e,hc⟩:=(hr.src (fun p hp=>hst.drew1.own p (by simp at hp;simp[hp]))).2 j (.int .u8 x.toNat) (by rw[List.getElem?_map,hj];rfl)
  injection e with e
  rw[e];exact hc
 have fin:St W (w.drew.freeze ⟨g,0,none⟩ bs.length) I F:=St.weaken (A:=[_]) (St.freezeHead hst'.drew1 0);have Fin:=za fin;clear fin hst hst' hg hr h0 hl hx hsz hne;generalize w.drew.freeze ⟨g,0,none⟩ bs.length=w9 at *;generalize bs.length=nb at *
 go_enter Tryz.func62,Tryz.ntmps62
 go_wp2_with fail
 go_region
 all_goals
  go_wp2_with fail;go_ret;exact⟨rfl,Fin.out⟩
end

section
set_option linter.unusedVariables false
set_option linter.unusedSimpArgs false
open Go.RowKit Go.Lib
theorem Src.alloc_ (w:World) (xs:List Value) (t:TypeId):Src (w.alloc (.cells xs.toArray t)) 1 (some ⟨w.heap.size,0,none⟩) xs.length xs:=by
 refine⟨by simp,fun j u hj=>⟨_,rfl,?_⟩⟩;rw[show(⟨w.heap.size,0,none⟩:Addr).add j=⟨w.heap.size,j,none⟩ by unfold Addr.add;split<;>simp_all];exact cell_new rfl (by simpa using hj)
theorem na_two {W w:World} {I:Nat→Option Obj} {F Lr:List (Nat × Obj)} {v:Value} {n:Nat} {xs:List Value} (r:Int) (h0:128≤r) (h1:r≤2047) (hr:Row 5 1 v n xs Lr) (h:St W w I (Lr++F)) (hlen:n+4≤140737488355328) :
  Calls Tryz.prog 113 #[v,.int .i32 r] w fun e w'=>∃A c L',e=.returned (.slice A (n+2) c)∧Row 5 1 (.slice A (n+2) c) (n+2) (xs++[.int .u8 (192+r / 64),.int .u8 (128+r % 64)]) L'∧(Off0 v→Off0 (.slice A (n+2) c))∧St W w' I (L'++F):=by
 have hsrc:=Src.alloc_ w [.int .u8 (192+r / 64),.int .u8 (128+r % 64)] 5;have h2:St W (w.alloc (.cells #[.int .u8 (192+r / 64),.int .u8 (128+r % 64)] 5)) I (Lr++F):=St.alloc_ h _
 have hone:∀u∈([.int .u8 (192+r / 64),.int .u8 (128+r % 64)]:List Value),u.oneCell'=true:=by simp[Value.oneCell']
 obtain⟨A0,c0,rfl⟩:=hr.shape
 go_enter Tryz.func113,Tryz.ntmps113
 go_wp2_with (at_builtin;refine Hid.out ?_)
 refine za ?_;refine z8 (F:=F) rfl (.tmp 14) (.tmp 23) 118 rfl 5 (.int .u8 0) 1 1 Tryz.underlying118 (by kernel_rfl) rfl (by omega) rfl hr (by exact h2) rfl (by exact hsrc) hone (n+2) rfl (xs++[.int .u8 (192+r / 64),.int .u8 (128+r % 64)]) rfl (by unfold maxLen;omega) (by omega) ?_;intro A1 c1 w2 L1 hr1 h3 ho;have H3:=za h3;have HR:=za hr1;have HO:=za ho;clear h3 hr1 ho h2 hsrc hr h hone;go_wp2_with fail;go_ret;exact⟨_,_,_,rfl,HR.out,HO.out,H3.out⟩
theorem na_three_lo {W w:World} {I:Nat→Option Obj} {F Lr:List (Nat × Obj)} {v:Value} {n:Nat} {xs:List Value} (r:Int) (h0:2048≤r) (h1:r < 55296) (hr:Row 5 1 v n xs Lr) (h:St W w I (Lr++F)) (hlen:n+4≤140737488355328) :
  Calls Tryz.prog 113 #[v,.int .i32 r] w fun e w'=>∃A c L',e=.returned (.slice A (n+3) c)∧Row 5 1 (.slice A (n+3) c) (n+3) (xs++[.int .u8 (224+r / 4096),.int .u8 (128+r / 64 % 64),.int .u8 (128+r % 64)]) L'∧(Off0 v→Off0 (.slice A (n+3) c))∧St W w' I (L'++F):=by
 have hsrc:=Src.alloc_ w [.int .u8 (224+r / 4096),.int .u8 (128+r / 64 % 64),.int .u8 (128+r % 64)] 5;have h2:St W (w.alloc (.cells #[.int .u8 (224+r / 4096),.int .u8 (128+r / 64 % 64),.int .u8 (128+r % 64)] 5)) I (Lr++F):=St.alloc_ h _
 have hone:∀u∈([.int .u8 (224+r / 4096),.int .u8 (128+r / 64 % 64),.int .u8 (128+r % 64)]:List Value),u.oneCell'=true:=by simp[Value.oneCell']
 obtain⟨A0,c0,rfl⟩:=hr.shape
 go_enter Tryz.func113,Tryz.ntmps113
 go_wp2_with (at_builtin;refine Hid.out ?_)
 refine za ?_;refine z8 (F:=F) rfl (.tmp 34) (.tmp 48) 118 rfl 5 (.int .u8 0) 1 1 Tryz.underlying118 (by kernel_rfl) rfl (by omega) rfl hr (by exact h2) rfl (by exact hsrc) hone (n+3) rfl (xs++[.int .u8 (224+r / 4096),.int .u8 (128+r / 64 % 64),.int .u8 (128+r % 64)]) rfl (by unfold maxLen;omega) (by omega) ?_;intro A1 c1 w2 L1 hr1 h3 ho;have H3:=za h3;have HR:=za hr1;have HO:=za ho;clear h3 hr1 ho h2 hsrc hr h hone;go_wp2_with fail;go_ret;exact⟨_,_,_,rfl,HR.out,HO.out,H3.out⟩
theorem na_three_hi {W w:World} {I:Nat→Option Obj} {F Lr:List (Nat × Obj)} {v:Value} {n:Nat} {xs:List Value} (r:Int) (h0:57343 < r) (h1:r≤65535) (hr:Row 5 1 v n xs Lr) (h:St W w I (Lr++F)) (hlen:n+4≤140737488355328) :
  Calls Tryz.prog 113 #[v,.int .i32 r] w fun e w'=>∃A c L',e=.returned (.slice A (n+3) c)∧Row 5 1 (.slice A (n+3) c) (n+3) (xs++[.int .u8 (224+r / 4096),.int .u8 (128+r / 64 % 64),.int .u8 (128+r % 64)]) L'∧(Off0 v→Off0 (.slice A (n+3) c))∧St W w' I (L'++F):=by
 have hsrc:=Src.alloc_ w [.int .u8 (224+r / 4096),.int .u8 (128+r / 64 % 64),.int .u8 (128+r % 64)] 5;have h2:St W (w.alloc (.cells #[.int .u8 (224+r / 4096),.int .u8 (128+r / 64 % 64),.int .u8 (128+r % 64)] 5)) I (Lr++F):=St.alloc_ h _
 have hone:∀u∈([.int .u8 (224+r / 4096),.int .u8 (128+r / 64 % 64),.int .u8 (128+r % 64)]:List Value),u.oneCell'=true:=by simp[Value.oneCell']
 obtain⟨A0,c0,rfl⟩:=hr.shape
 go_enter Tryz.func113,Tryz.ntmps113
 go_wp2_with (at_builtin;refine Hid.out ?_)
 refine za ?_;refine z8 (F:=F) rfl (.tmp 34) (.tmp 48) 118 rfl 5 (.int .u8 0) 1 1 Tryz.underlying118 (by kernel_rfl) rfl (by omega) rfl hr (by exact h2) rfl (by exact hsrc) hone (n+3) rfl (xs++[.int .u8 (224+r / 4096),.int .u8 (128+r / 64 % 64),.int .u8 (128+r % 64)]) rfl (by unfold maxLen;omega) (by omega) ?_;intro A1 c1 w2 L1 hr1 h3 ho;have H3:=za h3;have HR:=za hr1;have HO:=za ho;clear h3 hr1 ho h2 hsrc hr h hone;go_wp2_with fail;go_ret;exact⟨_,_,_,rfl,HR.out,HO.out,H3.out⟩
theorem na_four {W w:World} {I:Nat→Option Obj} {F Lr:List (Nat × Obj)} {v:Value} {n:Nat} {xs:List Value} (r:Int) (h0:65536≤r) (h1:r≤1114111) (hr:Row 5 1 v n xs Lr) (h:St W w I (Lr++F)) (hlen:n+4≤140737488355328) :
  Calls Tryz.prog 113 #[v,.int .i32 r] w fun e w'=>∃A c L',e=.returned (.slice A (n+4) c)∧Row 5 1 (.slice A (n+4) c) (n+4) (xs++[.int .u8 (240+r / 262144),.int .u8 (128+r / 4096 % 64),.int .u8 (128+r / 64 % 64),.int .u8 (128+r % 64)]) L'∧(Off0 v→Off0 (.slice A (n+4) c))∧St W w' I (L'++F):=by
 have hsrc:=Src.alloc_ w [.int .u8 (240+r / 262144),.int .u8 (128+r / 4096 % 64),.int .u8 (128+r / 64 % 64),.int .u8 (128+r % 64)] 5;have h2:St W (w.alloc (.cells #[.int .u8 (240+r / 262144),.int .u8 (128+r / 4096 % 64),.int .u8 (128+r / 64 % 64),.int .u8 (128+r % 64)] 5)) I (Lr++F):=St.alloc_ h _
 have hone:∀u∈([.int .u8 (240+r / 262144),.int .u8 (128+r / 4096 % 64),.int .u8 (128+r / 64 % 64),.int .u8 (128+r % 64)]:List Value),u.oneCell'=true:=by simp[Value.oneCell']
 obtain⟨A0,c0,rfl⟩:=hr.shape
 go_enter Tryz.func113,Tryz.ntmps113
 go_wp2_with (at_builtin;refine Hid.out ?_)
 refine za ?_;refine z8 (F:=F) rfl (.tmp 57) (.tmp 76) 118 rfl 5 (.int .u8 0) 1 1 Tryz.underlying118 (by kernel_rfl) rfl (by omega) rfl hr (by exact h2) rfl (by exact hsrc) hone (n+4) rfl (xs++[.int .u8 (240+r / 262144),.int .u8 (128+r / 4096 % 64),.int .u8 (128+r / 64 % 64),.int .u8 (128+r % 64)]) rfl (by unfold maxLen;omega) (by omega) ?_;intro A1 c1 w2 L1 hr1 h3 ho;have H3:=za h3;have HR:=za hr1;have HO:=za ho;clear h3 hr1 ho h2 hsrc hr h hone;go_wp2_with fail;go_ret;exact⟨_,_,_,rfl,HR.out,HO.out,H3.out⟩
theorem na_neg {W w:World} {I:Nat→Option Obj} {F Lr:List (Nat × Obj)} {v:Value} {n:Nat} {xs:List Value} (r:Int) (h0:-2147483648≤r) (h1:r < 0) (hr:Row 5 1 v n xs Lr) (h:St W w I (Lr++F)) (hlen:n+4≤140737488355328) :
  Calls Tryz.prog 113 #[v,.int .i32 r] w fun e w'=>∃A c L',e=.returned (.slice A (n+3) c)∧Row 5 1 (.slice A (n+3) c) (n+3) (xs++[.int .u8 (239),.int .u8 (191),.int .u8 (189)]) L'∧(Off0 v→Off0 (.slice A (n+3) c))∧St W w' I (L'++F):=by
 have hsrc:=Src.alloc_ w [.int .u8 (239),.int .u8 (191),.int .u8 (189)] 5;have h2:St W (w.alloc (.cells #[.int .u8 (239),.int .u8 (191),.int .u8 (189)] 5)) I (Lr++F):=St.alloc_ h _
 have hone:∀u∈([.int .u8 (239),.int .u8 (191),.int .u8 (189)]:List Value),u.oneCell'=true:=by simp[Value.oneCell']
 obtain⟨A0,c0,rfl⟩:=hr.shape
 go_enter Tryz.func113,Tryz.ntmps113
 go_wp2_with (at_builtin;refine Hid.out ?_)
 refine za ?_;refine z8 (F:=F) rfl (.tmp 8) (.tmp 9) 118 rfl 5 (.int .u8 0) 1 1 Tryz.underlying118 (by kernel_rfl) rfl (by omega) rfl hr (by exact h2) rfl (by exact hsrc) hone (n+3) rfl (xs++[.int .u8 (239),.int .u8 (191),.int .u8 (189)]) rfl (by unfold maxLen;omega) (by omega) ?_;intro A1 c1 w2 L1 hr1 h3 ho;have H3:=za h3;have HR:=za hr1;have HO:=za ho;clear h3 hr1 ho h2 hsrc hr h hone;go_wp2_with fail;go_ret;exact⟨_,_,_,rfl,HR.out,HO.out,H3.out⟩
theorem na_sur {W w:World} {I:Nat→Option Obj} {F Lr:List (Nat × Obj)} {v:Value} {n:Nat} {xs:List Value} (r:Int) (h0:55296≤r) (h1:r≤57343) (hr:Row 5 1 v n xs Lr) (h:St W w I (Lr++F)) (hlen:n+4≤140737488355328) :
  Calls Tryz.prog 113 #[v,.int .i32 r] w fun e w'=>∃A c L',e=.returned (.slice A (n+3) c)∧Row 5 1 (.slice A (n+3) c) (n+3) (xs++[.int .u8 (239),.int .u8 (191),.int .u8 (189)]) L'∧(Off0 v→Off0 (.slice A (n+3) c))∧St W w' I (L'++F):=by
 have hsrc:=Src.alloc_ w [.int .u8 (239),.int .u8 (191),.int .u8 (189)] 5;have h2:St W (w.alloc (.cells #[.int .u8 (239),.int .u8 (191),.int .u8 (189)] 5)) I (Lr++F):=St.alloc_ h _
 have hone:∀u∈([.int .u8 (239),.int .u8 (191),.int .u8 (189)]:List Value),u.oneCell'=true:=by simp[Value.oneCell']
 obtain⟨A0,c0,rfl⟩:=hr.shape
 go_enter Tryz.func113,Tryz.ntmps113
 go_wp2_with (at_builtin;refine Hid.out ?_)
 refine za ?_;refine z8 (F:=F) rfl (.tmp 8) (.tmp 9) 118 rfl 5 (.int .u8 0) 1 1 Tryz.underlying118 (by kernel_rfl) rfl (by omega) rfl hr (by exact h2) rfl (by exact hsrc) hone (n+3) rfl (xs++[.int .u8 (239),.int .u8 (191),.int .u8 (189)]) rfl (by unfold maxLen;omega) (by omega) ?_;intro A1 c1 w2 L1 hr1 h3 ho;have H3:=za h3;have HR:=za hr1;have HO:=za ho;clear h3 hr1 ho h2 hsrc hr h hone;go_wp2_with fail;go_ret;exact⟨_,_,_,rfl,HR.out,HO.out,H3.out⟩
theorem na_big {W w:World} {I:Nat→Option Obj} {F Lr:List (Nat × Obj)} {v:Value} {n:Nat} {xs:List Value} (r:Int) (h0:1114111 < r) (h1:r≤2147483647) (hr:Row 5 1 v n xs Lr) (h:St W w I (Lr++F)) (hlen:n+4≤140737488355328) :
  Calls Tryz.prog 113 #[v,.int .i32 r] w fun e w'=>∃A c L',e=.returned (.slice A (n+3) c)∧Row 5 1 (.slice A (n+3) c) (n+3) (xs++[.int .u8 (239),.int .u8 (191),.int .u8 (189)]) L'∧(Off0 v→Off0 (.slice A (n+3) c))∧St W w' I (L'++F):=by
 have hsrc:=Src.alloc_ w [.int .u8 (239),.int .u8 (191),.int .u8 (189)] 5;have h2:St W (w.alloc (.cells #[.int .u8 (239),.int .u8 (191),.int .u8 (189)] 5)) I (Lr++F):=St.alloc_ h _
 have hone:∀u∈([.int .u8 (239),.int .u8 (191),.int .u8 (189)]:List Value),u.oneCell'=true:=by simp[Value.oneCell']
 obtain⟨A0,c0,rfl⟩:=hr.shape
 go_enter Tryz.func113,Tryz.ntmps113
 go_wp2_with (at_builtin;refine Hid.out ?_)
 refine za ?_;refine z8 (F:=F) rfl (.tmp 8) (.tmp 9) 118 rfl 5 (.int .u8 0) 1 1 Tryz.underlying118 (by kernel_rfl) rfl (by omega) rfl hr (by exact h2) rfl (by exact hsrc) hone (n+3) rfl (xs++[.int .u8 (239),.int .u8 (191),.int .u8 (189)]) rfl (by unfold maxLen;omega) (by omega) ?_;intro A1 c1 w2 L1 hr1 h3 ho;have H3:=za h3;have HR:=za hr1;have HO:=za ho;clear h3 hr1 ho h2 hsrc hr h hone;go_wp2_with fail;go_ret;exact⟨_,_,_,rfl,HR.out,HO.out,H3.out⟩
theorem ar_ascii {W w:World} {I:Nat→Option Obj} {F Lr:List (Nat × Obj)} {v:Value} {n:Nat} {xs:List Value} (r:Int) (h0:0≤r) (h1:r≤127) (hr:Row 5 1 v n xs Lr) (h:St W w I (Lr++F)) (hlen:n+4≤140737488355328) :
  Calls Tryz.prog 89 #[v,.int .i32 r] w fun e w'=>∃A c L',e=.returned (.slice A (n+1) c)∧Row 5 1 (.slice A (n+1) c) (n+1) (xs++[.int .u8 r]) L'∧(Off0 v→Off0 (.slice A (n+1) c))∧St W w' I (L'++F):=by
 have hsrc:=Src.alloc_ w [.int .u8 r] 5;have h2:St W (w.alloc (.cells #[.int .u8 r] 5)) I (Lr++F):=St.alloc_ h _
 have hone:∀u∈([.int .u8 r]:List Value),u.oneCell'=true:=by simp[Value.oneCell']
 obtain⟨A0,c0,rfl⟩:=hr.shape
 go_enter Tryz.func89,Tryz.ntmps89
 go_wp2_with (at_builtin;refine Hid.out ?_)
 refine za ?_;refine z8 (F:=F) rfl (.tmp 8) (.tmp 11) 118 rfl 5 (.int .u8 0) 1 1 Tryz.underlying118 (by kernel_rfl) rfl (by omega) rfl hr (by exact h2) rfl (by exact hsrc) hone (n+1) rfl (xs++[.int .u8 r]) rfl (by unfold maxLen;omega) (by omega) ?_;intro A1 c1 w2 L1 hr1 h3 ho;have H3:=za h3;have HR:=za hr1;have HO:=za ho;clear h3 hr1 ho h2 hsrc hr h hone;go_wp2_with fail;go_ret;exact⟨_,_,_,rfl,HR.out,HO.out,H3.out⟩
theorem na_any {W w:World} {I:Nat→Option Obj} {F Lr:List (Nat × Obj)} {v:Value} {n:Nat} {xs:List Value} (r:Int) (hr0:-2147483648≤r) (hr1:r≤2147483647) (hna:r < 0∨128≤r) (hr:Row 5 1 v n xs Lr) (h:St W w I (Lr++F)) (hlen:n+4≤140737488355328) :
  Calls Tryz.prog 113 #[v,.int .i32 r] w fun e w'=>∃A c L',e=.returned (.slice A (n+(Lib.runeCells r).length) c)∧Row 5 1 (.slice A (n+(Lib.runeCells r).length) c) (n+(Lib.runeCells r).length) (xs++Lib.runeCells r) L'∧(Off0 v→Off0 (.slice A (n+(Lib.runeCells r).length) c))∧St W w' I (L'++F):=by
 by_cases c0:r < 0
 ·rw[show Lib.runeCells r=[.int .u8 239,.int .u8 191,.int .u8 189] by simp[Lib.runeCells,Lib.encodeRuneZ_bad (Or.inl c0)]]
  exact na_neg r hr0 c0 hr h hlen
 by_cases c1:r≤2047
 ·rw[show Lib.runeCells r=[.int .u8 (192+r / 64),.int .u8 (128+r % 64)] by simp[Lib.runeCells,Lib.encodeRuneZ_two (by omega) c1]]
  exact na_two r (by omega) c1 hr h hlen
 by_cases c2:r < 55296
 ·rw[show Lib.runeCells r=[.int .u8 (224+r / 4096),.int .u8 (128+r / 64 % 64),.int .u8 (128+r % 64)] by simp[Lib.runeCells,Lib.encodeRuneZ_three (Or.inl ⟨by omega,c2⟩)]]
  exact na_three_lo r (by omega) c2 hr h hlen
 by_cases c3:r≤57343
 ·rw[show Lib.runeCells r=[.int .u8 239,.int .u8 191,.int .u8 189] by simp[Lib.runeCells,Lib.encodeRuneZ_bad (Or.inr (Or.inl ⟨by omega,c3⟩))]]
  exact na_sur r (by omega) c3 hr h hlen
 by_cases c4:r≤65535
 ·rw[show Lib.runeCells r=[.int .u8 (224+r / 4096),.int .u8 (128+r / 64 % 64),.int .u8 (128+r % 64)] by simp[Lib.runeCells,Lib.encodeRuneZ_three (Or.inr ⟨by omega,c4⟩)]]
  exact na_three_hi r (by omega) c4 hr h hlen
 by_cases c5:r≤1114111
 ·rw[show Lib.runeCells r=[.int .u8 (240+r / 262144),.int .u8 (128+r / 4096 % 64),.int .u8 (128+r / 64 % 64),.int .u8 (128+r % 64)] by simp[Lib.runeCells,Lib.encodeRuneZ_four (by omega) c5]]
  exact na_four r (by omega) c5 hr h hlen
 ·rw[show Lib.runeCells r=[.int .u8 239,.int .u8 191,.int .u8 189] by simp[Lib.runeCells,Lib.encodeRuneZ_bad (r:=r) (Or.inr (Or.inr (by omega)))]]
  exact na_big r (by omega) hr1 hr h hlen
theorem appendRune {W w:World} {I:Nat→Option Obj} {F Lr:List (Nat × Obj)} {v:Value} {n:Nat} {xs:List Value} (r:Int) (hr0:-2147483648≤r) (hr1:r≤2147483647) (hr:Row 5 1 v n xs Lr) (h:St W w I (Lr++F)) (hlen:n+4≤140737488355328) :
  Calls Tryz.prog 89 #[v,.int .i32 r] w fun e w'=>∃A c L',e=.returned (.slice A (n+(Lib.runeCells r).length) c)∧Row 5 1 (.slice A (n+(Lib.runeCells r).length) c) (n+(Lib.runeCells r).length) (xs++Lib.runeCells r) L'∧(Off0 v→Off0 (.slice A (n+(Lib.runeCells r).length) c))∧St W w' I (L'++F):=by
 by_cases c:0≤r∧r≤127
 ·rw[show Lib.runeCells r=[.int .u8 r] by simp[Lib.runeCells,Lib.encodeRuneZ_one c.1 c.2]]
  exact ar_ascii r c.1 c.2 hr h hlen
 ·have hc:r < 0∨128≤r:=by omega
  have cN:=na_any r hr0 hr1 hc hr h hlen;obtain⟨A0,c0,rfl⟩:=hr.shape;generalize (Lib.runeCells r).length=k at *;generalize Lib.runeCells r=rc at *;have CN:=za cN;clear cN hr h
  rcases hc with hc|hc
  all_goals
   go_enter Tryz.func89,Tryz.ntmps89
   go_wp2_with fail;refine CN.out.mono ?_;rintro e w1 ⟨A,c,L',rfl,h1,h2,h3⟩;have H1:=za h1;have H2:=za h2;have H3:=za h3;clear h1 h2 h3 CN;go_wp2_with fail;go_ret;exact⟨_,_,_,rfl,H1.out,H2.out,H3.out⟩
end
end Go.Proofs.YtnjnooeldkideaaGreatDoor
