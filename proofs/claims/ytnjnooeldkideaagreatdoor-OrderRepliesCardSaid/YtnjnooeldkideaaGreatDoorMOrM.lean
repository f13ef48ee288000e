/- order's Model as data; answers. order: an answer with an error alone. order: what is said. -/
import Derived.Test.YtnjnooeldkideaaGreatDoorOrA
import Derived.Deep.RegionHeld3
import Derived.Deep.RegionWith
import Derived.OwnWalk
import Derived.Test.YtnjnooeldkideaaGreatDoorMOrT
namespace Go.Proofs.YtnjnooeldkideaaGreatDoor
set_option maxRecDepth 100000
set_option maxHeartbeats 8000000
section
set_option linter.unusedVariables false
set_option linter.unusedSimpArgs false
open Go.RowKit Go.Lib Go.Deep
section
variable {W w:World} {J:Nat→Option Obj} {t:Tb} {F:List (Nat × Obj)}
structure Jb where
 number:Int
 state:Int
 fault:Int
 live:Bool
 slot:Int
 floor:Int
structure Jb.Ok (j:Jb):Prop where
 n0:-9223372036854775808≤j.number
 n1:j.number≤9223372036854775807
 t0:-9223372036854775808≤j.state
 t1:j.state≤9223372036854775807
 e0:-9223372036854775808≤j.fault
 e1:j.fault≤9223372036854775807
 l0:-9223372036854775808≤j.slot
 l1:j.slot≤9223372036854775807
 f0:0≤j.floor
 f1:j.floor≤18446744073709551615
def Jb.list (j:Jb):List Value:=[.int .i64 j.number,.int .i64 j.state,.int .i64 j.fault,.bool j.live,.int .i64 j.slot,.int .u64 j.floor]
def zJ:Jb:=⟨0,0,0,false,0,0⟩
structure Ry where
 err:Int
 job:Int
 state:Int
 slot:Int
 fault:Int
 t:Tb
def Ry.cells (r:Ry):Array Value:=([Value.int .i64 r.err,.int .i64 r.job,.int .i64 r.state,.int .i64 r.slot,.int .i64 r.fault]++r.t.cells.toList).toArray
structure An where
 rep:Ry
 keeps:Bool
 l:List Cg
 job:Jb
 began:Int
def An.cells (a:An) (v:Value):Array Value:=(a.rep.cells.toList++([Value.bool a.keeps,v]++(a.job.list++[Value.int .i64 a.began]))).toArray
structure Md where
 known:Tb
 tries:Int
 job:Jb
 began:Int
structure Md.Ok (m:Md):Prop where
 known:m.known.Ok
 t0:-9223372036854775808≤m.tries
 t1:m.tries≤9223372036854775807
 job:m.job.Ok
 b0:-9223372036854775808≤m.began
 b1:m.began≤9223372036854775807
def Md.cells (m:Md) (v:Value):Array Value:=(m.known.cells.toList++([v,Value.int .i64 m.tries]++(m.job.list++[Value.int .i64 m.began]))).toArray
theorem Ry.size {r:Ry} (ok:r.t.Ok):r.cells.size=80:=by
 have h:=Tb.size ok
 simp[Ry.cells,h]
theorem An.size {a:An} (ok:a.rep.t.Ok) (v:Value):(a.cells v).size=89:=by
 have h:=Ry.size ok
 simp[An.cells,h,Jb.list]
theorem Md.size {m:Md} (ok:m.known.Ok) (v:Value):(m.cells v).size=84:=by
 have h:=Tb.size ok
 simp[Md.cells,h,Jb.list]
theorem Ry.one (r:Ry):r.cells.all (·.oneCell')=true:=by
 have h0:r.t.cells.toList.all (·.oneCell')=true:=by have h:=r.t.one;rw[←Array.all_toList]at h;exact h
 unfold Ry.cells;rw[List.all_toArray,List.all_append,h0]
 rfl
theorem An.one (a:An) {v:Value} (hv:v.oneCell'=true):(a.cells v).all (·.oneCell')=true:=by
 have h0:a.rep.cells.toList.all (·.oneCell')=true:=by have h:=a.rep.one;rw[←Array.all_toList]at h;exact h
 unfold An.cells;rw[List.all_toArray,List.all_append,List.all_append,List.all_append,h0]
 simp[Jb.list,hv]
 exact⟨rfl,⟨rfl,rfl,rfl,rfl,rfl,rfl⟩,rfl⟩
theorem Md.g0 {m:Md} (ok:m.known.Ok) (v:Value) (j:Nat) (hj:j < 75):(m.cells v)[j]?=m.known.cells[j]?:=by
 have h:=Tb.size ok;unfold Md.cells;rw[List.getElem?_toArray,List.getElem?_append_left (by simp;omega)]
 simp
theorem Md.g75 {m:Md} (ok:m.known.Ok) (v:Value) (j:Nat):(m.cells v)[75+j]?=([v,Value.int .i64 m.tries]++(m.job.list++[Value.int .i64 m.began]))[j]?:=by
 have h:=Tb.size ok;unfold Md.cells;rw[List.getElem?_toArray,List.getElem?_append_right (by simp;omega)]
 congr 1
 simp[h]
theorem An.g0 {a:An} (ok:a.rep.t.Ok) (v:Value) (j:Nat) (hj:j < 80):(a.cells v)[j]?=a.rep.cells[j]?:=by
 have h:=Ry.size ok;unfold An.cells;rw[List.getElem?_toArray,List.getElem?_append_left (by simp;omega)]
 simp
theorem An.g80 {a:An} (ok:a.rep.t.Ok) (v:Value) (j:Nat):(a.cells v)[80+j]?=([Value.bool a.keeps,v]++(a.job.list++[Value.int .i64 a.began]))[j]?:=by
 have h:=Ry.size ok;unfold An.cells;rw[List.getElem?_toArray,List.getElem?_append_right (by simp;omega)]
 congr 1
 simp[h]
structure MdAt (v:World) (g:Nat) (m:Md) (nv:Value):Prop where
 tb:TbAt v g m.known
 names:v.cell? ⟨g,75,none⟩=some nv
 tries:v.cell? ⟨g,76,none⟩=some (.int .i64 m.tries)
 job:v.rangeAt g 77 m.job.list
 number:v.cell? ⟨g,77,none⟩=some (.int .i64 m.job.number)
 state:v.cell? ⟨g,78,none⟩=some (.int .i64 m.job.state)
 fault:v.cell? ⟨g,79,none⟩=some (.int .i64 m.job.fault)
 live:v.cell? ⟨g,80,none⟩=some (.bool m.job.live)
 slot:v.cell? ⟨g,81,none⟩=some (.int .i64 m.job.slot)
 floor:v.cell? ⟨g,82,none⟩=some (.int .u64 m.job.floor)
 began:v.cell? ⟨g,83,none⟩=some (.int .i64 m.began)
theorem St.md {v:World} {X:List (Nat × Obj)} {g:Nat} {m:Md} {nv:Value} {T:TypeId} {fr:Nat × Nat} (ok:m.Ok) (h:St W v J X) (hm:(g,Obj.cells (m.cells nv) T fr)∈X):MdAt v g m nv:=by
 have c:=fun j (hj:j < 75)=>(h.cell hm j).trans (Md.g0 ok.known nv j hj)
 have d:=fun j=>(h.cell hm (75+j)).trans (Md.g75 ok.known nv j)
 have ts:=Tb.size ok.known;have q0:=Tb.g0 ok.known;have q1:=Tb.g1 ok.known;have qt:=Tb.gt ok.known;refine⟨⟨?_,?_,(c 72 (by omega)).trans (qt 0),(c 73 (by omega)).trans (qt 1),(c 74 (by omega)).trans (qt 2),?_,?_,?_⟩,d 0,d 1,?_,d 2,d 3,d 4,d 5,d 6,d 7,d 8⟩
 ·intro j u hj
  have hl:j < 36:=by have:=(List.getElem?_eq_some_iff.1 hj).1;rw[Array.length_toList,ok.known.s0.len]at this;exact this
  rw[Nat.zero_add,c j (by omega),q0 j hl];simpa using hj
 ·intro j u hj
  have hl:j < 36:=by have:=(List.getElem?_eq_some_iff.1 hj).1;rw[Array.length_toList,ok.known.s1.len]at this;exact this
  rw[c (36+j) (by omega),q1 j hl];simpa using hj
 ·intro j u hj
  have hl:j < 75:=by have:=(List.getElem?_eq_some_iff.1 hj).1;rw[Array.length_toList,ts]at this;exact this
  rw[Nat.zero_add,c j hl];simpa using hj
 ·rw[c 0 (by omega),q0 0 (by omega)];rfl
 ·rw[c 36 (by omega),q1 0 (by omega)];rfl
 ·intro j u hj
  have hl:j < 6:=by have:=(List.getElem?_eq_some_iff.1 hj).1;simpa[Jb.list] using this
  have hd:=d (2+j);rw[show 75+(2+j)=77+j by omega,List.getElem?_append_right (by simp),List.getElem?_append_left (by simp[Jb.list];omega)]at hd;rw[hd,←hj]
  congr 1
  simp
def refA (m:Md) (e:Int):An:=⟨⟨e,0,0,0,0,zTb⟩,false,[],m.job,m.began⟩
theorem uj (e:Int) (w:World):(Instr.build 52 #[(0,.int .i64 e)]).run Tryz.prog w=.ok (.agg (⟨e,0,0,0,0,zTb⟩:Ry).cells) w:=run_build w _ _ _ (by kernel_rfl)
theorem run_build_ref (m:Md) (e:Int) (w:World):(Instr.build 96 #[(0,.agg (⟨e,0,0,0,0,zTb⟩:Ry).cells),(3,.agg m.job.list.toArray),(4,.int .i64 m.began)]).run Tryz.prog w=.ok (.agg ((refA m e).cells (.slice none 0 0))) w:=run_build w _ _ _ (by kernel_rfl)
end
end

section
set_option linter.unusedVariables false
set_option linter.unusedSimpArgs false
open Go.RowKit Go.Lib Go.Deep
section
variable {W w:World} {J:Nat→Option Obj} {t:Tb} {F:List (Nat × Obj)}
section
variable {P:Program} {W w:World} {I:Nat→Option Obj} {F:List (Nat × Obj)}
end
def OPost (W:World) (J:Nat→Option Obj) (F:List (Nat × Obj)) (a:An) (e:Ending) (w':World):Prop:=
 ∃A c L,e=.returned (.agg (a.cells (.slice A a.l.length c)))∧Row 147 40 (.slice A a.l.length c) a.l.length (cgs a.l) L∧St W w' J (L++F)
theorem zan:Tryz.zeroCells96.size=89:=by kernel_rfl
theorem yv {a:An} (ok:a.rep.t.Ok) (v:Value):(Tryz.prog.info? 96).map (·.size)=some (a.cells v).size:=by rw[An.size ok];kernel_rfl
theorem zaw {m:Md} {nv:Value} {gm:Nat} (ok:m.Ok) (x:Int) (h:St W w J F) (hm:(gm,Obj.cells (m.cells nv) 88 (0,0))∈F):Calls Tryz.prog 68 #[.pointer (some ⟨gm,0,none⟩),.int .i64 x] w (OPost W J F (refA m x)):=by
 have h1:=h.alloc (.cells Tryz.zeroCells96 96);obtain⟨g,hg⟩:∃g,w.heap.size=g:=⟨_,rfl⟩;rw[hg]at h1
 have mt:∀(v:World) (X:List (Nat × Obj)),St W v J X→(gm,Obj.cells (m.cells nv) 88 (0,0))∈X→v.rangeAt gm 77 m.job.list∧v.cell? ⟨gm,83,none⟩=some (.int .i64 m.began):=fun v X hv hx=>⟨(hv.md ok hx).job,(hv.md ok hx).began⟩
 have b1:=uj x;have b2:=run_build_ref m x
 have zrx:Tryz.zeroCells52.setIfInBounds 0 (.int .i64 x)=(⟨x,0,0,0,0,zTb⟩:Ry).cells:=by kernel_rfl
 have f1:(Array.foldl (fun(cs:Array Value) (x:Value × Nat)=>cs.setIfInBounds x.snd x.fst) Tryz.zeroCells96 (⟨x,0,0,0,0,zTb⟩:Ry).cells.zipIdx 0 80).size=89:=by kernel_rfl
 have f2:(List.foldl (fun(cs:Array Value) (x:Value × Nat)=>cs.setIfInBounds (82+x.snd) x.fst) (Array.foldl (fun(cs:Array Value) (x:Value × Nat)=>cs.setIfInBounds x.snd x.fst) Tryz.zeroCells96 (⟨x,0,0,0,0,zTb⟩:Ry).cells.zipIdx 0 80) m.job.list.zipIdx).size=89:=by kernel_rfl
 have f3:(List.foldl (fun(cs:Array Value) (x:Value × Nat)=>cs.setIfInBounds (82+x.snd) x.fst) (Array.foldl (fun(cs:Array Value) (x:Value × Nat)=>cs.setIfInBounds x.snd x.fst) Tryz.zeroCells96 (⟨x,0,0,0,0,zTb⟩:Ry).cells.zipIdx 0 80) m.job.list.zipIdx).setIfInBounds 88 (.int .i64 m.began)=(refA m x).cells (.slice none 0 0):=by kernel_rfl
 have rz:(⟨x,0,0,0,0,zTb⟩:Ry).cells.size=80:=Ry.size zt;have sz:=An.size (a:=refA m x) zt (.slice none 0 0);have ai:=yv (a:=refA m x) zt (.slice none 0 0);have ao:=An.one (refA m x) (v:=.slice none 0 0) rfl;have rl:(m.job.list).length=6:=rfl
 have fin:∀v,St W v J F→OPost W J F (refA m x) (.returned (.agg ((refA m x).cells (.slice none 0 0)))) v:=fun v hv=>⟨none,0,[],rfl,Row.nil _ _,hv⟩
 obtain⟨RX,hRX⟩:∃R,(⟨x,0,0,0,0,zTb⟩:Ry).cells=R:=⟨_,rfl⟩;obtain⟨AX,hAX⟩:∃R,(refA m x).cells (.slice none 0 0)=R:=⟨_,rfl⟩;obtain⟨JX,hJX⟩:∃R,m.job.list=R:=⟨_,rfl⟩;obtain⟨BG,hBG⟩:∃R,m.began=R:=⟨_,rfl⟩;rw[hRX]at b1 b2 zrx f1 f2 f3 rz;rw[hAX]at f3 b2 sz ai ao fin;rw[hJX]at b2 mt rl f2 f3;rw[hBG]at b2 mt f3
 have fit:0+AX.size≤Tryz.zeroCells96.size:=by rw[sz,zan];omega
 have many:zg Tryz.zeroCells96 0 AX.toList=AX:=by rw[zd _ _ (by rw[Array.length_toList,sz,zan]),Array.toArray_toList]
 have HJI:Hid ((Tryz.prog.info? 86).map (·.size)=some JX.length):=za (by rw[rl];kernel_rfl);have HUJ:=za Tryz.underlying86;generalize refA m x=R at *;have ZRX:=za zrx;have HB1:=za b1;have HB2:=za b2;have HAI:=za ai;have HAO:=za ao;have FIT:=za fit;have MANY:=za many;have FIN:=za fin;have MT:=za mt;have H1:=za h1;have HM:=za hm;clear zrx b1 b2 ai ao fit many fin mt h h1 hm hRX hAX hJX hBG sz ok
 go_enter Tryz.func68,Tryz.ntmps68
 go_wp2_with fail;have s1:=MT.out _ _ H1.out.drew1 (List.mem_cons_of_mem _ HM.out);have HDW:=za H1.out.drew1;refine wp_region_held_drew (S:=fun v=>v.rangeAt gm 77 JX∧v.cell? ⟨gm,83,none⟩=some (.int .i64 BG)) (by kernel_rfl) s1 (fun hHeld=>?_)
 refine tk op0 (v:=?_) (by kernel_rfl) ?_ (by assumption) ?_ fun _ _ _ h=>h
 rotate_left
 ·(refine ya rfl fun w hSw=>?_;(try dsimp only at hSw);go_simp;try with_reducible rfl)
 try simp only[Act.put,pu1,pu2,pu3]
 try simp only[ZRX.out]
 refine tk op1 (v:=?_) (by kernel_rfl) ?_ (by assumption) ?_ fun _ _ _ h=>h
 rotate_left
 ·(refine ya rfl fun w hSw=>?_;(try dsimp only at hSw);go_simp;try with_reducible rfl)
 try simp only[Act.put,pu1,pu2,pu3]
 try simp only[ZRX.out]
 refine tk op2 (v:=?_) (by kernel_rfl) ?_ (by assumption) ?_ fun _ _ _ h=>h
 rotate_left
 ·(refine ya rfl fun w hSw=>?_;(try dsimp only at hSw);go_simp;try with_reducible rfl)
 try simp only[Act.put,pu1,pu2,pu3]
 try simp only[ZRX.out]
 refine tk op3 (v:=?_) (by kernel_rfl) ?_ (by assumption) ?_ fun _ _ _ h=>h
 rotate_left
 ·(refine ya rfl fun w hSw=>?_;(try dsimp only at hSw);go_simp;try with_reducible rfl)
 try simp only[Act.put,pu1,pu2,pu3]
 try simp only[ZRX.out]
 refine tk op4 (v:=?_) (by kernel_rfl) ?_ (by assumption) ?_ fun _ _ _ h=>h
 rotate_left
 ·(refine ya rfl fun w hSw=>?_;(try dsimp only at hSw);go_simp;try with_reducible rfl)
 try simp only[Act.put,pu1,pu2,pu3]
 try simp only[ZRX.out]
 refine tk op5 (v:=?_) (by kernel_rfl) ?_ (by assumption) ?_ fun _ _ _ h=>h
 rotate_left
 ·(((refine yieldsIf_load_mid ?_ 86 (.tmp 9) ?_ gm 77 ?_ JX _ ?_ HUJ.out ?_ HJI.out)<;>first|rfl|exact fun w h=>h.1))
 try simp only[Act.put,pu1,pu2,pu3]
 try simp only[ZRX.out]
 refine tk op6 (v:=?_) (by kernel_rfl) ?_ (by assumption) ?_ fun _ _ _ h=>h
 rotate_left
 ·(refine ya rfl fun w hSw=>?_;(try dsimp only at hSw);go_simp;try with_reducible rfl)
 try simp only[Act.put,pu1,pu2,pu3]
 try simp only[ZRX.out]
 refine tk op7 (v:=?_) (by kernel_rfl) ?_ (by assumption) ?_ fun _ _ _ h=>h
 rotate_left
 ·(refine ya rfl fun w hSw=>?_;(try dsimp only at hSw);go_simp;try with_reducible rfl)
 try simp only[Act.put,pu1,pu2,pu3]
 try simp only[ZRX.out]
 refine tk op8 (v:=?_) (by kernel_rfl) ?_ (by assumption) ?_ fun _ _ _ h=>h
 rotate_left
 ·(refine ya rfl fun w hSw=>?_;(try dsimp only at hSw);go_simp;try with_reducible rfl)
 try simp only[Act.put,pu1,pu2,pu3]
 try simp only[ZRX.out]
 refine tk op9 (v:=?_) (by kernel_rfl) ?_ (by assumption) ?_ fun _ _ _ h=>h
 rotate_left
 ·((refine Or.inl ⟨by rfl,?_⟩;intro w hSw;obtain⟨hS1,hS2⟩:=hSw;go_simp;try with_reducible rfl))
 try simp only[Act.put,pu1,pu2,pu3]
 try simp only[ZRX.out]
 refine tk (oq op0) (v:=?_) (by kernel_rfl) ?_ (by assumption) ?_ fun _ _ _ h=>h
 rotate_left
 ·(refine ya rfl fun w hSw=>?_;(try dsimp only at hSw);go_simp;try with_reducible rfl)
 try simp only[Act.put,pu1,pu2,pu3]
 try simp only[ZRX.out]
 refine rd1 (oq op1) (by kernel_rfl) fun K hK=>?_
 ((refine zq rfl 96 (.tmp 4) (.tmp 15) rfl (g:=g) (off:=0) AX rfl rfl HDW.out FIT.out HAI.out HAO.out ?_;intro wf hf;rw[MANY.out]at hf;dsimp only))
 refine hK.out _ _ ?_ fun hHeld=>?_
 ·(try dsimp only)<;>((exact MT.out _ _ hf (List.mem_cons_of_mem _ HM.out)))
 clear hK K
 try simp only[Act.put,pu1,pu2,pu3]
 try simp only[ZRX.out]
 refine wpAnyH_done (by kernel_rfl) ?_ _;have HZ:=za hf;clear hf HDW H1 s1;go_wp2_with fail;refine bodyPost_ret (zp rfl _ _ g 96 AX (0,0) _ rfl (HZ.out.own (g,.cells AX 96 (0,0)) (List.mem_cons_self ..)) Tryz.underlying96 (by kernel_rfl) HAI.out) rfl ?_;exact FIN.out _ (HZ.out.weaken (A:=[_]))
end
end

section
set_option linter.unusedVariables false
set_option linter.unusedSimpArgs false
open Go.RowKit Go.Lib Go.Deep
section
variable {W w:World} {J:Nat→Option Obj} {t:Tb} {F:List (Nat × Obj)}
def okA (m:Md) (l:List Cg):An:=⟨⟨0,0,0,0,0,zTb⟩,true,l,m.job,m.began⟩
def saidA (m:Md) (l:List Cg) (x:Int):An:=if x=0 then okA m l else refA m x
theorem o_said {m:Md} {nv:Value} {gm n c:Nat} {A:Option Addr} {l:List Cg} {L:List (Nat × Obj)} (ok:m.Ok) (x:Int) (hr:Row 147 40 (.slice A n c) n (cgs l) L) (hn:n=l.length) (h:St W w J (L++F)) (hm:(gm,Obj.cells (m.cells nv) 88 (0,0))∈F):Calls Tryz.prog 71 #[.pointer (some ⟨gm,0,none⟩),.slice A n c,.int .i64 x] w (OPost W J F (saidA m l x)):=by
 have h1:=h.alloc (.cells Tryz.zeroCells96 96);obtain⟨g,hg⟩:∃g,w.heap.size=g:=⟨_,rfl⟩;rw[hg]at h1
 have mt:∀(v:World) (X:List (Nat × Obj)),St W v J X→(gm,Obj.cells (m.cells nv) 88 (0,0))∈X→v.rangeAt gm 77 m.job.list∧v.cell? ⟨gm,83,none⟩=some (.int .i64 m.began):=fun v X hv hx=>⟨(hv.md ok hx).job,(hv.md ok hx).began⟩
 have kR:=fun(v:World) (X:List (Nat × Obj)) (hv:St W v J X) (hx:(gm,Obj.cells (m.cells nv) 88 (0,0))∈X)=>zaw ok x hv hx
 have f2:(List.foldl (fun(cs:Array Value) (x:Value × Nat)=>cs.setIfInBounds (82+x.snd) x.fst) ((Tryz.zeroCells96.setIfInBounds 80 (.bool true)).setIfInBounds 81 (.slice A n c)) m.job.list.zipIdx).size=89:=by kernel_rfl
 have f3:(List.foldl (fun(cs:Array Value) (x:Value × Nat)=>cs.setIfInBounds (82+x.snd) x.fst) ((Tryz.zeroCells96.setIfInBounds 80 (.bool true)).setIfInBounds 81 (.slice A n c)) m.job.list.zipIdx).setIfInBounds 88 (.int .i64 m.began)=(okA m l).cells (.slice A n c):=by kernel_rfl
 have zs:=zan;have sz:=An.size (a:=okA m l) zt (.slice A n c);have ai:=yv (a:=okA m l) zt (.slice A n c);have ao:=An.one (okA m l) (v:=.slice A n c) rfl;have rl:(m.job.list).length=6:=rfl
 have fin:∀v,x=0→St W v J (L++F)→OPost W J F (saidA m l x) (.returned (.agg ((okA m l).cells (.slice A n c)))) v:=fun v hx hv=>by
  unfold saidA;rw[if_pos hx];subst hn;exact⟨A,c,L,rfl,hr,hv⟩
 have fin2:x≠0→∀(v:World) (A':Option Addr) (c':Nat) (L':List (Nat × Obj)) (cs:Array Value),Row 147 40 (.slice A' 0 c') 0 [] L'→St W v J ((g,.cells cs 96 (0,0))::(L'++(L++F)))→OPost W J F (saidA m l x) (.returned (.agg ((refA m x).cells (.slice A' 0 c')))) v:=fun hx v A' c' L' cs hr' hv=>by
  unfold saidA;rw[if_neg hx];exact⟨A',c',L',rfl,hr',hv.keep ((g,.cells cs 96 (0,0))::L) (fun i a=>by simp only[List.count_append,List.count_cons];omega)⟩
 have rsz:=fun(A':Option Addr) (c':Nat)=>An.size (a:=refA m x) zt (.slice A' 0 c')
 have rai:=fun(A':Option Addr) (c':Nat)=>yv (a:=refA m x) zt (.slice A' 0 c')
 have rao:=fun(A':Option Addr) (c':Nat)=>An.one (refA m x) (v:=.slice A' 0 c') rfl
 obtain⟨AX,hAX⟩:∃R,(okA m l).cells (.slice A n c)=R:=⟨_,rfl⟩;obtain⟨RC,hRC⟩:∃R:Option Addr→Nat→Array Value,(fun A' c'=>(refA m x).cells (.slice A' 0 c'))=R:=⟨_,rfl⟩
 have hRC2:∀A' c',(refA m x).cells (.slice A' 0 c')=RC A' c':=fun A' c'=>by rw[←hRC]
 obtain⟨JX,hJX⟩:∃R,m.job.list=R:=⟨_,rfl⟩;obtain⟨BG,hBG⟩:∃R,m.began=R:=⟨_,rfl⟩;rw[hAX]at f3 sz ai ao fin;simp only[hRC2]at fin2 rsz rai rao;rw[hJX]at mt rl f2 f3;rw[hBG]at mt f3
 have fit:0+AX.size≤Tryz.zeroCells96.size:=by rw[sz,zan];omega
 have many:zg Tryz.zeroCells96 0 AX.toList=AX:=by rw[zd _ _ (by rw[Array.length_toList,sz,zan]),Array.toArray_toList]
 have rfit:∀A' c',0+(RC A' c').size≤Tryz.zeroCells96.size:=fun A' c'=>by rw[rsz,zan];omega
 have rmany:∀A' c',zg Tryz.zeroCells96 0 (RC A' c').toList=RC A' c':=fun A' c'=>by rw[zd _ _ (by rw[Array.length_toList,rsz,zan]),Array.toArray_toList]
 have kR2:∀(v:World) (X:List (Nat × Obj)),St W v J X→(gm,Obj.cells (m.cells nv) 88 (0,0))∈X→Calls Tryz.prog 68 #[.pointer (some ⟨gm,0,none⟩),.int .i64 x] v fun e w'=>∃A' c' L',e=.returned (.agg (RC A' c'))∧Row 147 40 (.slice A' 0 c') 0 [] L'∧St W w' J (L'++X):=fun v X hv hx=>(kR v X hv hx).mono (fun e w' ho=>by obtain⟨A',c',L',e1,e2,e3⟩:=ho;exact⟨A',c',L',by rw[e1,←hRC2];rfl,e2,e3⟩)
 have HJI:Hid ((Tryz.prog.info? 86).map (·.size)=some JX.length):=za (by rw[rl];kernel_rfl);have HUJ:=za Tryz.underlying86;generalize saidA m l x=R at *;have HAI:=za ai;have HAO:=za ao;have FIT:=za fit;have MANY:=za many;have FIN:=za fin;have FIN2:=za fin2;have RAI:=za rai;have RAO:=za rao;have RFIT:=za rfit;have RMANY:=za rmany;have KR:=za kR2;have MT:=za mt;have H1:=za h1;have HM:=za (List.mem_append_right L hm);clear ai ao fit many fin fin2 rai rao rsz rfit rmany kR kR2 mt h h1 hm hAX hRC hRC2 hJX hBG sz ok hr hn
 by_cases hx:x=0
 ·subst hx
  go_enter Tryz.func71,Tryz.ntmps71
  go_wp2_with fail;have s1:=MT.out _ _ H1.out.drew1 (List.mem_cons_of_mem _ HM.out);have HDW:=za H1.out.drew1;refine wp_region_held_drew (S:=fun v=>v.rangeAt gm 77 JX∧v.cell? ⟨gm,83,none⟩=some (.int .i64 BG)) (by kernel_rfl) s1 (fun hHeld=>?_)
  refine tk op0 (v:=?_) (by kernel_rfl) ?_ (by assumption) ?_ fun _ _ _ h=>h
  rotate_left
  ·(refine ya rfl fun w hSw=>?_;(try dsimp only at hSw);go_simp;try with_reducible rfl)
  try simp only[Act.put,pu1,pu2,pu3]
  refine tk op1 (v:=?_) (by kernel_rfl) ?_ (by assumption) ?_ fun _ _ _ h=>h
  rotate_left
  ·(refine ya rfl fun w hSw=>?_;(try dsimp only at hSw);go_simp;try with_reducible rfl)
  try simp only[Act.put,pu1,pu2,pu3]
  refine tk op2 (v:=?_) (by kernel_rfl) ?_ (by assumption) ?_ fun _ _ _ h=>h
  rotate_left
  ·(refine ya rfl fun w hSw=>?_;(try dsimp only at hSw);go_simp;try with_reducible rfl)
  try simp only[Act.put,pu1,pu2,pu3]
  refine tk op3 (v:=?_) (by kernel_rfl) ?_ (by assumption) ?_ fun _ _ _ h=>h
  rotate_left
  ·(refine ya rfl fun w hSw=>?_;(try dsimp only at hSw);go_simp;try with_reducible rfl)
  try simp only[Act.put,pu1,pu2,pu3]
  refine tk op4 (v:=?_) (by kernel_rfl) ?_ (by assumption) ?_ fun _ _ _ h=>h
  rotate_left
  ·(((refine yieldsIf_load_mid ?_ 86 (.tmp 15) ?_ gm 77 ?_ JX _ ?_ HUJ.out ?_ HJI.out)<;>first|rfl|exact fun w h=>h.1))
  try simp only[Act.put,pu1,pu2,pu3]
  refine tk op5 (v:=?_) (by kernel_rfl) ?_ (by assumption) ?_ fun _ _ _ h=>h
  rotate_left
  ·(refine ya rfl fun w hSw=>?_;(try dsimp only at hSw);go_simp;try with_reducible rfl)
  try simp only[Act.put,pu1,pu2,pu3]
  refine tk op6 (v:=?_) (by kernel_rfl) ?_ (by assumption) ?_ fun _ _ _ h=>h
  rotate_left
  ·(refine ya rfl fun w hSw=>?_;(try dsimp only at hSw);go_simp;try with_reducible rfl)
  try simp only[Act.put,pu1,pu2,pu3]
  refine tk op7 (v:=?_) (by kernel_rfl) ?_ (by assumption) ?_ fun _ _ _ h=>h
  rotate_left
  ·(refine ya rfl fun w hSw=>?_;(try dsimp only at hSw);go_simp;try with_reducible rfl)
  try simp only[Act.put,pu1,pu2,pu3]
  refine tk op8 (v:=?_) (by kernel_rfl) ?_ (by assumption) ?_ fun _ _ _ h=>h
  rotate_left
  ·((refine Or.inl ⟨by rfl,?_⟩;intro w hSw;obtain⟨hS1,hS2⟩:=hSw;go_simp;try with_reducible rfl))
  try simp only[Act.put,pu1,pu2,pu3]
  refine tk op9 (v:=?_) (by kernel_rfl) ?_ (by assumption) ?_ fun _ _ _ h=>h
  rotate_left
  ·(refine ya rfl fun w hSw=>?_;(try dsimp only at hSw);go_simp;try with_reducible rfl)
  try simp only[Act.put,pu1,pu2,pu3]
  refine rd1 (oq op0) (by kernel_rfl) fun K hK=>?_
  ((refine zq rfl 96 (.tmp 6) (.tmp 21) rfl (g:=g) (off:=0) AX rfl rfl HDW.out FIT.out HAI.out HAO.out ?_;intro wf hf;rw[MANY.out]at hf;dsimp only))
  refine hK.out _ _ ?_ fun hHeld=>?_
  ·(try dsimp only)<;>((exact MT.out _ _ hf (List.mem_cons_of_mem _ HM.out)))
  clear hK K
  try simp only[Act.put,pu1,pu2,pu3]
  refine wpAnyH_done (by kernel_rfl) ?_ _;have HZ:=za hf;clear hf HDW H1 s1;go_wp2_with fail;refine bodyPost_ret (zp rfl _ _ g 96 AX (0,0) _ rfl (HZ.out.own (g,.cells AX 96 (0,0)) (List.mem_cons_self ..)) Tryz.underlying96 (by kernel_rfl) HAI.out) rfl ?_;exact FIN.out _ (by trivial) (HZ.out.weaken (A:=[_]))
 ·have b1:(x != 0)=true:=by simpa using hx
  have KR2:=za (KR.out _ _ H1.out (List.mem_cons_of_mem _ HM.out));have FX:=za (FIN2.out hx);clear hx KR FIN FIN2 f2 f3
  go_enter Tryz.func71,Tryz.ntmps71
  go_wp2_with fail;refine KR2.out.mono ?_;rintro e w2 ⟨A',c',L',rfl,hr',h2⟩;have h3:=h2.perm (L':=(g,.cells Tryz.zeroCells96 96 (0,0))::(L'++(L++F))) ze;have H3:=za h3;have HR:=za hr';have rai:=RAI.out A' c';have rao:=RAO.out A' c';have rfit:=RFIT.out A' c';have rmany:=RMANY.out A' c';have FX2:=za (fun v cs=>FX.out v A' c' L' cs hr');obtain⟨Q,hQ⟩:∃Q,RC A' c'=Q:=⟨_,rfl⟩;rw[hQ]at rai rao rfit rmany FX2 ⊢;have RAI2:=za rai;have RAO2:=za rao;have RFIT2:=za rfit;have RMANY2:=za rmany;clear h2 h3 hr' rai rao rfit rmany hQ KR2 H1
  go_wp2_with (with_reducible refine zc rfl 96 (.tmp 6) (.tmp 11) rfl (g:=g) (off:=0) Q rfl rfl H3.out RFIT2.out RAI2.out RAO2.out ?_;intro w4 h4;refine Hid.out ?_)
  refine za ?_;rw[RMANY2.out]at h4;have HZ:=za h4;clear h4 H3;go_wp2_with fail;refine bodyPost_ret (zp rfl _ _ g 96 Q (0,0) _ rfl (HZ.out.own (g,.cells Q 96 (0,0)) (List.mem_cons_self ..)) Tryz.underlying96 (by kernel_rfl) RAI2.out) rfl ?_;exact FX2.out _ _ HZ.out
end
end
end Go.Proofs.YtnjnooeldkideaaGreatDoor
