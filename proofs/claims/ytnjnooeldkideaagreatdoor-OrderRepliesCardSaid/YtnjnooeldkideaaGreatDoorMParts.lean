/- Bytes as arguments and as values: slices of bytes, hashes. Hashes as arguments and as values. An array of 32 bytes that is filled. Noughts; a result that is a row. slot: what is known of one, in plain Lean; slots as values. Go's own tables, as the program's text lays them: what the walks read of them. Names of letters of any kind: what is asked of a text, in plain Lean. glyph.Name: walks. slot: what a slot may be, and becomes: walks. -/
import Derived.Test.YtnjnooeldkideaaGreatDoorSlices
import Derived.Test.YtnjnooeldkideaaGreatDoorRows
import Derived.Stop.BytesEq
import Derived.Laws.BytesArg
import Derived.Test.YtnjnooeldkideaaGreatDoorShelf
import Derived.Laws.StructEq
import Derived.Test.YtnjnooeldkideaaGreatDoorBase
import Derived.Lib.LaidRTab
import Derived.Lib.LaidCase
import Derived.Lib.LaidU8
import Derived.PinnedBridge
import Derived.Lay
import Derived.LaidByTextLater
import Derived.Lib.DecodeN
import Derived.Lib.RuneBytes
import Derived.Laws.RangeAny
import Derived.Shelf.Unicode.CaseLaid
import Derived.Shelf.Unicode.PredsPay
import Derived.Lib.TrimU
import Derived.Lib.OthersKept
import Derived.WalkKit
import Derived.Deep.DeepCutAuto
namespace Go.Proofs.YtnjnooeldkideaaGreatDoor
set_option maxRecDepth 100000
set_option maxHeartbeats 8000000
section
set_option linter.unusedVariables false
set_option linter.unusedSimpArgs false
open Go.RowKit
structure Part where
 A:Option Addr
 c:Nat
 bs:List UInt8
def Part.val (p:Part):Value:=.slice p.A p.bs.length p.c
def bcells (bs:List UInt8):Array Value:=(bs.map bval).toArray
theorem um (bs:List UInt8):(bcells bs).size=bs.length:=by simp[bcells]
section
variable {W:World} {I:Nat→Option Obj}
def Part.In (p:Part) (W:World) (I:Nat→Option Obj):Prop:=∀w L,St W w I L→Src w 1 p.A p.bs.length (p.bs.map bval)
end
theorem part_of_slc {W:World} {A:Option Addr} {n c:Nat} {xs:List UInt8} (h:Slc (fun b=>W.heap[b]?) 1 (fun cs (b:UInt8)=>cs=[bval b]) A n c xs):Part.In ⟨A,c,xs⟩ W (fun b=>W.heap[b]?):=by
 intro w L hst;refine⟨by simp,fun j u hj=>?_⟩;rw[List.getElem?_map]at hj
 cases hx:xs[j]? with
 | none=>rw[hx]at hj;cases hj
 | some x=>
  rw[hx]at hj;simp only[Option.map_some,Option.some.injEq]at hj;subst hj;obtain⟨b,off,cs,rfl,h1,h2,rfl⟩:=h.at_ j x hx;refine⟨_,rfl,?_⟩;rw[show(⟨b,off,none⟩:Addr).add j=⟨b,off+j,none⟩ by unfold Addr.add;split<;>simp_all];have:=h2 0 (by omega);rw[Nat.mul_one,Nat.add_zero]at this;exact hst.ro this
theorem Cel.byte {H:Type} {enc:TypeId × Value→H} {P:Program} {W:World} {t:TypeId} {cs:List Value} (ht:P.underlying t=some (.int .u8)) (h:Cel enc P W t cs):∃b:UInt8,cs=[bval b]:=by
 obtain⟨n,rfl,hw⟩:=h.int ht;obtain⟨h1,h2⟩:=wf_u8 hw;refine⟨UInt8.ofNat n.toNat,?_⟩;unfold bval;rw[UInt8.toNat_ofNat']
 congr 2
 omega
theorem Arg.bytes {H:Type} {enc:TypeId × Value→H} {P:Program} {W:World} {t e:TypeId} {v:Value} (ht:P.underlying t=some (.slice e)) (he:P.underlying e=some (.int .u8)) (hc:P.cellsOf e=1) (h:Arg enc P W t v) :
  ∃A n c xs,v=.slice A n c∧xs.length=n∧n≤c∧c≤maxLen∧Part.In ⟨A,c,xs⟩ W (fun b=>W.heap[b]?):=by
 obtain⟨A,n,c,xs,hv,hs⟩:=h.slice (α:=UInt8) (Q:=fun cs b=>cs=[bval b]) (size:=1) ht hc (by omega) (fun cs hcs=>hcs.byte he);exact⟨A,n,c,xs,hv,hs.len,hs.cap,hs.cap',part_of_slc hs⟩
theorem zaq {P:Program} {w:World} {src dst e:TypeId} (hs:P.underlying src=some (.slice e)) (he:P.underlying e=some (.int .u8)) (hd:P.underlying dst=some .string) {A:Option Addr} {c:Nat} {xs:List UInt8} (h:Src w 1 A xs.length (xs.map bval)) :
  (convert src dst (.slice A xs.length c)).run P w=.ok (.string ⟨xs.toArray⟩) w:=by
 rw[run_convert_bytes_string w src dst e A _ c hs he hd]
 cases hx:xs with
 | nil=>
  cases A with
  | none=>simp[Conv.bytesToString];rfl
  | some a=>
   have hl:(loadCells a 0).run P w=.ok (([]:List Int).map (Value.int .u8)).toArray w:=by simp[loadCells,loadCellsFrom]
   exact run_bytesToString w a 0 c [] hl
 | cons x l=>
  rw[←hx];obtain⟨ad,rfl,_⟩:=h.2 0 (bval x) (by rw[hx];rfl)
  have hl:(loadCells ad xs.length).run P w=.ok ((xs.map fun(b:UInt8)=>(b.toNat:Int)).map (Value.int .u8)).toArray w:=by
   have:=run_loadCells_list (P:=P) w ad (xs.map bval) (fun j v hj=>by
    obtain⟨ad',e1,h2⟩:=h.2 j v hj
    injection e1 with e1
    rw[e1]
    exact h2)
   rw[List.length_map]at this;rw[this]
   congr 2
   rw[List.map_map]
   rfl
  rw[run_bytesToString w ad xs.length c _ hl,foldl_push_bytes]
  congr 2
  simp[ByteArray.empty,ByteArray.emptyWithCapacity,List.map_map]
  refine(List.nil_append _).trans ?_;refine(List.map_congr_left fun b _=>?_).trans (List.map_id _)
  simp
end

section
set_option linter.unusedVariables false
set_option linter.unusedSimpArgs false
open Go.RowKit
theorem eq_bcells (xs ys:List UInt8) (hx:xs.length=32) (hy:ys.length=32) (w:World):(Op.equalIn 10000 24 (.agg (bcells xs)) (.agg (bcells ys))).run Tryz.prog w=.ok (xs==ys) w:=
 run_equalIn_bytes w 9998 24 5 32 Tryz.underlying24 Tryz.underlying5 Tryz.sizeOf5 xs ys hx hy
end

section
set_option linter.unusedVariables false
set_option linter.unusedSimpArgs false
open Go.RowKit
def bpart (l:List UInt8):Array Value:=(l.map bval++List.replicate (32-l.length) (Value.int .u8 0)).toArray
theorem zero32_cells:bpart []=#[.int .u8 0,.int .u8 0,.int .u8 0,.int .u8 0,.int .u8 0,.int .u8 0,.int .u8 0,.int .u8 0,.int .u8 0,.int .u8 0,.int .u8 0,.int .u8 0,.int .u8 0,.int .u8 0,.int .u8 0,.int .u8 0,.int .u8 0,.int .u8 0,.int .u8 0,.int .u8 0,.int .u8 0,.int .u8 0,.int .u8 0,.int .u8 0,.int .u8 0,.int .u8 0,.int .u8 0,.int .u8 0,.int .u8 0,.int .u8 0,.int .u8 0,.int .u8 0]:=by kernel_rfl
end

section
set_option linter.unusedVariables false
set_option linter.unusedSimpArgs false
open Go.RowKit
def zeros32:List UInt8:=List.replicate 32 0
theorem zeros_cells:bcells zeros32=bpart []:=by kernel_rfl
theorem zr {P:Program} {fn:Func} {p q:Tmp} {ty:TypeId} (h:fn.results=#[.cell p ty,.tmp q]) (tmps:Array Value) (w:World) (g:Nat) (t:TypeId) (cs:Array Value) (fr:Nat × Nat) (d:TypeDesc) (v:Value)
  (hp:tmps.getD p undef=.pointer (some ⟨g,0,none⟩)) (hq:tmps.getD q undef=v) (hg:w.heap[g]?=some (.cells cs t fr))
  (hu:P.underlying ty=some d) (hd:(match d with | .struct _ | .array _ _=>true|_=>false)=true) (hi:(P.info? ty).map (·.size)=some cs.size) :
  (results fn tmps).run P w=.ok (.tuple #[.agg cs,v]) w:=by
 have hp':tmps[p]?.getD undef=.pointer (some ⟨g,0,none⟩):=by simpa using hp
 have hq':tmps[q]?.getD undef=v:=by simpa using hq
 simp[results,h,hp',hq',asAddr,run_loadVar_row w g t ty cs fr d hg hu hd hi]
end

section
set_option linter.unusedVariables false
set_option linter.unusedSimpArgs false
open Go.RowKit Go.Lib
structure Slt where
 st:Int
 tr:Int
 ver:Int
 sz:Int
 dig:List UInt8
structure Slt.Ok (s:Slt):Prop where
 dig:s.dig.length=32
 st0:-9223372036854775808≤s.st
 st1:s.st≤9223372036854775807
 tr0:-9223372036854775808≤s.tr
 tr1:s.tr≤9223372036854775807
 ver0:0≤s.ver
 ver1:s.ver≤18446744073709551615
 sz0:-9223372036854775808≤s.sz
 sz1:s.sz≤9223372036854775807
def Slt.cells (s:Slt):Array Value:=([Value.int .i64 s.st,.int .i64 s.tr,.int .u64 s.ver,.int .i64 s.sz]++s.dig.map bval).toArray
def Slt.val (s:Slt):Value:=.agg s.cells
def zS:Slt:=⟨0,0,0,0,zeros32⟩
def bareS (n:Int):Slt:=⟨n,0,0,0,zeros32⟩
def sameS (s t:Slt):Bool:=s.st==t.st&&(s.tr==t.tr&&(s.ver==t.ver&&(s.sz==t.sz&&s.dig==t.dig)))
def noneS (s:Slt):Bool:=s.tr==0&&(s.ver==0&&(s.sz==0&&s.dig==zeros32))
def imgS (s:Slt):Bool:=decide (1≤s.ver)&&(decide (s.ver≤281474976710656)&&(decide (1≤s.sz)&&decide (s.sz≤65536)))
def rightS (s:Slt):Bool:=
 if s.st=0∨s.st=1∨s.st=4 then noneS s
 else if s.st=2 then decide (0≤s.tr)&&(decide (s.tr≤7)&&imgS s)
 else if s.st=3 then s.tr==0&&imgS s
 else false
def fullS (s:Slt):Bool:=s.st==2||s.st==3
def tryS (s:Slt):Slt × Int:=if (rightS s&&(s.st==2&&!(s.tr==0)))=true then ({ s with tr:=s.tr-1 },0) else (zS,101)
def goodS (s:Slt):Slt × Int:=if (rightS s&&fullS s)=true then ({ s with st:=3,tr:=0 },0) else (zS,101)
def badS (s:Slt):Slt × Int:=if (rightS s&&fullS s)=true then (bareS 4,0) else (zS,101)
def bootS (s:Slt):Bool:=rightS s&&(s.st==3||(s.st==2&&decide (0 < s.tr)))
theorem zn:zeros32.length=32:=by simp[zeros32]
theorem qw (n:Int) (h0:-9223372036854775808≤n) (h1:n≤9223372036854775807):(bareS n).Ok:=⟨zn,h0,h1,by simp[bareS],by simp[bareS],by simp[bareS],by simp[bareS],by simp[bareS],by simp[bareS]⟩
theorem zS_ok:zS.Ok:=qw 0 (by decide) (by decide)
theorem Slt.size {s:Slt} (h:s.dig.length=32):s.cells.size=36:=by simp[Slt.cells,h]
theorem Slt.at0 (s:Slt):s.cells[0]?=some (.int .i64 s.st):=rfl
theorem Slt.at1 (s:Slt):s.cells[1]?=some (.int .i64 s.tr):=rfl
theorem Slt.at2 (s:Slt):s.cells[2]?=some (.int .u64 s.ver):=rfl
theorem Slt.at3 (s:Slt):s.cells[3]?=some (.int .i64 s.sz):=rfl
theorem Slt.at4 (s:Slt) (j:Nat):s.cells[4+j]?=(s.dig.map bval)[j]?:=by
 unfold Slt.cells;rw[List.getElem?_toArray,List.getElem?_append_right (by simp)]
 congr 1
 simp
theorem Slt.one (s:Slt):s.cells.all (·.oneCell')=true:=by
 unfold Slt.cells;rw[List.all_toArray,List.all_append,Bool.and_eq_true];refine⟨rfl,?_⟩;rw[List.all_eq_true];intro u hu;obtain⟨b,_,rfl⟩:=List.mem_map.1 hu
 rfl
theorem same_bare (s:Slt):sameS s (bareS s.st)=noneS s:=by simp[sameS,bareS,noneS]
theorem qy (w:World) (xs:Array Value) (t:TypeId) (off:Nat) (v:Value) (hA:∀w,(isAgg t).run Tryz.prog w=.ok false w) (h:xs[off]?=some v):(part t xs off).run Tryz.prog w=.ok v w:=by
 unfold part
 simp[hA,h]
theorem part_dig (w:World) (s:Slt) (hs:s.dig.length=32):(part 24 s.cells 4).run Tryz.prog w=.ok (.agg (bcells s.dig)) w:=by
 have hA:(isAgg 24).run Tryz.prog w=.ok true w:=Tryz.isAgg24 w;have hS:(sizeOf 24).run Tryz.prog w=.ok 32 w:=Tryz.sizeOf24 w
 have e:s.cells.extract 4 (4+32)=bcells s.dig:=by
  apply Array.ext_getElem?;intro j;rw[Array.getElem?_extract]
  split
  ·rename_i hj
   rw[Slt.at4]
   simp[bcells]
  ·rename_i hj
   rw[Slt.size hs]at hj;rw[Array.getElem?_eq_none];rw[um,hs]
   omega
 unfold part
 simp[hA,hS,e]
theorem eq_slot (s t:Slt) (hs:s.dig.length=32) (ht:t.dig.length=32) (w:World):(Op.equalIn 10000 26 (.agg s.cells) (.agg t.cells)).run Tryz.prog w=.ok (sameS s t) w:=by
 have i3:∀w,(isAgg 3).run Tryz.prog w=.ok false w:=Tryz.isAgg3;have i6:∀w,(isAgg 22).run Tryz.prog w=.ok false w:=Tryz.isAgg22
 have e5:∀w,(Op.equalIn 9999 24 (.agg (bcells s.dig)) (.agg (bcells t.dig))).run Tryz.prog w=.ok (s.dig==t.dig) w:=fun w=>run_equalIn_bytes w 9997 24 5 32 Tryz.underlying24 Tryz.underlying5 Tryz.sizeOf5 s.dig t.dig hs ht
 have q1:=fun w=>qy w s.cells 3 0 _ i3 s.at0
 have q2:=fun w=>qy w s.cells 3 1 _ i3 s.at1
 have q3:=fun w=>qy w s.cells 22 2 _ i6 s.at2
 have q4:=fun w=>qy w s.cells 3 3 _ i3 s.at3
 have q5:=fun w=>part_dig w s hs
 have r1:=fun w=>qy w t.cells 3 0 _ i3 t.at0
 have r2:=fun w=>qy w t.cells 3 1 _ i3 t.at1
 have r3:=fun w=>qy w t.cells 22 2 _ i6 t.at2
 have r4:=fun w=>qy w t.cells 3 3 _ i3 t.at3
 have r5:=fun w=>part_dig w t ht
 rw[run_equalIn_struct w 9999 26 s.cells t.cells (by simp[Program.fieldsOf,Tryz.underlying26]) (by kernel_rfl)];simp only[Program.fieldsOf,Tryz.underlying26]
 have c1:∀(w:World) (a b:Int),(Op.equalIn 9999 3 (.int .i64 a) (.int .i64 b)).run Tryz.prog w=.ok (a==b) w:=fun w a b=>run_equalIn_int w 9998 3 .i64 .i64 a b Tryz.underlying3
 have c2:∀(w:World) (a b:Int),(Op.equalIn 9999 22 (.int .u64 a) (.int .u64 b)).run Tryz.prog w=.ok (a==b) w:=fun w a b=>run_equalIn_int w 9998 22 .u64 .u64 a b Tryz.underlying22
 simp only[Op.eqFields,Sem.run_bind,Sem.run_ite,Sem.run_pure,Result.andThen_ok,q1,q2,q3,q4,q5,r1,r2,r3,r4,r5,c1,c2,e5];unfold sameS
 cases h1:s.st==t.st<;>cases h2:s.tr==t.tr<;>cases h3:s.ver==t.ver<;>cases h4:s.sz==t.sz<;>cases h5:s.dig==t.dig<;>simp
end

section
set_option linter.unusedVariables false
set_option linter.unusedSimpArgs false
open Go.RowKit Go.Shelf Go.Lib
structure Tabs (w:World):Prop where
 props:Lib.TabIs Tryz.prog w "unicode.properties" .u8 Lib.propertiesTab
 letter:RVar 1 letterT w
 digit:RVar 2 digitT w
 case:CaseVar 3 caseA w
 utf8:Lib.Utf8Tabs 4 5 w
theorem xR:RExtra Tryz.prog Tryz.lays261_ren:=⟨by kernel_rfl,by kernel_rfl,by kernel_rfl,by kernel_rfl,by kernel_rfl,by kernel_rfl,by kernel_rfl,by kernel_rfl⟩
theorem xC:CaseExtra Tryz.prog Tryz.lays204_ren:=⟨by kernel_rfl,by kernel_rfl,by kernel_rfl,by kernel_rfl,by kernel_rfl,by kernel_rfl⟩
theorem xU:U8Extra Tryz.prog Tryz.lays260_ren:=⟨by kernel_rfl,by kernel_rfl,by kernel_rfl,by kernel_rfl,by kernel_rfl,by kernel_rfl,by kernel_rfl⟩
theorem accept_eq:(Rows.laid_unicode_utf8_acceptRanges:DataW Unit)=acceptData:=by kernel_rfl
theorem props_eq:(Rows.laid_unicode_properties:DataW Unit)=tabData .u8 Lib.propertiesTab:=by kernel_rfl
theorem letter_eq:Rows.laid_unicode_Letter=rtabData letterT:=Pinned.letter_eq
theorem digit_eq:Rows.laid_unicode_Digit=rtabData digitT:=Pinned.digit_eq
theorem case_eq:Rows.laid_unicode_CaseRanges=caseData:=Pinned.caseRanges_eq
theorem first_eq:Rows.laid_unicode_utf8_first=firstData:=Pinned.utf8First_eq
theorem tabIs_of_reads {P:Program} {W:World} {name:String} {k:IntKind} {zs:List Int} {g:Nat} {t e:TypeId} {n:Nat}
  (hg:P.globalNamed name=some g) (hty:(P.globals[g]?).map (·.type)=some t) (ht:P.underlying t=some (.array n e)) (he:P.underlying e=some (.int k)) (hce:P.cellsOf e=1) (hct:P.cellsOf t=n)
  (h:VarReads P W name (tabData k zs)):TabIs P W name k zs:=by
 obtain⟨g',t',cs,fuel,p,hg',ht',hvar,hd⟩:=h;obtain rfl:=Option.some.inj (hg.symm.trans hg');obtain rfl:=Option.some.inj (hty.symm.trans ht');unfold TabIs;rw[hvar,←cells_of_tab ht he hce hct hd]
theorem tabs_of_laid {l:List (String × DataW Unit)} {w:World} (h:laidMetH Tryz.prog l w) (hp:(l.all fun x=>x.2.handleName?.isNone)=true)
  (h1:("unicode.properties",Rows.laid_unicode_properties)∈l) (h2:("unicode.Letter",Rows.laid_unicode_Letter)∈l) (h3:("unicode.Digit",Rows.laid_unicode_Digit)∈l)
  (h4:("unicode.CaseRanges",Rows.laid_unicode_CaseRanges)∈l) (h5:("unicode/utf8.first",Rows.laid_unicode_utf8_first)∈l) (h6:("unicode/utf8.acceptRanges",Rows.laid_unicode_utf8_acceptRanges)∈l):Tabs w:=by
 rw[MakeChecks.laidMetH_plain _ _ _ hp]at h
 exact⟨tabIs_of_reads (g:=0) (by kernel_rfl) (by kernel_rfl) Tryz.underlying175 Tryz.underlying5 (by kernel_rfl) (by kernel_rfl) (props_eq ▸ Lib.laidMet.reads h h1),
  rvar_of_reads Tryz.lays261 xR (by kernel_rfl) (by kernel_rfl) (letter_eq ▸ Lib.laidMet.reads h h2),
  rvar_of_reads Tryz.lays261 xR (by kernel_rfl) (by kernel_rfl) (digit_eq ▸ Lib.laidMet.reads h h3),
  caseVar_of_reads (ρ:=Tryz.lays204_ren) { Tryz.lays204 with } (by kernel_rfl) xC (case_eq ▸ Lib.laidMet.reads h h4),
  utf8Tabs_of_reads Tryz.lays260 xU (first_eq ▸ Lib.laidMet.reads h h5) (accept_eq ▸ Lib.laidMet.reads h h6)⟩
theorem caseVar_below {g:Nat} {T:Array CaseRow} {w w':World} (h:CaseVar g T w) (hb:Below w.heap.size w w'):CaseVar g T w':=by
 obtain⟨R,oR,c,h1,h2⟩:=h;exact⟨R,oR,c,cell_below hb h1,fun i hi=>⟨cell_below hb (h2 i hi).1,cell_below hb (h2 i hi).2.1,cell_below hb (h2 i hi).2.2.1,cell_below hb (h2 i hi).2.2.2.1,cell_below hb (h2 i hi).2.2.2.2⟩⟩
theorem utf8Tabs_below {g h:Nat} {w w':World} (H:Lib.Utf8Tabs g h w) (hb:Below w.heap.size w w'):Lib.Utf8Tabs g h w':=
 ⟨fun c hc=>cell_below hb (H.1 c hc),fun i hi=>⟨cell_below hb (H.2 i hi).1,cell_below hb (H.2 i hi).2⟩⟩
theorem Tabs.below {w w':World} (h:Tabs w) (hb:Below w.heap.size w w'):Tabs w':=
 ⟨TabIs_below (g:=0) (by kernel_rfl) h.props hb,RVar_below h.letter hb,RVar_below h.digit hb,caseVar_below h.case hb,utf8Tabs_below h.utf8 hb⟩
end

section
set_option linter.unusedVariables false
set_option linter.unusedSimpArgs false
open Go.RowKit Go.Lib
def brokenAt (s:ByteArray) (pos:Nat):Bool:=(Utf8.decode s pos).1==65533&&(Utf8.decode s pos).2==1
def y4 (s:ByteArray):Nat→Nat→List Nat
 | 0,_=>[]
 | f+1,pos=>if pos < s.size then pos::y4 s f (pos+(Utf8.decode s pos).2) else []
def runesOf (s:ByteArray):List Nat:=y4 s s.size 0
def foldPiece (s:ByteArray) (pos:Nat):List UInt8:=if brokenAt s pos then [s.get! pos] else Lib.encodeRune (toLowerU ((Utf8.decode s pos).1:Int))
def j7 (s:ByteArray):List UInt8:=(runesOf s).flatMap (foldPiece s)
def zbh (c:Int) (first:Bool):Bool:=isLetterU c||(!first&&(isDigitU c||c==45||c==95||c==46))
def uz (s:ByteArray) (pos:Nat) (first:Bool):Bool:=!brokenAt s pos&&zbh ((Utf8.decode s pos).1:Int) first
def allOk (s:ByteArray):List Nat→Nat→Bool
 | [],_=>true
 | pos::l,i=>uz s pos (i==0)&&allOk s l (i+1)
def k7 (s:ByteArray):Bool:=decide (1≤(runesOf s).length)&&decide ((runesOf s).length≤24)&&allOk s (runesOf s) 0
theorem width_le (s:ByteArray) (pos:Nat) (h:pos < s.size):pos+(Utf8.decode s pos).2≤s.size:=by
 rw[decode_at];unfold decodeN
 repeat' split
 all_goals simp only[]
 all_goals omega
theorem ju (s:ByteArray) (f pos:Nat) (h:¬pos < s.size):y4 s f pos=[]:=by
 cases f with
 | zero=>rfl
 | succ f=>simp[y4,h]
theorem jd (s:ByteArray) (f pos:Nat) (h:pos < s.size):y4 s (f+1) pos=pos::y4 s f (pos+(Utf8.decode s pos).2):=by simp[y4,h]
theorem runesFrom_len (s:ByteArray):∀(f pos:Nat),(y4 s f pos).length≤s.size-pos
 | 0,pos=>by simp[y4]
 | f+1,pos=>by
  by_cases h:pos < s.size
  ·rw[jd s f pos h]
   have:=runesFrom_len s f (pos+(Utf8.decode s pos).2);have:=width_pos s pos
   simp
   omega
  ·rw[ju s _ _ h];simp
theorem qq (s:ByteArray):(runesOf s).length≤s.size:=by unfold runesOf;have:=runesFrom_len s s.size 0;simpa using this
theorem runesFrom_lt (s:ByteArray):∀(f pos:Nat),∀p∈y4 s f pos,p < s.size
 | 0,pos,p,h=>by simp[y4]at h
 | f+1,pos,p,h=>by
  by_cases hp:pos < s.size
  ·rw[jd s f pos hp]at h
   rcases List.mem_cons.1 h with rfl|h
   ·exact hp
   ·exact runesFrom_lt s f _ p h
  ·rw[ju s _ _ hp]at h;simp at h
theorem runesOf_lt (s:ByteArray):∀p∈runesOf s,p < s.size:=runesFrom_lt s s.size 0
theorem j8 (s:ByteArray):∀(l m:List Nat) (i:Nat),allOk s (l++m) i=(allOk s l i&&allOk s m (i+l.length))
 | [],m,i=>by simp[allOk]
 | p::l,m,i=>by
  simp only[List.cons_append,allOk,List.length_cons];rw[j8 s l m (i+1),Bool.and_assoc,show i+1+l.length=i+(l.length+1) by omega]
theorem foldPiece_len (s:ByteArray) (pos:Nat):(foldPiece s pos).length≤4:=by
 unfold foldPiece
 split
 ·simp
 ·have:=Lib.encodeRuneZ_length (toLowerU ((Utf8.decode s pos).1:Int))
  simp[Lib.encodeRune]
  omega
theorem uc (s:ByteArray) (l:List Nat):(l.flatMap (foldPiece s)).length≤4*l.length:=by
 induction l with
 | nil=>simp
 | cons p l ih=>
  have:=foldPiece_len s p;simp only[List.flatMap_cons,List.length_append,List.length_cons]
  omega
theorem foldOf_len (s:ByteArray):(j7 s).length≤4*s.size:=by
 have:=uc s (runesOf s);have:=qq s;unfold j7
 omega
def k9 (s:ByteArray) (pos:Nat):ByteArray:=s.extract pos s.size
theorem jz (s:ByteArray) (pos:Nat):(k9 s pos).size=s.size-pos:=by simp[k9]
theorem ug (s:ByteArray) (k:Nat) (h:k < s.size):s.get! k=s[k]'h:=by have:=get_at s k h;simpa using this
theorem tailOf_get (s:ByteArray) (pos k:Nat) (h:pos+k < s.size):(k9 s pos).get! k=s.get! (pos+k):=by
 have h1:k < (k9 s pos).size:=by rw[jz];omega
 rw[ug _ _ h1,ug _ _ h]
 simp[k9,ByteArray.getElem_extract]
theorem u7 (s:ByteArray) (pos:Nat) (h:pos < s.size):Utf8.decode (k9 s pos) 0=Utf8.decode s pos:=by
 rw[decode_at,decode_at,jz]
 have hb:∀k,pos+k < s.size→((k9 s pos).get! (0+k)).toNat=(s.get! (pos+k)).toNat:=fun k hk=>by rw[Nat.zero_add,tailOf_get s pos k hk]
 have e0:=hb 0 (by omega);simp only[Nat.add_zero,Nat.sub_zero]at e0 ⊢;rw[e0];unfold decodeN
 by_cases n1:1 < s.size-pos
 ·rw[hb 1 (by omega)]
  by_cases n2:2 < s.size-pos
  ·rw[hb 2 (by omega)]
   by_cases n3:3 < s.size-pos
   ·rw[hb 3 (by omega)]
   ·simp only[n3,false_and,and_false,if_false]
  ·have n3:¬3 < s.size-pos:=by omega
   simp only[n2,n3,false_and,and_false,if_false]
 ·have n2:¬2 < s.size-pos:=by omega
  have n3:¬3 < s.size-pos:=by omega
  simp only[n1,n2,n3,false_and,and_false,if_false]
theorem broken_tail (s:ByteArray) (pos:Nat) (h:pos < s.size):brokenAt (k9 s pos) 0=brokenAt s pos:=by unfold brokenAt;rw[u7 s pos h]
theorem tail_tail (s:ByteArray) (pos k:Nat) (h:pos+k≤s.size):k9 (k9 s pos) k=k9 s (pos+k):=by
 apply ByteArray.ext;simp only[k9,ByteArray.size_extract,ByteArray.data_extract,Array.extract_extract]
 congr 1
 omega
def refNumber (s:ByteArray) (pos:Nat):Nat:=if brokenAt s pos then (s.get! pos).toNat else (Utf8.decode s pos).1
def refBytes (s:ByteArray) (pos:Nat):ByteArray:=s.extract pos (pos+(Utf8.decode s pos).2)
def ROk (r:Int):Prop:=(0≤r∧r < 55296)∨(57344≤r∧r≤1114111)
theorem ROk.range {r:Int} (h:ROk r):-2147483648≤r∧r≤2147483647:=by unfold ROk at h;omega
theorem rune_ok (s:ByteArray) (pos:Nat):ROk ((Utf8.decode s pos).1:Int):=by
 rw[decode_at];have h0:=(s.get! pos).toNat_lt;unfold decodeN ROk
 repeat' split
 all_goals simp only[]
 all_goals omega
def rowLow (x:CaseRow):Bool:=
 if x.delta 1 > 1114111 then (decide (x.2.1+1 < 55296)||(decide (57344≤x.1)&&decide (x.2.1+1≤1114111)))
 else (decide (0≤(x.1:Int)+x.delta 1)&&decide ((x.2.1:Int)+x.delta 1 < 55296))||(decide (57344≤(x.1:Int)+x.delta 1)&&decide ((x.2.1:Int)+x.delta 1≤1114111))
set_option maxRecDepth 1000000 in
theorem rowsLow:caseT.all rowLow=true:=by decide
theorem caseA_low (i:Nat) (hi:i < caseA.size):rowLow (caseA.getD i (0,0,0,0,0))=true:=by
 have hm:caseA.getD i (0,0,0,0,0)∈caseT:=by
  unfold caseA at hi ⊢;simp only[List.size_toArray]at hi
  simp[Array.getD,hi]
 exact List.all_eq_true.1 rowsLow _ hm
theorem toLowerU_ok (r:Int) (h:ROk r):ROk (toLowerU r):=by
 unfold toLowerU
 split
 ·split
  ·unfold ROk at *;omega
  ·exact h
 ·unfold toR lookupGo
  cases hi:lookupIdx caseA r (caseA.size+1) 0 caseA.size with
  | none=>exact h
  | some i=>
   obtain⟨hil,hlo,hhi⟩:=lookupIdx_some caseA r _ _ _ i hi;have hx:=caseA_low i hil;simp only[Option.map_some];generalize caseA.getD i (0,0,0,0,0)=x at *;unfold rowLow at hx;unfold convertR
   split at hx
   ·rename_i h1
    rw[if_pos h1];simp only[Bool.or_eq_true,Bool.and_eq_true,decide_eq_true_eq]at hx;unfold ROk at *
    omega
   ·rename_i h1
    rw[if_neg h1];simp only[Bool.or_eq_true,Bool.and_eq_true,decide_eq_true_eq]at hx;unfold ROk at *
    omega
end

section
set_option linter.unusedVariables false
set_option linter.unusedSimpArgs false
open Go.RowKit Go.Lib
section
variable {W w w':World} {I:Nat→Option Obj} {L:List (Nat × Obj)}
theorem St.belowTo (h:St W w I L) (hb:Below w.heap.size w w'):St W w' I L:=
 ⟨hb.os.trans h.os,hb.tape.trans h.tape,hb.output.trans h.output,fun p hp=>(hb.block p.1 (h.lt hp)).trans (h.own p hp),h.nodup,
  fun b o hb'=>(hb.block b (Array.getElem?_eq_some_iff.1 (h.imm b o hb')).1).trans (h.imm b o hb'),h.apart⟩
structure TB (W:World) (I:Nat→Option Obj):Prop where
 tabs:Tabs W
 le:Le (fun b=>W.heap[b]?) I
theorem TB.start (h:Tabs W):TB W (fun b=>W.heap[b]?):=⟨h,Le.refl _⟩
theorem TB.more {J:Nat→Option Obj} (h:TB W I) (k:Le I J):TB W J:=⟨h.tabs,h.le.trans k⟩
theorem TB.on (t:TB W I) (h:St W w I L):Tabs w:=t.tabs.below (h.below t.le)
theorem St.iter {b:Nat} {s:ByteArray} {pos:Nat} (pos':Nat) (h:St W w I ((b,.stringIter s pos)::L)):St W (w.iterAt b s pos') I ((b,.stringIter s pos')::L):=by
 have hb:=h.own (b,.stringIter s pos) (by simp);have hn:=h.nodup;simp only[List.map_cons,List.nodup_cons]at hn;refine⟨h.os,h.tape,h.output,fun p hp=>?_,h.nodup,fun c o hc=>?_,fun p hp=>?_⟩
 ·rcases List.mem_cons.1 hp with rfl|hp
  ·exact Lib.iterAt_heap w b s pos pos' hb
  ·rw[Lib.iterAt_other _ _ _ _ _ (fun e=>hn.1 (by rw[←e];exact List.mem_map_of_mem (f:=(·.1)) hp))]
   exact h.own p (by simp[hp])
 ·rw[Lib.iterAt_other _ _ _ _ _ (fun e=>?_)]
  ·exact h.imm c o hc
  ·have:=h.apart (b,_) (List.mem_cons_self ..)
   simp only at this;rw[e,this]at hc
   cases hc
 ·rcases List.mem_cons.1 hp with rfl|hp
  ·exact h.apart (b,.stringIter s pos) (by simp)
  ·exact h.apart p (by simp[hp])
end
theorem broken_any {W w:World} {I:Nat→Option Obj} {L:List (Nat × Obj)} (t:TB W I) (s:ByteArray) (pos:Nat) (hp:pos < s.size) (h:St W w I L) :
  Calls Tryz.prog 57 #[.string s,.int .i64 pos,.int .i32 (Utf8.decode s pos).1] w fun e w'=>e=.returned (.bool (brokenAt s pos))∧St W w' I L:=by
 have hT:=(t.on h).utf8;have hd:=u7 s pos hp
 have hz:(k9 s pos).size≠0:=by rw[jz];omega
 obtain⟨c,hc⟩:∃c,(Utf8.decode s pos).1=c:=⟨_,rfl⟩;obtain⟨k,hk⟩:∃k,(Utf8.decode s pos).2=k:=⟨_,rfl⟩
 have hbr:brokenAt s pos=(c==65533&&k==1):=by unfold brokenAt;rw[hc,hk]
 have cD:=Tryz.utf8_DecodeRuneInString (k9 s pos) w hT;simp only[Lib.decodeGo,hz,if_false,hd,hc,hk]at cD;rw[hbr,hc];have hlo:(0:Int)≤(pos:Int)∧(pos:Int)≤(s.size:Int):=⟨by omega,by omega⟩;have CD:=za cD;clear cD hT hd hz hbr hc hk t
 by_cases h1:(c:Int)=65533
 ·obtain rfl:c=65533:=by omega
  go_enter Tryz.func57,Tryz.ntmps57
  go_wp2_with fail;refine CD.out.mono ?_;rintro e w1 ⟨rfl,hb⟩;have h2:=h.belowTo hb;have H2:=za h2;clear h2 hb h CD
  by_cases hk:k=1
  ·subst hk
   go_wp2_with fail;go_ret;exact⟨rfl,H2.out⟩
  ·have hk':¬(k:Int)=1:=by omega
   have hkb:(k==1)=false:=by simpa using hk
   go_wp2_with fail;go_ret;exact⟨by simp[hkb];omega,H2.out⟩
 ·have hcb : (c == 65533) = false := by
   have:¬c=65533:=by omega
   simpa using this
  have H:=za h;clear h
  go_enter Tryz.func57,Tryz.ntmps57
  go_wp2_with fail;go_ret;exact⟨by simp[hcb],H.out⟩
theorem part_any {W w:World} {I:Nat→Option Obj} {L:List (Nat × Obj)} (t:TB W I) (r:Int) (first:Bool) (hlo:-2147483648≤r) (hhi:r≤2147483647) (h:St W w I L) :
  Calls Tryz.prog 58 #[.int .i32 r,.bool first] w fun e w'=>e=.returned (.bool (zbh r first))∧St W w' I L:=by
 have cL:=fun(v:World) (hv:St W v I L)=>Tryz.unicode_IsLetter_all r v hlo hhi (t.on hv).props (t.on hv).letter
 have cD:=fun(v:World) (hv:St W v I L)=>Tryz.unicode_IsDigit_all r v hlo hhi (t.on hv).digit
 have CL:=za cL;have CD:=za cD;have H:=za h;clear cL cD h t;unfold zbh;generalize isLetterU r=bl at *;generalize isDigitU r=bd at *
 go_enter Tryz.func58,Tryz.ntmps58
 go_wp2_with fail;refine(CL.out _ H.out).mono ?_;rintro e w1 ⟨rfl,hb⟩;have H1:=za (H.out.belowTo hb);clear hb H CL
 cases bl with
 | true=>
  go_wp2_with fail;go_ret;exact⟨rfl,H1.out⟩
 | false=>
  cases first with
  | true=>
   go_wp2_with fail;go_ret;exact⟨rfl,H1.out⟩
  | false=>
   go_wp2_with fail;refine(CD.out _ H1.out).mono ?_;rintro e w2 ⟨rfl,hb⟩;have H2:=za (H1.out.belowTo hb);clear hb H1 CD
   cases bd with
   | true=>
    go_wp2_with fail;go_ret;exact⟨rfl,H2.out⟩
   | false=>
    go_wp2_with fail
    all_goals
     go_ret;exact⟨by simp_all,H2.out⟩
theorem name_any {W w:World} {I:Nat→Option Obj} {L:List (Nat × Obj)} (t:TB W I) (s:ByteArray) (hs:s.size≤140737488355328) (h:St W w I L) :
  Calls Tryz.prog 33 #[.string s] w fun e w'=>e=.returned (.int .i64 (if k7 s then 0 else 41))∧St W w' I L:=by
 obtain⟨it,hit⟩:∃it,it=w.heap.size:=⟨_,rfl⟩;have h1:=h.alloc (.stringIter s 0);rw[←hit]at h1;have H1:=za h1;clear h1 h;obtain⟨R,hR⟩:∃R:Int,R=(if k7 s then 0 else 41):=⟨_,rfl⟩;rw[←hR];have HR:=za hR;clear hR
 go_enter Tryz.func33,Tryz.ntmps33
 go_wp2_with fail;rw[←hit];have HIT:=za hit;clear hit
 go_loopw [3] (fun n wr=>∃(fuel pos:Nat) (don:List Nat),n=.int .i64 don.length∧runesOf s=don++y4 s fuel pos∧s.size≤pos+fuel∧allOk s don 0=true∧St W wr I ((it,.stringIter s pos)::L)) (fun _ wr=>s.size-wr.iterPos it)
 case atStart=>exact⟨s.size,0,[],rfl,rfl,by omega,rfl,H1.out⟩
 case round=>
  obtain⟨fuel,pos,don,rfl,hro,hfu,hall,hst⟩:=hrel;clear H1;have hiter:wr.heap[it]?=some (.stringIter s pos):=hst.own (it,_) (by simp)
  have hdl:don.length≤s.size:=by have:=qq s;rw[hro,List.length_append]at this;omega
  by_cases hp:pos < s.size
  ·have hnx:∀ty,(Instr.next (.pointer (some ⟨it,0,none⟩)) true ty).run Tryz.prog wr=_:=fun ty=>Lib.run_next_any_at wr it s pos ty hiter hp
   have hwd:=Lib.width_pos s pos;have hrl:=Lib.rune_le s pos;have h2:=hst.iter (pos+(Utf8.decode s pos).2);obtain⟨f,rfl⟩:∃f,fuel=f+1:=⟨fuel-1,by omega⟩;rw[jd s f pos hp]at hro
   have hro2:runesOf s=(don++[pos])++y4 s f (pos+(Utf8.decode s pos).2):=by rw[hro];simp
   have hok:k7 s=true→uz s pos (don.length==0)=true:=fun hn=>by
    simp only[k7,Bool.and_eq_true]at hn;have h3:=hn.2;rw[hro,j8,allOk]at h3;simp only[Bool.and_eq_true,Nat.zero_add]at h3;exact h3.2.1
   have HOK:=za hok;have HRO:=za hro2;have H2:=za h2;have HALL:=za hall;have HI:=za hiter;clear hok hro hro2 h2 hall hst;go_wp2_with fail;refine(broken_any t s pos hp H2.out).mono ?_;rintro e w1 ⟨rfl,h3⟩;have H3:=za h3;clear h3 H2 hiter
   cases hbr:brokenAt s pos with
   | true=>
    have hno:k7 s=false:=by
     cases hn:k7 s with
     | false=>rfl
     | true=>have:=HOK.out hn;rw[uz,hbr]at this;simp at this
    go_wp2_with fail;go_ret;exact⟨by rw[HR.out,hno];rfl,St.weaken (A:=[_]) H3.out⟩
   | false=>
    go_wp2_with fail;refine(part_any t _ _ (by omega) (by omega) H3.out).mono ?_;rintro e w2 ⟨rfl,h4⟩;have H4:=za h4;clear h4 H3
    have hfe:((don.length:Int)==0)=(don.length==0):=by
     by_cases hd:don.length=0
     ·rw[hd];rfl
     ·have h1:¬(don.length:Int)=0:=by omega
      rw[beq_eq_false_iff_ne.2 h1,beq_eq_false_iff_ne.2 hd]
    rw[hfe]
    cases hq:zbh ((Utf8.decode s pos).1:Int) (don.length==0) with
    | true=>
     have hal2:allOk s (don++[pos]) 0=true:=by
      rw[j8,HALL.out,allOk,allOk,uz,hbr,Nat.zero_add,hq];rfl
     have HAL2:=za hal2;clear hal2 hfe hq;go_wp2_with fail
     go_roundw
     case rel=>
      exact⟨f,_,don++[pos],by simp,HRO.out,by omega,HAL2.out,H4.out⟩
     case measure=>
      have h5:w2.heap[it]?=some (.stringIter s (pos+(Utf8.decode s pos).2)):=H4.out.own (it,_) (by simp);simp only[World.iterPos,h5,HI.out]
      omega
    | false=>
     have hno:k7 s=false:=by
      cases hn:k7 s with
      | false=>rfl
      | true=>have:=HOK.out hn;rw[uz,hbr,hq]at this;simp at this
     have HNO:=za hno;clear hno hfe hq;go_wp2_with fail;go_ret;exact⟨by rw[HR.out,HNO.out];rfl,St.weaken (A:=[_]) H4.out⟩
  ·have hend:runesOf s=don:=by rw[hro,ju s _ _ hp,List.append_nil]
   have hnx:∀ty,(Instr.next (.pointer (some ⟨it,0,none⟩)) true ty).run Tryz.prog wr=_:=fun ty=>Lib.run_next_end_at wr it s pos ty hiter hp
   have hnm:k7 s=(decide (1≤don.length)&&decide (don.length≤24)):=by rw[k7,hend,hall,Bool.and_true]
   have HNM:=za hnm;have H2:=za hst;clear hst hiter hro hall hnm hend
   by_cases h1:don.length < 1
   ·have h1':(don.length:Int) < 1:=by omega
    go_wp2_with fail;go_ret;exact⟨by rw[HR.out,HNM.out];simp[show ¬1≤don.length by omega],St.weaken (A:=[_]) H2.out⟩
   ·by_cases h24:24 < don.length
    ·have h1':(24:Int) < don.length:=by omega
     go_wp2_with fail;go_ret;exact⟨by rw[HR.out,HNM.out];simp[show ¬don.length≤24 by omega],St.weaken (A:=[_]) H2.out⟩
    ·have h1':¬(24:Int) < don.length:=by omega
     go_wp2_with fail;go_ret;exact⟨by rw[HR.out,HNM.out];simp[show don.length≤24 by omega,show 1≤don.length by omega],St.weaken (A:=[_]) H2.out⟩
end

section
set_option linter.unusedVariables false
set_option linter.unusedSimpArgs false
open Go.RowKit Go.Lib
section
variable {W w:World} {I:Nat→Option Obj} {F:List (Nat × Obj)}
theorem St.slt {b:Nat} {s:Slt} (h:St W w I ((b,.cells s.cells 26 (0,0))::F)) :
  w.cell? ⟨b,0,none⟩=some (.int .i64 s.st)∧w.cell? ⟨b,1,none⟩=some (.int .i64 s.tr)∧w.cell? ⟨b,2,none⟩=some (.int .u64 s.ver)∧w.cell? ⟨b,3,none⟩=some (.int .i64 s.sz):=by
 have h1:=h.cell (g:=b) (cs:=s.cells) (t:=26) (fr:=(0,0)) (by simp);exact⟨(h1 0).trans s.at0,(h1 1).trans s.at1,(h1 2).trans s.at2,(h1 3).trans s.at3⟩
theorem zl {s:Slt} (h:s.dig.length=32):(Tryz.prog.info? 26).map (·.size)=some s.cells.size:=by rw[Slt.size h];kernel_rfl
theorem yh (n:Int):#[Value.int .i64 n,.int .i64 0,.int .u64 0,.int .i64 0,.int .u8 0,.int .u8 0,.int .u8 0,.int .u8 0,.int .u8 0,.int .u8 0,.int .u8 0,.int .u8 0,.int .u8 0,.int .u8 0,.int .u8 0,.int .u8 0,.int .u8 0,.int .u8 0,.int .u8 0,.int .u8 0,.int .u8 0,.int .u8 0,.int .u8 0,.int .u8 0,.int .u8 0,.int .u8 0,.int .u8 0,.int .u8 0,.int .u8 0,.int .u8 0,.int .u8 0,.int .u8 0,.int .u8 0,.int .u8 0,.int .u8 0,.int .u8 0]=(bareS n).cells:=by
 unfold bareS Slt.cells zeros32
 rfl
theorem jq (s:Slt) (ok:s.Ok) (h:St W w I F) :
  Calls Tryz.prog 116 #[s.val] w fun e w'=>e=.returned (.bool (rightS s))∧St W w' I F:=by
 have h0:=h.alloc (.cells s.cells 26);obtain⟨b,hb⟩:∃b,w.heap.size=b:=⟨_,rfl⟩;rw[hb]at h0;obtain⟨c0,c1,c2,c3⟩:=h0.slt;have hq:=eq_slot s (bareS s.st) ok.dig zn;rw[same_bare,←yh]at hq;have HMI:=za (zl ok.dig);obtain⟨q1,q2,q3,q4,q5,q6,q7,q8,q9⟩:=ok;have hr:=rightS.eq_1 s;have hi:=imgS.eq_1 s;unfold Slt.val;generalize noneS s=N at *;generalize imgS s=M at *;generalize rightS s=R at *;generalize s.cells=C at *;generalize s.st=st at *;generalize s.tr=tr at *;generalize s.ver=ver at *;generalize s.sz=sz at *;have H0:=za h0;have HR:=za hr;have HI:=za hi;clear h0 h hr hi
 by_cases k0:st=0
 ·subst k0
  have hR:R=N:=by rw[HR.out];simp
  subst hR;clear HR HI
  go_enter Tryz.func116,Tryz.ntmps116
  go_wp2_with (with_reducible refine zo rfl 26 (.tmp 1) rfl (g:=b) (off:=0) rfl H0.out (cs:=C) (t:=26) (fr:=(0,0)) (by simp) C (fun j hj=>by rw[Nat.zero_add]) _ Tryz.underlying26 rfl HMI.out ?_)
  go_ret;exact⟨rfl,St.weaken (A:=[_]) H0.out⟩
 by_cases k1:st=1
 ·subst k1
  have hR:R=N:=by rw[HR.out];simp
  subst hR;clear HR HI
  go_enter Tryz.func116,Tryz.ntmps116
  go_wp2_with (with_reducible refine zo rfl 26 (.tmp 1) rfl (g:=b) (off:=0) rfl H0.out (cs:=C) (t:=26) (fr:=(0,0)) (by simp) C (fun j hj=>by rw[Nat.zero_add]) _ Tryz.underlying26 rfl HMI.out ?_)
  go_ret;exact⟨rfl,St.weaken (A:=[_]) H0.out⟩
 by_cases k4:st=4
 ·subst k4
  have hR:R=N:=by rw[HR.out];simp
  subst hR;clear HR HI
  go_enter Tryz.func116,Tryz.ntmps116
  go_wp2_with (with_reducible refine zo rfl 26 (.tmp 1) rfl (g:=b) (off:=0) rfl H0.out (cs:=C) (t:=26) (fr:=(0,0)) (by simp) C (fun j hj=>by rw[Nat.zero_add]) _ Tryz.underlying26 rfl HMI.out ?_)
  go_ret;exact⟨rfl,St.weaken (A:=[_]) H0.out⟩
 clear hq
 by_cases k2:st=2
 ·subst k2
  by_cases t0:0≤tr
  ·by_cases t7:tr≤7
   ·by_cases i1:1≤ver
    ·by_cases i2:ver≤281474976710656
     ·by_cases i3:1≤sz
      ·by_cases i4:sz≤65536
       ·have hR:R=true:=by rw[HR.out,HI.out];simp;omega
        subst hR;clear HR HI
        go_enter Tryz.func116,Tryz.ntmps116
        go_wp2_with fail;go_ret;exact⟨rfl,St.weaken (A:=[_]) H0.out⟩
       ·have hR:R=false:=by rw[HR.out,HI.out];simp;omega
        subst hR;clear HR HI
        go_enter Tryz.func116,Tryz.ntmps116
        go_wp2_with fail;go_ret;exact⟨rfl,St.weaken (A:=[_]) H0.out⟩
      ·have hR:R=false:=by rw[HR.out,HI.out];simp;omega
       subst hR;clear HR HI
       go_enter Tryz.func116,Tryz.ntmps116
       go_wp2_with fail;go_ret;exact⟨rfl,St.weaken (A:=[_]) H0.out⟩
     ·have hR:R=false:=by rw[HR.out,HI.out];simp;omega
      subst hR;clear HR HI
      go_enter Tryz.func116,Tryz.ntmps116
      go_wp2_with fail;go_ret;exact⟨rfl,St.weaken (A:=[_]) H0.out⟩
    ·have hR:R=false:=by rw[HR.out,HI.out];simp;omega
     subst hR;clear HR HI
     go_enter Tryz.func116,Tryz.ntmps116
     go_wp2_with fail;go_ret;exact⟨rfl,St.weaken (A:=[_]) H0.out⟩
   ·have hR:R=false:=by rw[HR.out,HI.out];simp;omega
    subst hR;clear HR HI
    go_enter Tryz.func116,Tryz.ntmps116
    go_wp2_with fail;go_ret;exact⟨rfl,St.weaken (A:=[_]) H0.out⟩
  ·have hR:R=false:=by rw[HR.out,HI.out];simp;omega
   subst hR;clear HR HI
   go_enter Tryz.func116,Tryz.ntmps116
   go_wp2_with fail;go_ret;exact⟨rfl,St.weaken (A:=[_]) H0.out⟩
 by_cases k3:st=3
 ·subst k3
  by_cases t0:tr=0
  ·subst t0
   by_cases i1:1≤ver
   ·by_cases i2:ver≤281474976710656
    ·by_cases i3:1≤sz
     ·by_cases i4:sz≤65536
      ·have hR:R=true:=by rw[HR.out,HI.out];simp;omega
       subst hR;clear HR HI
       go_enter Tryz.func116,Tryz.ntmps116
       go_wp2_with fail;go_ret;exact⟨rfl,St.weaken (A:=[_]) H0.out⟩
      ·have hR:R=false:=by rw[HR.out,HI.out];simp;omega
       subst hR;clear HR HI
       go_enter Tryz.func116,Tryz.ntmps116
       go_wp2_with fail;go_ret;exact⟨rfl,St.weaken (A:=[_]) H0.out⟩
     ·have hR:R=false:=by rw[HR.out,HI.out];simp;omega
      subst hR;clear HR HI
      go_enter Tryz.func116,Tryz.ntmps116
      go_wp2_with fail;go_ret;exact⟨rfl,St.weaken (A:=[_]) H0.out⟩
    ·have hR:R=false:=by rw[HR.out,HI.out];simp;omega
     subst hR;clear HR HI
     go_enter Tryz.func116,Tryz.ntmps116
     go_wp2_with fail;go_ret;exact⟨rfl,St.weaken (A:=[_]) H0.out⟩
   ·have hR:R=false:=by rw[HR.out,HI.out];simp;omega
    subst hR;clear HR HI
    go_enter Tryz.func116,Tryz.ntmps116
    go_wp2_with fail;go_ret;exact⟨rfl,St.weaken (A:=[_]) H0.out⟩
  ·have t1:(tr != 0)=true:=by simpa using t0
   have hR:R=false:=by rw[HR.out,HI.out];simp;omega
   subst hR;clear HR HI
   go_enter Tryz.func116,Tryz.ntmps116
   go_wp2_with fail;go_ret;exact⟨rfl,St.weaken (A:=[_]) H0.out⟩
 have d0:(st==0)=false:=beq_eq_false_iff_ne.2 k0;have d1:(st==1)=false:=beq_eq_false_iff_ne.2 k1;have d4:(st==4)=false:=beq_eq_false_iff_ne.2 k4;have d2:(st==2)=false:=beq_eq_false_iff_ne.2 k2;have d3:(st==3)=false:=beq_eq_false_iff_ne.2 k3
 have hR:R=false:=by rw[HR.out];simp[k0,k1,k2,k3,k4]
 subst hR;clear HR HI k0 k1 k2 k3 k4
 go_enter Tryz.func116,Tryz.ntmps116
 go_wp2_with fail;go_ret;exact⟨rfl,St.weaken (A:=[_]) H0.out⟩
end
end
end Go.Proofs.YtnjnooeldkideaaGreatDoor
