/- The document's Name: walk. The document's Put: a rune's bytes. The document's Fold: walk. order: the document's has. -/
import Derived.Test.YtnjnooeldkideaaGreatDoorMGlyphO
import Derived.Test.YtnjnooeldkideaaGreatDoorMRfT
namespace Go.Proofs.YtnjnooeldkideaaGreatDoor
set_option maxRecDepth 100000
set_option maxHeartbeats 8000000
section
set_option linter.unusedVariables false
set_option linter.unusedSimpArgs false
open Go.RowKit Go.Lib
theorem rall_get (s:ByteArray):∀(l:List Nat) (k p j:Nat),l[k]?=some p→j < 3→(rall s l)[k*3+j]?=(rcell s p)[j]?
 | [],k,p,j,h,_=>by simp at h
 | q::l,0,p,j,h,hj=>by
  simp at h
  subst h;simp only[rall,List.flatMap_cons,Nat.zero_mul,Nat.zero_add];rw[List.getElem?_append_left (by simp[rcell];omega)]
 | q::l,k+1,p,j,h,hj=>by
  simp only[rall,List.flatMap_cons];rw[List.getElem?_append_right (by simp[rcell];omega),show(k+1)*3+j-(rcell s q).length=k*3+j by simp[rcell];omega];exact rall_get s l k p j (by simpa using h) hj
def RunesIn (A:Option Addr) (s:ByteArray) (l:List Nat) (J:Nat→Option Obj):Prop:=∀k p,l[k]?=some p→∃b off,A=some (⟨b,off,none⟩:Addr)∧ur J ⟨b,off+k*3,none⟩=some (.int .i64 (refNumber s p:Nat))∧ur J ⟨b,off+k*3+1,none⟩=some (.string (refBytes s p))∧ur J ⟨b,off+k*3+2,none⟩=some (.bool (brokenAt s p))
theorem runes_freeze {W w:World} {I:Nat→Option Obj} {F Lr:List (Nat × Obj)} {A:Option Addr} {c:Nat} {s:ByteArray} {l:List Nat} (hr:Row 172 3 (.slice A l.length c) l.length (rall s l) Lr) (h:St W w I (Lr++F)):∃J,Le I J∧St W w J F∧RunesIn A s l J:=by
 obtain⟨_,⟨hv,h0,hL⟩|⟨gb,off,cap,cur,hv,rfl,hnc,hcm,hsz,hxs⟩⟩:=hr
 ·subst hL
  have hb:=List.eq_nil_of_length_eq_zero h0;subst hb;exact⟨I,Le.refl _,h,fun k p hk=>by simp at hk⟩
 ·injection hv with h1 _ h2
  subst h1;subst h2;obtain⟨J,hle,hg,h'⟩:=St.freeze h;refine⟨J,hle,h',fun k p hk=>⟨gb,off,rfl,?_⟩⟩;have hkl:=(List.getElem?_eq_some_iff.1 hk).1
  have key:∀j,j < 3→ur J ⟨gb,off+(k*3+j),none⟩=(rcell s p)[j]?:=fun j hj=>by
   have h1:=rall_get s l k p j hk hj;rw[←hxs,List.getElem?_take_of_lt (by omega),List.getElem?_drop]at h1;unfold ur;simp only[hg]
   simpa using h1
  exact⟨key 0 (by omega),key 1 (by omega),key 2 (by omega)⟩
theorem dec_ascii (n a b c d:Nat) (h:a < 128):decodeN n a b c d=(a,1):=by unfold decodeN;rw[if_pos h]
theorem dec_big (n a b c d:Nat) (h:¬a < 128):128≤(decodeN n a b c d).1:=by
 unfold decodeN
 repeat' split
 all_goals simp only[]
 all_goals omega
theorem byte_text (s:ByteArray) (p:Nat) (hp:p < s.size) (hb:brokenAt s p=false) (x:UInt8) (hx:x.toNat < 128):(refBytes s p).toList=[x]↔(Utf8.decode s p).1=x.toNat:=by
 rw[ByteArray.toList_eq,refBytes,ByteArray.data_extract,Array.toList_extract];have hd:=decode_at s p;have h0:=ug s p hp;have hl:s.data.toList.length=s.size:=rfl
 have hg:s.data.toList[p]'(by rw[hl];exact hp)=s.get! p:=by rw[h0];rfl
 have hwd:=Lib.width_pos s p;have hwl:=width_le s p hp
 by_cases ha:(s.get! p).toNat < 128
 ·rw[hd,dec_ascii _ _ _ _ _ ha]
  simp only[List.extract,Nat.add_sub_cancel_left];rw[List.drop_eq_getElem_cons (by rw[hl];exact hp),hg,List.take_succ_cons,List.take_zero]
  constructor
  ·intro h;simp at h;rw[h]
  ·intro h;have:=UInt8.toNat_inj.1 h;rw[this]
 ·have h1:=dec_big (s.size-p) (s.get! p).toNat (s.get! (p+1)).toNat (s.get! (p+2)).toNat (s.get! (p+3)).toNat ha
  rw[←hd]at h1
  constructor
  ·intro h
   simp only[List.extract]at h;rw[List.drop_eq_getElem_cons (by rw[hl];exact hp),hg]at h;obtain⟨k,hk⟩:∃k,p+(Utf8.decode s p).2-p=k+1:=⟨(Utf8.decode s p).2-1,by omega⟩;rw[hk,List.take_succ_cons]at h
   injection h with h2 h3
   rw[h2]at ha
   omega
  ·intro h;omega
theorem rname_any {W w:World} {I:Nat→Option Obj} {L:List (Nat × Obj)} (t:TB W I) (s:ByteArray) (hm:s.size≤1000000000) (h:St W w I L) :
  Calls Tryz.prog 75 #[.string s] w fun e w'=>e=.returned (.int .i64 (if k7 s then 0 else 41))∧St W w' I L:=by
 have cR:=runes_any s hm h;have hzl:=runesOf_lt s;have hln:=qq s;obtain⟨R,hR⟩:∃R:Int,R=(if k7 s then 0 else 41):=⟨_,rfl⟩;rw[←hR];have hfd:k7 s=(decide (1≤(runesOf s).length)&&decide ((runesOf s).length≤24)&&allOk s (runesOf s) 0):=rfl;rw[hfd]at hR;generalize runesOf s=l at *;have HR:=za hR;have CR:=za cR;clear hR cR h hfd
 go_enter Tryz.func75,Tryz.ntmps75
 go_wp2_with fail;refine CR.out.mono ?_;rintro e w1 ⟨A,c,L',rfl,hrow,h1⟩;obtain⟨J,hle,h2,hrin⟩:=runes_freeze hrow h1;have H2:=za h2;have HRIN:=za hrin;have HLE:=za hle;have T:=za (t.more hle);clear hrow h1 h2 CR t hrin hle
 by_cases hl0:l.length=0
 ·have hl0':((l.length:Int)==0)=true:=by rw[hl0];rfl
  go_wp2_with fail;go_ret;exact⟨by rw[HR.out];simp[hl0],H2.out.less HLE.out⟩
 have hl0':((l.length:Int)==0)=false:=beq_eq_false_iff_ne.2 (by omega)
 by_cases hl24:24 < l.length
 ·have hl24':(24:Int) < l.length:=by omega
  go_wp2_with fail;go_ret;exact⟨by rw[HR.out];simp[show ¬l.length≤24 by omega],H2.out.less HLE.out⟩
 have hl24':¬(24:Int) < l.length:=by omega
 have hR2:R=if allOk s l 0 then 0 else 41:=by rw[HR.out];simp[show l.length≤24 by omega,show 1≤l.length by omega]
 have HR2:=za hR2;clear hR2 HR;go_wp2_with fail
 go_loopw [20] (fun i wr=>∃k:Nat,i=.int .i64 k∧allOk s (l.take k) 0=true∧k≤l.length∧St W wr J L) (fun i _=>l.length-(intOf i).toNat)
 case atStart=>exact⟨0,rfl,rfl,by omega,H2.out⟩
 case round=>
  obtain⟨k,rfl,hall,hk,hst⟩:=hrel;clear H2
  by_cases hkl:k < l.length
  ·obtain⟨p,hp⟩:∃p,l[k]?=some p:=⟨_,List.getElem?_eq_getElem hkl⟩
   obtain⟨b,off,rfl,r0,r1,r2⟩:=HRIN.out k p hp;have hps:=hzl p (List.mem_of_getElem? hp);have q0:=hst.ro r0;have q1:=hst.ro r1;have q2:=hst.ro r2
   have hnext:allOk s (l.take (k+1)) 0=uz s p (k==0):=by
    rw[List.take_add_one,hp,j8,hall]
    simp[allOk,Nat.min_eq_left (Nat.le_of_lt hkl)]
   have hbad:uz s p (k==0)=false→allOk s l 0=false:=fun h=>by
    have h1:allOk s (l.take (k+1)) 0=false:=by rw[hnext,h]
    rw[←List.take_append_drop (k+1) l,j8,h1,Bool.false_and]
   unfold uz at hnext hbad
   have hno:brokenAt s p=false→refNumber s p=(Utf8.decode s p).1:=fun h=>by unfold refNumber;rw[h];rfl
   have hrn:refNumber s p≤1114111:=by
    unfold refNumber;have:=(s.get! p).toNat_lt;have:=Lib.rune_le s p
    split<;>omega
   have hbt:=byte_text s p hps;generalize refBytes s p=rb at *;generalize refNumber s p=rn at *;generalize (Utf8.decode s p).1=dn at *;have HN:=za hnext;have HST:=za hst;have HBAD:=za hbad
   cases hbr:brokenAt s p with
   | true=>
    rw[hbr]at q2;have hX:=HBAD.out (by rw[hbr];rfl);have HX:=za hX;clear hno hst hnext r0 r1 r2 hp hbr hzl hbt hX hbad hall;go_wp2_with fail
    all_goals
     go_ret;exact⟨by rw[HR2.out,HX.out];rfl,St.less HLE.out (St.alloc_ HST.out _)⟩
   | false=>
    rw[hbr]at q2 HN HBAD;have he:=hno hbr;have h45:=hbt hbr 45 (by decide);have h95:=hbt hbr 95 (by decide);have h46:=hbt hbr 46 (by decide);subst he
    have hcL:=fun(v:World) (hv:St W v J L)=>Tryz.unicode_IsLetter_all (rn:Int) v (by omega) (by omega) (T.out.on hv).props (T.out.on hv).letter
    have hcD:=fun(v:World) (hv:St W v J L)=>Tryz.unicode_IsDigit_all (rn:Int) v (by omega) (by omega) (T.out.on hv).digit
    unfold zbh at HN HBAD;generalize isLetterU (rn:Int)=bl at *;generalize isDigitU (rn:Int)=bd at *;have CL:=za hcL;have CD:=za hcD;have H45:=za h45;have H95:=za h95;have H46:=za h46;clear hno hst hnext r0 r1 r2 hp hbr hzl hbt hbad hall hcL hcD h45 h95 h46;go_wp2_with fail;refine(CL.out _ (St.alloc_ HST.out _)).mono ?_;rintro e w2 ⟨rfl,hb⟩;have h3:=(HST.out.alloc (.cells #[.int .i64 rn,.string rb,.bool false] 172)).belowTo hb;have f0:=h3.cell (g:=wr.heap.size) (cs:=#[.int .i64 rn,.string rb,.bool false]) (t:=172) (fr:=(0,0)) (by simp) 1;have f1:=h3.cell (g:=wr.heap.size) (cs:=#[.int .i64 rn,.string rb,.bool false]) (t:=172) (fr:=(0,0)) (by simp) 2;have H3:=za h3;clear h3 hb CL
    by_cases hk0:k=0
    ·subst hk0
     cases bl with
     | true=>
      have hN:=HN.out;have HN2:=za hN;clear hN;go_wp2_with fail;refine⟨⟨1,rfl,HN2.out,by omega,St.weaken (A:=[_]) H3.out⟩,?_⟩
      simp[intOf];omega
     | false=>
      have hX:=HBAD.out rfl;have HX:=za hX;clear hX;go_wp2_with fail;go_ret;exact⟨by rw[HR2.out,HX.out];rfl,St.less HLE.out (St.weaken (A:=[_]) H3.out)⟩
    ·have hk0':¬(k:Int)=0:=by omega
     have hk0'':(0:Int) < k:=by omega
     have hk0n:(k==0)=false:=beq_eq_false_iff_ne.2 hk0;rw[hk0n]at HN HBAD;clear hk0n;go_wp2_with fail;refine(CD.out _ (St.weaken (A:=[_]) H3.out)).mono ?_;rintro e w3 ⟨rfl,hb⟩;have h4:=H3.out.belowTo hb;have g0:=h4.cell (g:=wr.heap.size) (cs:=#[.int .i64 rn,.string rb,.bool false]) (t:=172) (fr:=(0,0)) (by simp) 1;have g1:=h4.cell (g:=wr.heap.size) (cs:=#[.int .i64 rn,.string rb,.bool false]) (t:=172) (fr:=(0,0)) (by simp) 2;have H4:=za h4;clear h4 hb CD f0 f1
     cases bd with
     | true=>
      have hN:=HN.out;have HN2:=za (show allOk s (List.take (k+1) l) 0=true by rw[hN];cases bl<;>rfl);clear hN;go_wp2_with fail
      all_goals
       refine⟨⟨k+1,by go_num,HN2.out,by omega,St.weaken (A:=[_]) H4.out⟩,?_⟩
       simp[intOf];omega
     | false=>
      by_cases e45:rb.toList=[45]
      ·have e:=H45.out.1 e45
       have HN2:=za (show allOk s (List.take (k+1) l) 0=true by rw[HN.out,e];cases bl<;>rfl);clear e;go_wp2_with fail
       all_goals
        refine⟨⟨k+1,by go_num,HN2.out,by omega,St.weaken (A:=[_]) H4.out⟩,?_⟩
        simp[intOf];omega
      by_cases e95:rb.toList=[95]
      ·have e:=H95.out.1 e95
       have HN2:=za (show allOk s (List.take (k+1) l) 0=true by rw[HN.out,e];cases bl<;>rfl);clear e;go_wp2_with fail
       all_goals
        refine⟨⟨k+1,by go_num,HN2.out,by omega,St.weaken (A:=[_]) H4.out⟩,?_⟩
        simp[intOf];omega
      by_cases e46:rb.toList=[46]
      ·have e:=H46.out.1 e46
       have HN2:=za (show allOk s (List.take (k+1) l) 0=true by rw[HN.out,e];cases bl<;>rfl);clear e;go_wp2_with fail
       all_goals
        refine⟨⟨k+1,by go_num,HN2.out,by omega,St.weaken (A:=[_]) H4.out⟩,?_⟩
        simp[intOf];omega
      have n45:¬rn=45:=fun h=>e45 (H45.out.2 h)
      have n95:¬rn=95:=fun h=>e95 (H95.out.2 h)
      have n46:¬rn=46:=fun h=>e46 (H46.out.2 h)
      have m45:((rn:Int)==45)=false:=beq_eq_false_iff_ne.2 (by omega);have m95:((rn:Int)==95)=false:=beq_eq_false_iff_ne.2 (by omega);have m46:((rn:Int)==46)=false:=beq_eq_false_iff_ne.2 (by omega);rw[m45,m95,m46]at HN HBAD;have b45:(rb.toList==[45])=false:=beq_eq_false_iff_ne.2 e45;have b95:(rb.toList==[95])=false:=beq_eq_false_iff_ne.2 e95;have b46:(rb.toList==[46])=false:=beq_eq_false_iff_ne.2 e46;clear n45 n95 n46 m45 m95 m46
      cases bl with
      | true=>
       have hN:=HN.out;have HN2:=za (show allOk s (List.take (k+1) l) 0=true by rw[hN];rfl);clear hN;go_wp2_with fail
       all_goals
        refine⟨⟨k+1,by go_num,HN2.out,by omega,St.weaken (A:=[_]) H4.out⟩,?_⟩
        simp[intOf];omega
      | false=>
       have hX:=HBAD.out rfl;have HX:=za hX;clear hX;go_wp2_with fail
       all_goals
        go_ret;exact⟨by rw[HR2.out,HX.out];rfl,St.less HLE.out (St.weaken (A:=[_]) H4.out)⟩
  ·obtain rfl:k=l.length:=by omega
   rw[List.take_length]at hall;have HST:=za hst;have hR':=HR2.out;rw[hall]at hR';have HR':=za hR';clear hst hR';go_wp2_with fail;go_ret;exact⟨by rw[HR'.out];rfl,HST.out.less HLE.out⟩
end

section
set_option linter.unusedVariables false
set_option linter.unusedSimpArgs false
open Go.RowKit Go.Lib
theorem rune_bvals (r:Int):(encodeRune r).map bval=runeCells r:=by
 rw[←byteCells_encodeRune]
 rfl
theorem put_any {W w:World} {I:Nat→Option Obj} {L:List (Nat × Obj)} (n:Nat) (hn:n < 55296∨(57344≤n∧n≤1114111)) (h:St W w I L) :
  Calls Tryz.prog 125 #[.int .i64 n] w fun e w'=>e=.returned (.string ⟨(encodeRune (n:Int)).toArray⟩)∧St W w' I L:=by
 obtain⟨R,hR⟩:∃R,encodeRune (n:Int)=R:=⟨_,rfl⟩;rw[hR];have hbv:=rune_bvals (n:Int);rw[hR]at hbv;have hlen:=runeCells_le (n:Int);rw[←hbv,List.length_map]at hlen;have h2:=h.alloc (.cells #[] 5);have H2:=za h2;have HL:=za hlen
 have hn1:(n:Int)≤1114111:=by omega
 clear h h2 hlen
 go_enter Tryz.func125,Tryz.ntmps125
 by_cases h1:n < 128
 ·have h1':(n:Int) < 128:=by omega
  rw[runeCells,encodeRuneZ_one (by omega) (by omega)]at hbv;have HBV:=za hbv;clear hbv hn
  go_wp2_with (at_builtin;refine Hid.out ?_)
  refine za ?_;refine z8 (F:=L) (L:=[(w.heap.size,.cells #[] 5 (0,0))]) rfl (.tmp 29) (.tmp 32) 118 rfl 5 (.int .u8 0) 1 1 Tryz.underlying118 (by kernel_rfl) rfl (by omega) rfl (Row.empty 5 1 w.heap.size) (St.alloc_ (by exact H2.out) _) rfl (Src.new' (w.alloc (.cells #[] 5)) #[.int .u8 ((n:Int))] 5 (by simp) _ rfl) (by intro u hu;simp at hu;subst hu;rfl) R.length (by have:=congrArg List.length HBV.out;simp only[List.length_map]at this;rw[this];rfl) (R.map bval) (by rw[HBV.out];rfl) (by have:=HL.out;unfold maxLen;omega) (by have:=HL.out;omega) ?_;intro A1 c1 w2 L1 hr1 h3 ho;have hcv:=zaq (P:=Tryz.prog) Tryz.underlying118 Tryz.underlying5 Tryz.underlying9 (c:=c1) (Row.src hr1 (fun p hp=>h3.own p (List.mem_append.2 (.inl hp))));have H3:=za h3;clear h3 hr1 ho;go_wp2_with fail;go_ret;exact⟨rfl,St.weaken H3.out⟩
 have h1':¬(n:Int) < 128:=by omega
 by_cases h2:n < 2048
 ·have h2':(n:Int) < 2048:=by omega
  rw[runeCells,encodeRuneZ_two (by omega) (by omega)]at hbv;have HBV:=za hbv;clear hbv hn
  go_wp2_with (at_builtin;refine Hid.out ?_)
  refine za ?_;refine z8 (F:=L) (L:=[(w.heap.size,.cells #[] 5 (0,0))]) rfl (.tmp 37) (.tmp 46) 118 rfl 5 (.int .u8 0) 1 1 Tryz.underlying118 (by kernel_rfl) rfl (by omega) rfl (Row.empty 5 1 w.heap.size) (St.alloc_ (by exact H2.out) _) rfl (Src.new' (w.alloc (.cells #[] 5)) #[.int .u8 (192+(n:Int) / 64),.int .u8 (128+(n:Int) % 64)] 5 (by simp) _ rfl) (by intro u hu;simp at hu;rcases hu with rfl|rfl<;>rfl) R.length (by have:=congrArg List.length HBV.out;simp only[List.length_map]at this;rw[this];rfl) (R.map bval) (by rw[HBV.out];rfl) (by have:=HL.out;unfold maxLen;omega) (by have:=HL.out;omega) ?_;intro A1 c1 w2 L1 hr1 h3 ho;have hcv:=zaq (P:=Tryz.prog) Tryz.underlying118 Tryz.underlying5 Tryz.underlying9 (c:=c1) (Row.src hr1 (fun p hp=>h3.own p (List.mem_append.2 (.inl hp))));have H3:=za h3;clear h3 hr1 ho;go_wp2_with fail;go_ret;exact⟨rfl,St.weaken H3.out⟩
 have h2':¬(n:Int) < 2048:=by omega
 by_cases h3:n < 65536
 ·have h3':(n:Int) < 65536:=by omega
  rw[runeCells,encodeRuneZ_three (by omega)]at hbv;have HBV:=za hbv;clear hbv hn
  go_wp2_with (at_builtin;refine Hid.out ?_)
  refine za ?_;refine z8 (F:=L) (L:=[(w.heap.size,.cells #[] 5 (0,0))]) rfl (.tmp 51) (.tmp 65) 118 rfl 5 (.int .u8 0) 1 1 Tryz.underlying118 (by kernel_rfl) rfl (by omega) rfl (Row.empty 5 1 w.heap.size) (St.alloc_ (by exact H2.out) _) rfl (Src.new' (w.alloc (.cells #[] 5)) #[.int .u8 (224+(n:Int) / 4096),.int .u8 (128+(n:Int) / 64 % 64),.int .u8 (128+(n:Int) % 64)] 5 (by simp) _ rfl) (by intro u hu;simp at hu;rcases hu with rfl|rfl|rfl<;>rfl) R.length (by have:=congrArg List.length HBV.out;simp only[List.length_map]at this;rw[this];rfl) (R.map bval) (by rw[HBV.out];rfl) (by have:=HL.out;unfold maxLen;omega) (by have:=HL.out;omega) ?_;intro A1 c1 w2 L1 hr1 h3 ho;have hcv:=zaq (P:=Tryz.prog) Tryz.underlying118 Tryz.underlying5 Tryz.underlying9 (c:=c1) (Row.src hr1 (fun p hp=>h3.own p (List.mem_append.2 (.inl hp))));have H3:=za h3;clear h3 hr1 ho;go_wp2_with fail;go_ret;exact⟨rfl,St.weaken H3.out⟩
 have h3':¬(n:Int) < 65536:=by omega
 rw[runeCells,encodeRuneZ_four (by omega) (by omega)]at hbv;have HBV:=za hbv;clear hbv hn
 go_wp2_with (at_builtin;refine Hid.out ?_)
 refine za ?_;refine z8 (F:=L) (L:=[(w.heap.size,.cells #[] 5 (0,0))]) rfl (.tmp 5) (.tmp 24) 118 rfl 5 (.int .u8 0) 1 1 Tryz.underlying118 (by kernel_rfl) rfl (by omega) rfl (Row.empty 5 1 w.heap.size) (St.alloc_ (by exact H2.out) _) rfl (Src.new' (w.alloc (.cells #[] 5)) #[.int .u8 (240+(n:Int) / 262144),.int .u8 (128+(n:Int) / 4096 % 64),.int .u8 (128+(n:Int) / 64 % 64),.int .u8 (128+(n:Int) % 64)] 5 (by simp) _ rfl) (by intro u hu;simp at hu;rcases hu with rfl|rfl|rfl|rfl<;>rfl) R.length (by have:=congrArg List.length HBV.out;simp only[List.length_map]at this;rw[this];rfl) (R.map bval) (by rw[HBV.out];rfl) (by have:=HL.out;unfold maxLen;omega) (by have:=HL.out;omega) ?_;intro A1 c1 w2 L1 hr1 h3 ho;have hcv:=zaq (P:=Tryz.prog) Tryz.underlying118 Tryz.underlying5 Tryz.underlying9 (c:=c1) (Row.src hr1 (fun p hp=>h3.own p (List.mem_append.2 (.inl hp))));have H3:=za h3;clear h3 hr1 ho;go_wp2_with fail;go_ret;exact⟨rfl,St.weaken H3.out⟩
end

section
set_option linter.unusedVariables false
set_option linter.unusedSimpArgs false
open Go.RowKit Go.Lib
theorem foldPiece_broken (s:ByteArray) (p:Nat) (hp:p < s.size) (hb:brokenAt s p=true):refBytes s p=⟨(foldPiece s p).toArray⟩:=by
 have h2:(Utf8.decode s p).2=1:=by
  unfold brokenAt at hb;simp only[Bool.and_eq_true,beq_iff_eq]at hb;exact hb.2
 rw[foldPiece,if_pos hb,refBytes,h2];apply ByteArray.ext;rw[ByteArray.data_extract];have hs:s.data.size=s.size:=rfl;apply Array.ext
 ·simp only[Array.size_extract];simp;omega
 ·intro i h1 h3
  simp only[Array.size_extract]at h1
  obtain rfl:i=0:=by omega
  rw[ug s p hp]
  simp
  rfl
theorem str_app (a b:List UInt8):(⟨a.toArray⟩:ByteArray)++⟨b.toArray⟩=⟨(a++b).toArray⟩:=by
 apply ByteArray.ext;rw[ByteArray.data_append]
 simp
theorem rfold_any {W w:World} {I:Nat→Option Obj} {L:List (Nat × Obj)} (t:TB W I) (s:ByteArray) (hm:s.size≤1000000000) (h:St W w I L) :
  Calls Tryz.prog 107 #[.string s] w fun e w'=>e=.returned (.string ⟨(j7 s).toArray⟩)∧St W w' I L:=by
 have cR:=runes_any s hm h;have hzl:=runesOf_lt s;have hln:=qq s;obtain⟨R,hR⟩:∃R:ByteArray,R=⟨(j7 s).toArray⟩:=⟨_,rfl⟩;rw[←hR];have hfd:j7 s=(runesOf s).flatMap (foldPiece s):=rfl;rw[hfd]at hR;generalize runesOf s=l at *;have HR:=za hR;have CR:=za cR;clear hR cR h hfd
 go_enter Tryz.func107,Tryz.ntmps107
 go_wp2_with fail;refine CR.out.mono ?_;rintro e w1 ⟨A,c,L',rfl,hrow,h1⟩;obtain⟨J,hle,h2,hrin⟩:=runes_freeze hrow h1;have H2:=za h2;have HRIN:=za hrin;have T:=za (t.more hle);clear hrow h1 h2 CR t hrin;go_wp2_with fail
 go_loopw [3,9] (fun v i wr=>∃k:Nat,i=.int .i64 k∧v=.string ⟨((l.take k).flatMap (foldPiece s)).toArray⟩∧k≤l.length∧St W wr J L) (fun _ i _=>l.length-(intOf i).toNat)
 case atStart=>exact⟨0,rfl,by simp,by omega,H2.out⟩
 case round=>
  obtain⟨k,rfl,rfl,hk,hst⟩:=hrel;clear H2
  by_cases hkl:k < l.length
  ·obtain⟨p,hp⟩:∃p,l[k]?=some p:=⟨_,List.getElem?_eq_getElem hkl⟩
   obtain⟨b,off,rfl,r0,r1,r2⟩:=HRIN.out k p hp;have hps:=hzl p (List.mem_of_getElem? hp);have q0:=hst.ro r0;have q1:=hst.ro r1;have q2:=hst.ro r2
   have hnext:(l.take (k+1)).flatMap (foldPiece s)=(l.take k).flatMap (foldPiece s)++foldPiece s p:=by rw[List.take_add_one,hp];simp
   have hno:brokenAt s p=false→refNumber s p=(Utf8.decode s p).1:=fun h=>by unfold refNumber;rw[h];rfl
   have hok:=toLowerU_ok _ (rune_ok s p);have hrl:=Lib.rune_le s p;have hfb:=foldPiece_broken s p hps
   have hfg:brokenAt s p=false→foldPiece s p=encodeRune (toLowerU ((Utf8.decode s p).1:Int)):=fun h=>by rw[foldPiece,h];rfl
   have hal:=uc s (l.take k)
   have hkl2:(l.take k).length≤1000000000:=by simp;omega
   have hrbs:(refBytes s p).size≤1000000000:=by unfold refBytes;rw[ByteArray.size_extract];omega
   obtain⟨acc,hacc⟩:∃acc,(l.take k).flatMap (foldPiece s)=acc:=⟨_,rfl⟩;rw[hacc]at hnext hal ⊢;generalize foldPiece s p=fp at *;generalize refBytes s p=rb at *;generalize refNumber s p=rn at *;generalize (Utf8.decode s p).1=dn at *;have HN:=za hnext;have HST:=za hst;have HLE:=za hle
   cases hbr:brokenAt s p with
   | true=>
    rw[hbr]at q2;have he:=hfb hbr;have HE:=za he
    have hcat:acc.length+rb.size≤9223372036854775807:=by omega
    clear hno hok hrl hfb hfg hst hnext r0 r1 r2 hp hacc hle he hbr hzl;go_wp2_with fail;refine⟨⟨k+1,by go_num,by rw[HE.out,str_app,HN.out],by omega,St.alloc_ HST.out _⟩,?_⟩
    simp[intOf];omega
   | false=>
    rw[hbr]at q2;have he:=hno hbr;have hf:=hfg hbr;obtain⟨tl,htl⟩:∃tl,toLowerU (dn:Int)=tl:=⟨_,rfl⟩
    have hta:=fun(v:World) (hv:St W v J L)=>Tryz.unicode_ToLower_laid (dn:Int) v (T.out.on hv).case
    rw[htl]at hta hok hf;unfold ROk at hok;obtain⟨tn,rfl⟩:=Int.eq_ofNat_of_zero_le (by omega:0≤tl);rw[he]at q0;have HF:=za hf;have HTA:=za hta
    have hdn:(dn:Int)≤1114111:=by omega
    have htn:(tn:Int)≤1114111:=by omega
    have hok':tn < 55296∨(57344≤tn∧tn≤1114111):=by omega
    have hel:=Lib.encodeRuneZ_length (tn:Int)
    have hel2:(encodeRune (tn:Int)).length≤4:=by unfold encodeRune;rw[List.length_map];exact hel.2
    have hcat:acc.length+(encodeRune (tn:Int)).length≤9223372036854775807:=by omega
    clear hno hok hrl hfb hfg hst hnext r0 r1 r2 hp hacc hle he hbr hf hta htl hzl hel hel2;go_wp2_with fail;refine(HTA.out _ (St.alloc_ HST.out _)).mono ?_;rintro e w2 ⟨rfl,q,rfl⟩;have h3:=(St.alloc_ HST.out (.cells #[.int .i64 dn,.string rb,.bool false] 172)).drew q;have cP:=put_any tn hok' h3;have CP:=za cP;clear h3 cP;go_wp2_with fail;refine CP.out.mono ?_;rintro e w3 ⟨rfl,h4⟩;have H4:=za h4;clear h4 CP;go_wp2_with fail;refine⟨⟨k+1,by go_num,by rw[str_app,HN.out,HF.out],by omega,H4.out⟩,?_⟩
    simp[intOf];omega
  ·obtain rfl:k=l.length:=by omega
   rw[List.take_length];have HST:=za hst;have hR':=HR.out;have HR':=za hR';have HLE:=za hle;clear hst hR' hle;go_wp2_with fail;go_ret;exact⟨by rw[HR'.out];rfl,HST.out.less HLE.out⟩
end

section
set_option linter.unusedVariables false
set_option linter.unusedSimpArgs false
open Go.RowKit Go.Lib Go.Deep
section
variable {W w:World} {J:Nat→Option Obj} {t:Tb} {F:List (Nat × Obj)}
variable {m:Md} {ns:List ByteArray} {Ln:List (Nat × Obj)}
def hasB (ns:List ByteArray) (fx:ByteArray):Bool:=ns.any fun s=>k7 s&&decide (foldB s=fx)
theorem hasB_take (ns:List ByteArray) (fx:ByteArray) (k:Nat) (s:ByteArray) (h:ns[k]?=some s):hasB (ns.take (k+1)) fx=(hasB (ns.take k) fx||(k7 s&&decide (foldB s=fx))):=by
 unfold hasB;rw[List.take_add_one,h,Option.toList_some,List.any_append]
 simp
theorem hasB_hit (ns:List ByteArray) (fx:ByteArray) (s:ByteArray) (h:s∈ns) (hn:k7 s=true) (hf:foldB s=fx):hasB ns fx=true:=by
 unfold hasB;rw[List.any_eq_true];exact⟨s,h,by simp[hn,hf]⟩
theorem hasB_spec (ns:List ByteArray) (fx:ByteArray):hasB ns fx=Lib.containsS (filtN ns) fx:=by
 rw[Bool.eq_iff_iff,Lib.containsS_iff];unfold hasB filtN;rw[List.any_eq_true,List.mem_map]
 constructor
 ·rintro⟨s,hs,h⟩
  rw[Bool.and_eq_true,decide_eq_true_eq]at h;exact⟨s,List.mem_filter.2 ⟨hs,h.1⟩,h.2⟩
 ·rintro⟨s,hs,h⟩
  have q:=List.mem_filter.1 hs;exact⟨s,q.1,by rw[q.2,h];simp⟩
theorem str_ne (a b:ByteArray) (h:¬a=b):(a.toList==b.toList)=false:=by
 cases hc:(a.toList==b.toList) with
 | false=>rfl
 | true=>
  have h1:=eq_of_beq hc;rw[ByteArray.toList_eq,ByteArray.toList_eq]at h1;refine absurd ?_ h
  cases a;cases b
  simp only at h1;rw[Array.toList_inj.1 h1]
theorem r26_has {A:Option Addr} (tb:Go.Proofs.YtnjnooeldkideaaGreatDoor.TB W J) (x:ByteArray) (hx:x.size≤1000000) (c:Nat) (ok:m.Ok) (hrd:Rd W J Ln 1 A (y2 ns)) (hn:ns.length≤1000) (hsz:∀s∈ns,s.size≤1000000) (hL:∀p∈Ln,p∈F) (h:St W w J F) :
  Calls Tryz.prog 76 #[.agg (stC m (.slice A ns.length c)),.string x] w fun e w'=>e=.returned (.bool (hasB ns (foldB x)))∧St W w' J F:=by
 have h1:=h.alloc (.cells (stC m (.slice A ns.length c)) 47);obtain⟨g,hg⟩:∃g,w.heap.size=g:=⟨_,rfl⟩;rw[hg]at h1;have c0:=(h1.stt ok (g:=g) (nv:=.slice A ns.length c) (T:=47) (fr:=(0,0)) (by simp)).names
 have kx:=fun(v:World) (X:List (Nat × Obj)) (hv:St W v J X)=>rfold_any tb x (by omega) hv
 have ex:(⟨(j7 x).toArray⟩:ByteArray)=foldB x:=rfl;rw[ex]at kx;clear ex;obtain⟨fx,hfx⟩:∃y,foldB x=y:=⟨_,rfl⟩;rw[hfx]at kx ⊢;obtain⟨C,hC⟩:∃y,stC m (.slice A ns.length c)=y:=⟨_,rfl⟩;rw[hC]at h1 c0 ⊢;obtain⟨N,hN⟩:∃N,ns.length=N:=⟨_,rfl⟩;rw[hN]at hn c0;have KX:=za kx;have H1:=za h1;have RD:=za hrd;have HSZ:=za hsz;have HL:=za hL;have HN:=za hN;clear kx h1 hrd hsz hL h hfx hN hC
 go_enter Tryz.func76,Tryz.ntmps76
 go_wp2_with fail
 go_loopw [10] (fun i wr=>∃k:Nat,i=.int .i64 k∧k≤N∧hasB (ns.take k) fx=false∧St W wr J ((g,.cells C 47 (0,0))::F)) (fun i _=>N-(intOf i).toNat)
 case atStart=>exact⟨0,rfl,by omega,rfl,H1.out⟩
 case round=>
  obtain⟨k,rfl,hk,hpre,hst⟩:=hrel;clear H1 c0
  by_cases hkl:k < N
  ·obtain⟨sx,hsx⟩:∃o,ns[k]?=some o:=⟨_,List.getElem?_eq_getElem (by rw[HN.out];exact hkl)⟩
   obtain⟨b,off,rfl,hcell⟩:=RD.out.at_ wr _ hst (fun p hp=>by simp[HL.out p hp]) k [.string sx] (by unfold y2;rw[List.getElem?_map,hsx];rfl);have c0:=hcell 0 _ rfl;rw[Nat.mul_one,Nat.add_zero]at c0;have hnext:=hasB_take ns fx k sx hsx;have hss:=HSZ.out sx (List.mem_of_getElem? hsx);have hhit:=hasB_hit ns fx sx (List.mem_of_getElem? hsx)
   have kn:=fun(v:World) (X:List (Nat × Obj)) (hv:St W v J X)=>rname_any tb sx (by omega) hv
   have kf:=fun(v:World) (X:List (Nat × Obj)) (hv:St W v J X)=>rfold_any tb sx (by omega) hv
   have ef:(⟨(j7 sx).toArray⟩:ByteArray)=foldB sx:=rfl;rw[ef]at kf;clear ef;obtain⟨no,hno⟩:∃b,k7 sx=b:=⟨_,rfl⟩;rw[hno]at kn hnext hhit;obtain⟨fs,hfs⟩:∃y,foldB sx=y:=⟨_,rfl⟩;rw[hfs]at kf hnext hhit;rw[hpre,Bool.false_or]at hnext;have KN:=za (kn _ _ hst);have KF:=za kf;have HNX:=za hnext;have HIT:=za hhit;clear kn kf hnext hno hfs hcell hsx hss hst hhit hpre;go_wp2_with fail;refine KN.out.mono ?_;rintro e w2 ⟨rfl,h2⟩;clear KN c0
   cases no with
   | false=>
    have HN2:=za (show hasB (ns.take (k+1)) fx=false from HNX.out);have H2:=za h2;clear HNX h2 HIT;go_wp2_with fail
    go_roundw
    case rel=>exact⟨k+1,by go_num,by omega,HN2.out,H2.out⟩
    case measure=>simp[intOf];omega
   | true=>
    have HN2:=za (show hasB (ns.take (k+1)) fx=decide (fs=fx) from HNX.out);have HH:=za (show fs=fx→hasB ns fx=true from fun q=>HIT.out rfl q);have H2:=za h2;clear HNX h2 HIT;go_wp2_with fail;refine(KF.out _ _ H2.out).mono ?_;rintro e w3 ⟨rfl,h3⟩;have H3:=za h3;clear h3 H2;go_wp2_with fail;refine(KX.out _ _ H3.out).mono ?_;rintro e w4 ⟨rfl,h4⟩
    by_cases hq:fs=fx
    ·have HR:=za (HH.out hq)
     have H4:=za h4;subst hq;clear h4 H3 HH HN2;go_wp2_with fail;go_ret;exact⟨by rw[HR.out];rfl,H4.out.weaken (A:=[_])⟩
    ·have hd:hasB (ns.take (k+1)) fx=false:=by rw[HN2.out];simp[hq]
     have hb:=str_ne fs fx hq;have HD:=za hd;have H4:=za h4;clear hd h4 H3 HH HN2;go_wp2_with fail
     go_roundw
     case rel=>exact⟨k+1,by go_num,by omega,HD.out,H4.out⟩
     case measure=>simp[intOf];omega
  ·have hge:¬(k:Int) < (N:Int):=by omega
   rw[List.take_of_length_le (by rw[HN.out];omega)]at hpre;have HP:=za hpre;have H2:=za hst;clear hpre hst;go_wp2_with fail;go_ret;exact⟨by rw[HP.out];rfl,H2.out.weaken (A:=[_])⟩
end
end
end Go.Proofs.YtnjnooeldkideaaGreatDoor
