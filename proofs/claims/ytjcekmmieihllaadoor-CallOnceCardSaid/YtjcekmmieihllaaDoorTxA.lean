/- strings.Builder in the proof's own memory: WriteByte, String. append of a text onto a row of bytes; strings.Builder: Write, WriteString: walks. glyph.Fold: walks. strings.Builder: WriteRune, String of nothing; its iterator beside: walks. digest: Text; the reference's Text. strconv: FormatUint and Itoa at base 10: walks, contracts. -/
import Derived.Test.YtjcekmmieihllaaDoorSlices
import Derived.Test.YtjcekmmieihllaaDoorRows
import Derived.Lib.UnsafeStr
import Derived.Lib.Builder
import Derived.Laws.Externs
import Derived.RegionTactic
import Derived.BigRegion
import Derived.Test.YtjcekmmieihllaaDoorParts
import Derived.Laws.BytesArg
import Derived.Test.YtjcekmmieihllaaDoorGlyPA
import Derived.Test.YtjcekmmieihllaaDoorShelf
import Derived.Lib.ItoaMem
namespace Go.Proofs.YtjcekmmieihllaaDoor
section
set_option linter.unusedVariables false
set_option linter.unusedSimpArgs false
open Go.RowKit

/-- A builder that holds bs lies at sb. -/
def BldSt (W w : World) (I : Nat → Option Obj) (sb : Nat) (bs : List UInt8) (F : List (Nat × Obj)) : Prop :=
  ∃ A0 A c Lr, (A0 = .pointer none ∨ A0 = .pointer (some ⟨sb, 0, none⟩)) ∧ Row 5 1 (.slice A bs.length c) bs.length (bs.map bval) Lr ∧ Off0 (.slice A bs.length c) ∧
    St W w I ((sb, .cells #[A0, .slice A bs.length c] 106 (0, 0)) :: (Lr ++ F))

theorem BldSt.new {W w : World} {I : Nat → Option Obj} {F : List (Nat × Obj)} (h : St W w I F) : BldSt W (w.alloc (.cells #[.pointer none, .slice none 0 0] 106)) I w.heap.size [] F :=
  ⟨_, none, 0, [], .inl rfl, Row.nil _ _, Off0.nil, h.alloc _⟩
theorem BldSt.frame {W w : World} {I : Nat → Option Obj} {sb : Nat} {bs : List UInt8} {F : List (Nat × Obj)} (h : BldSt W w I sb bs F) : St W w I F := by
  obtain ⟨A0, A, c, Lr, _, _, _, hst⟩ := h
  exact St.weaken (A := [_]) hst |>.weaken

theorem bldShape {w : World} {sb : Nat} {cs : Array Value} {t : TypeId} {fr : Nat × Nat} (h : w.heap[sb]? = some (.cells cs t fr)) : w.shape? sb = some (t, cs.size) := by simp [World.shape?, h]

set_option maxRecDepth 100000 in
set_option maxHeartbeats 1000000 in
theorem bldCheck_new {W w : World} {I : Nat → Option Obj} {sb : Nat} {sl : Value} {F : List (Nat × Obj)} (hst : St W w I ((sb, .cells #[.pointer none, sl] 106 (0, 0)) :: F)) :
    Calls Tryd.prog 74 #[.pointer (some ⟨sb, 0, none⟩)] w fun e w' => e = .returned (.tuple #[]) ∧ St W w' I ((sb, .cells #[.pointer (some ⟨sb, 0, none⟩), sl] 106 (0, 0)) :: F) := by
  have hb := hst.own (sb, .cells #[.pointer none, sl] 106 (0, 0)) (by simp)
  have hsh := bldShape hb
  have h0 : w.cell? ⟨sb, 0, none⟩ = some (.pointer none) := hst.cell (g := sb) (cs := #[.pointer none, sl]) (t := 106) (fr := (0, 0)) (by simp) 0
  have hfz : w.frozen? ⟨sb, 0, none⟩ = false := hst.frozen (g := sb) (cs := #[.pointer none, sl]) (t := 106) (by simp) 0
  have fin : St W (w.setCell ⟨sb, 0, none⟩ (.pointer (some ⟨sb, 0, none⟩))) I ((sb, .cells #[.pointer (some ⟨sb, 0, none⟩), sl] 106 (0, 0)) :: F) := St.set (A := []) hst 0 _
  have Fin := Lib.hid fin
  have Hsh := Lib.hid hsh
  clear fin hst hsh hb
  obtain ⟨j, hj, hjs⟩ : ∃ j, Tryd.prog.info? 106 = some j ∧ j.size = 2 := Option.map_eq_some_iff.1 (by kernel_rfl : (Tryd.prog.info? 106).map (·.size) = some 2)
  have Hj := Lib.hid hj; have Hjs := Lib.hid hjs
  clear hj hjs
  go_enter Tryd.func74, Tryd.ntmps74
  go_wp2_with fail
  rw [Lib.run_to_unsafe w ⟨sb, 0, none⟩ Tryd.underlying103 Tryd.underlying156 Hj.out (by rw [Hjs.out]; decide) Hsh.out (Nat.zero_lt_succ 1)]
  simp only [Result.andThen]
  rw [Oper.upon_value]
  go_wp2_with fail
  rw [run_callFunc_extern Tryd.func92 (by kernel_rfl) (by kernel_rfl) (by kernel_rfl) (e := Extern.AbiNoEscape.same) (by kernel_rfl)]
  rw [Lib.run_noEscape]
  simp only [Result.andThen]
  rw [Oper.upon_value]
  go_wp2_with fail
  rw [Lib.run_from_unsafe w ⟨sb, 0, none⟩ Tryd.underlying156 Tryd.underlying103 Hj.out Hsh.out (by kernel_rfl)]
  simp only [Result.andThen]
  rw [Oper.upon_value]
  go_wp2_with fail
  exact ⟨rfl, .tuple #[], by simp [results, Tryd.f74], rfl, Fin.out⟩

set_option maxRecDepth 100000 in
set_option maxHeartbeats 1000000 in
theorem bldCheck_old {W w : World} {I : Nat → Option Obj} {sb : Nat} {sl : Value} {F : List (Nat × Obj)} (hst : St W w I ((sb, .cells #[.pointer (some ⟨sb, 0, none⟩), sl] 106 (0, 0)) :: F)) :
    Calls Tryd.prog 74 #[.pointer (some ⟨sb, 0, none⟩)] w fun e w' => e = .returned (.tuple #[]) ∧ St W w' I ((sb, .cells #[.pointer (some ⟨sb, 0, none⟩), sl] 106 (0, 0)) :: F) := by
  have h0 : w.cell? ⟨sb, 0, none⟩ = some (.pointer (some ⟨sb, 0, none⟩)) := hst.cell (g := sb) (cs := #[.pointer (some ⟨sb, 0, none⟩), sl]) (t := 106) (fr := (0, 0)) (by simp) 0
  have Fin := Lib.hid hst
  clear hst
  obtain ⟨j, hj⟩ : ∃ j, Tryd.prog.info? 106 = some j := by
    cases h : Tryd.prog.info? 106 with
    | some j => exact ⟨j, rfl⟩
    | none => have h2 : (Tryd.prog.info? 106).map (·.size) = some 2 := by kernel_rfl
              rw [h] at h2; cases h2
  have Hj := Lib.hid hj
  clear hj
  go_enter Tryd.func74, Tryd.ntmps74
  go_wp2_with fail
  rw [Lib.run_neq_ptr_same (w := w) _ Tryd.underlying103 Hj.out]
  go_wp2_with fail
  exact ⟨rfl, .tuple #[], by simp [results, Tryd.f74], rfl, Fin.out⟩

theorem bldCheck {W w : World} {I : Nat → Option Obj} {sb : Nat} {A0 sl : Value} {F : List (Nat × Obj)} (hA : A0 = .pointer none ∨ A0 = .pointer (some ⟨sb, 0, none⟩)) (hst : St W w I ((sb, .cells #[A0, sl] 106 (0, 0)) :: F)) :
    Calls Tryd.prog 74 #[.pointer (some ⟨sb, 0, none⟩)] w fun e w' => e = .returned (.tuple #[]) ∧ St W w' I ((sb, .cells #[.pointer (some ⟨sb, 0, none⟩), sl] 106 (0, 0)) :: F) := by
  rcases hA with rfl | rfl
  · exact bldCheck_new hst
  · exact bldCheck_old hst

set_option maxRecDepth 100000 in
set_option maxHeartbeats 1000000 in
theorem bldByte {W w : World} {I : Nat → Option Obj} {sb : Nat} {bs : List UInt8} {F : List (Nat × Obj)} (b : UInt8) (h : BldSt W w I sb bs F) (hlen : bs.length < 140737488355328) :
    Calls Tryd.prog 63 #[.pointer (some ⟨sb, 0, none⟩), .int .u8 (b.toNat : Int)] w fun e w' => e = .returned .nilIface ∧ BldSt W w' I sb (bs ++ [b]) F := by
  obtain ⟨A0, A, c, Lr, hA, hr, h0, hst⟩ := h
  go_enter Tryd.func63, Tryd.ntmps63
  go_wp2_with fail
  refine (bldCheck hA hst).mono ?_
  rintro e w1 ⟨rfl, h1⟩
  have q1 : w1.cell? ⟨sb, 1, none⟩ = some (.slice A bs.length c) := h1.cell (g := sb) (cs := #[.pointer (some ⟨sb, 0, none⟩), .slice A bs.length c]) (t := 106) (fr := (0, 0)) (by simp) 1
  have h2 : St W (w1.alloc (.cells #[.int .u8 (b.toNat : Int)] 5)) I (Lr ++ ((sb, .cells #[.pointer (some ⟨sb, 0, none⟩), .slice A bs.length c] 106 (0, 0)) :: F)) := St.swap (A := [(sb, _)]) (St.alloc_ h1 _)
  have hsrc := Src.one w1 (.int .u8 (b.toNat : Int)) 5
  clear hst hA
  have H1 := Lib.hid h1
  clear h1
  have hone : ∀ u ∈ [Value.int .u8 (b.toNat : Int)], u.oneCell' = true := by simp [Value.oneCell']
  go_wp2_with (at_builtin; refine Hid.out ?_)
  refine Lib.hid ?_
  refine wpList_append_row0 (F := (sb, .cells #[.pointer (some ⟨sb, 0, none⟩), .slice A bs.length c] 106 (0, 0)) :: F) rfl (.tmp 11) (.tmp 13) _ rfl 5 (.int .u8 0) 1 1 Tryd.underlying104 (by kernel_rfl) rfl (by omega) rfl hr (by exact h2) rfl (by exact hsrc) hone (bs.length + 1) rfl ((bs ++ [b]).map bval) (by rw [List.map_append]; rfl) (by unfold maxLen; omega) (by omega) ?_
  intro A1 c1 w2 L1 hr1 h3 ho
  have q2 : w2.cell? ⟨sb, 1, none⟩ = some (.slice A bs.length c) := h3.cell (g := sb) (cs := #[.pointer (some ⟨sb, 0, none⟩), .slice A bs.length c]) (t := 106) (fr := (0, 0)) (by simp) 1
  have f2 : w2.frozen? ⟨sb, 1, none⟩ = false := h3.frozen (g := sb) (cs := #[.pointer (some ⟨sb, 0, none⟩), .slice A bs.length c]) (t := 106) (by simp) 1
  have h4 : St W (w2.setCell ⟨sb, 1, none⟩ (.slice A1 (bs.length + 1) c1)) I ((sb, .cells #[.pointer (some ⟨sb, 0, none⟩), .slice A1 (bs.length + 1) c1] 106 (0, 0)) :: (L1 ++ F)) := St.set (A := []) (St.swap (B := [(sb, _)]) h3) 1 _
  have hfin : BldSt W (w2.setCell ⟨sb, 1, none⟩ (.slice A1 (bs.length + 1) c1)) I sb (bs ++ [b]) F := by
    refine ⟨_, A1, c1, L1, .inr rfl, ?_, ?_, ?_⟩ <;> rw [List.length_append, List.length_singleton]
    · exact hr1
    · exact ho h0
    · exact h4
  have Hfin := Lib.hid hfin
  clear hfin h4 h3 hr1 ho h2 hsrc hone q1 hr h0
  go_wp2_with fail
  go_ret
  exact ⟨rfl, Hfin.out⟩

theorem St.freezeHead {W w : World} {I : Nat → Option Obj} {g n : Nat} {o : Obj} {F : List (Nat × Obj)} (h : St W w I ((g, o) :: F)) (i : Nat) : St W (w.freeze ⟨g, i, none⟩ n) I F := by
  unfold World.freeze
  split
  · exact St.weaken (A := [_]) h
  · have hF := St.weaken (A := [_]) h
    have hn := h.nodup
    simp only [List.map_cons, List.nodup_cons] at hn
    refine ⟨h.os, h.tape, h.output, fun p hp => ?_, hF.nodup, fun b o' hb => ?_, hF.apart⟩
    · have hne : g ≠ p.1 := fun e => hn.1 (e ▸ List.mem_map_of_mem hp)
      simp only [Array.getElem?_modify]
      rw [if_neg hne]
      exact hF.own p hp
    · have hne : g ≠ b := by
        rintro rfl
        have := h.apart (g, o) (by simp)
        simp only at this
        rw [this] at hb
        cases hb
      simp only [Array.getElem?_modify]
      rw [if_neg hne]
      exact h.imm b o' hb

set_option maxRecDepth 100000 in
set_option maxHeartbeats 1000000 in
theorem bldString {W w : World} {I : Nat → Option Obj} {sb : Nat} {bs : List UInt8} {F : List (Nat × Obj)} (h : BldSt W w I sb bs F) (hne : bs ≠ []) :
    Calls Tryd.prog 59 #[.pointer (some ⟨sb, 0, none⟩)] w fun e w' => e = .returned (.string ⟨bs.toArray⟩) ∧ St W w' I F := by
  obtain ⟨A0, A, c, Lr, hA, hr, h0, hst⟩ := h
  have hlen : 0 < bs.length := by cases bs with | nil => exact absurd rfl hne | cons _ _ => simp
  obtain ⟨hl, ⟨_, hz, _⟩ | ⟨g, off, cap, cur, hv, rfl, hnc, hcm, hsz, hx⟩⟩ := id hr
  · omega
  injection hv with hv1 _ hv2
  subst hv1; subst hv2
  obtain rfl := h0 _ _ _ _ rfl
  have hst' : St W w I ([(g, .cells cur 5 (0, 0))] ++ ([(sb, .cells #[A0, .slice (some ⟨g, 0, none⟩) bs.length c] 106 (0, 0))] ++ F)) := St.swap (A := [(sb, _)]) hst
  have c1 : w.drew.cell? ⟨sb, 1, none⟩ = some (.slice (some ⟨g, 0, none⟩) bs.length c) := hst.drew1.cell (g := sb) (cs := #[A0, .slice (some ⟨g, 0, none⟩) bs.length c]) (t := 106) (fr := (0, 0)) (by simp) 1
  have hg : w.heap[g]? = some (.cells cur 5 (0, 0)) := hst'.own (g, .cells cur 5 (0, 0)) (by simp)
  have hSD : (Builtin.unsafeSliceData_ #[104] 135 #[.slice (some ⟨g, 0, none⟩) bs.length c]).run Tryd.prog w.drew = .ok (.pointer (some ⟨g, 0, none⟩)) w.drew :=
    Lib.run_unsafeSliceData_row _ _ _ _ _ _ (by omega)
  have hUS : (Builtin.unsafeString_ #[135, 3] 9 #[.pointer (some ⟨g, 0, none⟩), .int .i64 bs.length]).run Tryd.prog w.drew = .ok (.string ⟨bs.toArray⟩) (w.drew.freeze ⟨g, 0, none⟩ bs.length) := by
    refine Lib.run_unsafeString_row (w := w.drew) 135 3 9 5 Tryd.underlying135 (by kernel_rfl) g cur.size (bldShape hg) bs hne (by omega) (by unfold maxLen at hcm; omega) ?_
    intro j x hj
    obtain ⟨ad, e, hc⟩ := (hr.src (fun p hp => hst.drew1.own p (by simp at hp; simp [hp]))).2 j (.int .u8 x.toNat) (by rw [List.getElem?_map, hj]; rfl)
    injection e with e
    rw [e]
    exact hc
  have fin : St W (w.drew.freeze ⟨g, 0, none⟩ bs.length) I F := St.weaken (A := [_]) (St.freezeHead hst'.drew1 0)
  have Fin := Lib.hid fin
  clear fin hst hst' hg hr h0 hl hx hsz hne
  generalize w.drew.freeze ⟨g, 0, none⟩ bs.length = w9 at *
  generalize bs.length = nb at *
  go_enter Tryd.func59, Tryd.ntmps59
  go_wp2_with fail
  go_region
  all_goals
    go_wp2_with fail
    go_ret
    exact ⟨rfl, Fin.out⟩
end

section
set_option linter.unusedVariables false
set_option linter.unusedSimpArgs false
open Go.RowKit Go.Lib

section
variable {P : Program} {W w : World} {I : Nat → Option Obj} {F L : List (Nat × Obj)}
theorem sL_cells (s : ByteArray) : (s.data.map (fun b => Value.int .u8 b.toNat)).toList = s.data.toList.map bval := by
  rw [Array.toList_map]
  rfl
theorem run_firstCells_sl (s : ByteArray) (w : World) : (Builtin.firstCells 1 s.size (.string s)).run P w = .ok (s.data.toList.map bval).toArray w := by
  have hx : s.extract 0 s.size = s := by simp
  simp only [Builtin.firstCells, hx]
  rw [← sL_cells, Array.toArray_toList]
  rfl
/-- append of a text onto a row of bytes of the proof's own. -/
theorem run_append_s0 (t u ty e : TypeId) (z : Value) (bytes : Nat) (ht : P.underlying t = some (.slice e)) (hu : P.underlying u = some .string) (hi : (P.info? e).map (fun i => (i.zero, i.size, i.bytes)) = some (some z, 1, bytes)) (hzs : z.cells.size = 1)
    {v : Value} {n : Nat} {xs : List Value} (hrow : Row e 1 v n xs L) (hst : St W w I (L ++ F)) (s : ByteArray) (h63 : n + s.size ≤ maxLen) (hbytes : (n + s.size) * bytes ≤ 140737488355328) :
    ∃ v' w' L', (Builtin.append_ #[t, u] ty #[v, .string s]).run P w = .ok v' w' ∧ Row e 1 v' (n + s.size) (xs ++ s.data.toList.map bval) L' ∧ St W w' I (L' ++ F) ∧ (Off0 v → Off0 v') := by
  obtain ⟨i, hi0, hz, hsize, hby⟩ := info_parts hi
  subst hby
  have hsmall : n + s.size ≤ 9223372036854775807 := by simp only [maxLen] at h63; omega
  have hnl : (s.data.toList.map bval).length = s.size := by rw [List.length_map, Array.length_toList]; rfl
  have hxn := hrow.1
  have hlen : (xs ++ s.data.toList.map bval).length = (n + s.size) * 1 := by rw [List.length_append, hrow.1, hnl]; omega
  have hone : ∀ u ∈ s.data.toList.map bval, u.oneCell' = true := by intro u hu; obtain ⟨b, _, rfl⟩ := List.mem_map.1 hu; rfl
  have hf := fun w => run_firstCells_sl (P := P) s w
  generalize hnews : s.data.toList.map bval = news at *
  have grown : ∀ old, old < n + s.size → Row e 1 (.slice (some ⟨w.heap.size, 0, none⟩) (n + s.size) (grownCap w (n + s.size) old e)) (n + s.size) (xs ++ news) [(w.heap.size, .cells (xs.toArray ++ news.toArray ++ Builtin.zeroCells z.cells (grownCap w (n + s.size) old e - (n + s.size))) e (0, 0))] ∧
      St W (w.drew.alloc (.cells (xs.toArray ++ news.toArray ++ Builtin.zeroCells z.cells (grownCap w (n + s.size) old e - (n + s.size))) e)) I ([(w.heap.size, .cells (xs.toArray ++ news.toArray ++ Builtin.zeroCells z.cells (grownCap w (n + s.size) old e - (n + s.size))) e (0, 0))] ++ F) := by
    intro old ho
    have hge := grownCap_ge w (n + s.size) old e
    refine ⟨⟨hlen, .inr ⟨w.heap.size, 0, _, _, rfl, rfl, hge, grownCap_le h63, ?_, ?_⟩⟩, (St.weaken hst).drew1.alloc _⟩
    · simp only [Array.size_append, List.size_toArray, size_zeroCells, hzs, hrow.1, hnl, Nat.zero_add]
      omega
    · simp only [Array.toList_append, List.append_assoc, List.drop_zero]
      rw [← List.append_assoc, ← hlen]
      exact List.take_left
  obtain ⟨hxl, ⟨rfl, rfl, rfl⟩ | ⟨g, off, cap, cur, rfl, rfl, hnc, hcm, hfit, hx⟩⟩ := hrow
  · have hx : xs = [] := List.eq_nil_of_length_eq_zero (by simpa using hxl)
    subst hx
    by_cases h0 : s.size = 0
    · have hnil : news = [] := List.eq_nil_of_length_eq_zero (by omega)
      subst hnil
      refine ⟨.slice none 0 0, w, [], ?_, by rw [h0]; exact Row.nil e 1, by simpa using hst, fun h => h⟩
      simp [Builtin.append_, run_underlying ht, run_underlying hu, sizeOf, typeInfo, hi0, Builtin.lenOf, h0, Builtin.firstCells]
    · have hr := run_append_nil_string (P := P) (w := w) t u ty e i z ht hu hi0 hz s (by omega) (by omega) (by simp only [Nat.zero_add] at hbytes; omega)
      have hgr := grown 0 (by omega)
      simp only [Nat.zero_add, List.nil_append] at hgr ⊢
      refine ⟨_, _, _, hr, hgr.1, ?_, fun _ => Off0.head⟩
      have e1 : s.data.map (fun b => Value.int .u8 b.toNat) = news.toArray := by
        rw [← hnews, ← sL_cells]
      rw [e1]
      simpa using hgr.2
  · by_cases hroom : n + s.size ≤ cap
    · have hg : w.heap[g]? = some (.cells cur e (0, 0)) := hst.own (g, .cells cur e (0, 0)) (by simp)
      have hcs : off + n * 1 + news.length ≤ cur.size := by omega
      have hs := run_storeCells_at P g (off + n * 1) e news 0 cur w hg (by simpa using hcs) hone
      simp only [Nat.add_zero] at hs
      refine ⟨.slice (some ⟨g, off, none⟩) (n + s.size) cap, _, _, ?_, ⟨hlen, .inr ⟨g, off, cap, (cur.toList.take (off + n * 1) ++ news ++ cur.toList.drop (off + n * 1 + news.length)).toArray, rfl, rfl, hroom, hcm, ?_, ?_⟩⟩, St.setRow (F := F) hst _, fun h => fun g' o' n' c' e => by cases e; exact h _ _ _ _ rfl⟩
      · simp [Builtin.append_, run_underlying ht, run_underlying hu, sizeOf, typeInfo, hi0, hsize, Builtin.lenOf, hroom, hf, Addr.add_lit]
        simp at hs
        simp [hs]
      · simp only [List.size_toArray, List.length_append, List.length_take, List.length_drop, Array.length_toList]
        omega
      · have e1 : (cur.toList.take (off + n * 1)).drop off = xs := by
          rw [List.drop_take, show off + n * 1 - off = n * 1 by omega]
          exact hx
        have e2 : off ≤ (cur.toList.take (off + n * 1)).length := by simp; omega
        simp only [List.append_assoc]
        rw [List.drop_append_of_le_length e2, e1, ← List.append_assoc, ← hlen]
        exact List.take_left
    · have holds : ∀ j u, xs[j]? = some u → w.cell? ((⟨g, off, none⟩ : Addr).add j) = some u := by
        intro j u hj
        have hrow : Row e 1 (.slice (some ⟨g, off, none⟩) n cap) n xs [(g, .cells cur e (0, 0))] := ⟨hxl, .inr ⟨g, off, cap, cur, rfl, rfl, hnc, hcm, hfit, hx⟩⟩
        obtain ⟨ad', h, h'⟩ := (hrow.src fun p hp => hst.own p (List.mem_append.2 (.inl hp))).2 j u hj
        injection h with h
        subst h
        exact h'
      have hgr := grown cap (by omega)
      refine ⟨_, _, _, ?_, hgr.1, hgr.2, fun _ => Off0.head⟩
      have hn : ¬ (n + s.size ≤ cap) := by omega
      have h63' : ¬ (9223372036854775807 < ((n : Int) + (s.size : Int))) := by omega
      have hgf : Builtin.nextslicecap (n + s.size) cap * i.bytes ≤ 281474976710656 := growslice_fits (by omega) hbytes
      have h48' : ¬ (281474976710656 < Builtin.nextslicecap (n + s.size) cap * i.bytes) := by omega
      have hfo := run_firstCells_some (P := P) w.drew 1 n ⟨g, off, none⟩ n cap xs hxl (by simpa using holds)
      simp [Builtin.append_, run_underlying ht, run_underlying hu, sizeOf, typeInfo, zeroValue, hi0, hz, hsize, Builtin.lenOf, hn, h63', h48', Question.forced, hf, hfo, newRow, grownCap]
      congr 2
      apply Array.ext'
      simp [List.append_assoc]
end

theorem wpList_append_s0 {P : Program} {W w : World} {I : Nat → Option Obj} {F L : List (Nat × Obj)} {ops : Array Oper} {rest : List Oper} {o : Oper} {a : Act} {Q : Exit → Act → World → Prop} (hgd : o.guard = none) (s x : Operand) (t u : TypeId)
    (ho : o.op = .call { callee := .builtin .append, args := #[s, x], argTypes := #[t, u] })
    (e : TypeId) (z : Value) (bytes : Nat) (ht : P.underlying t = some (.slice e)) (hu : P.underlying u = some .string) (hi : (P.info? e).map (fun i => (i.zero, i.size, i.bytes)) = some (some z, 1, bytes)) (hzs : z.cells.size = 1)
    {v : Value} {n : Nat} {xs : List Value} (hs : a.eval s = v) (hrow : Row e 1 v n xs L) (hst : St W w I (L ++ F)) (str : ByteArray) (hx : a.eval x = .string str)
    (k : Nat) (hk : n + str.size = k) (ys : List Value) (hys : xs ++ str.data.toList.map bval = ys) (h63 : k ≤ maxLen) (hbytes : k * bytes ≤ 140737488355328)
    (h : ∀ A' c' w' L', Row e 1 (.slice A' k c') k ys L' → St W w' I (L' ++ F) → (Off0 v → Off0 (.slice A' k c')) → wpList P ops Q rest (a.put o.dst (.slice A' k c')) w') : wpList P ops Q (o :: rest) a w := by
  subst hk
  subst hys
  refine wpList_plain hgd fun K hK => ?_
  obtain ⟨v', w', L', hr, h2, h3, h4⟩ := run_append_s0 (P := P) t u o.type e z bytes ht hu hi hzs hrow hst str h63 hbytes
  unfold Oper.wp execOp
  simp only [ho, resolve, invoke, builtin, Sem.run_bind, Sem.run_pure, Result.andThen_ok, List.map_toArray, List.map_cons, List.map_nil, hs, hx, hr]
  obtain ⟨A', c', rfl⟩ := h2.shape
  exact hK _ _ (h A' c' w' L' h2 h3 h4)

def sL (s : ByteArray) : List UInt8 := s.data.toList
set_option maxRecDepth 100000 in
set_option maxHeartbeats 1000000 in
theorem bldWs {W w : World} {I : Nat → Option Obj} {sb : Nat} {bs : List UInt8} {F : List (Nat × Obj)} (str : ByteArray) (h : BldSt W w I sb bs F) (hlen : bs.length + str.size ≤ 140737488355328) :
    Calls Tryd.prog 57 #[.pointer (some ⟨sb, 0, none⟩), .string str] w fun e w' => ∃ v, e = .returned v ∧ BldSt W w' I sb (bs ++ sL str) F := by
  obtain ⟨A0, A, c, Lr, hA, hr, h0, hst⟩ := h
  go_enter Tryd.func57, Tryd.ntmps57
  go_wp2_with fail
  refine (bldCheck hA hst).mono ?_
  rintro e w1 ⟨rfl, h1⟩
  have q1 : w1.cell? ⟨sb, 1, none⟩ = some (.slice A bs.length c) := h1.cell (g := sb) (cs := #[.pointer (some ⟨sb, 0, none⟩), .slice A bs.length c]) (t := 106) (fr := (0, 0)) (by simp) 1
  have h2 : St W w1 I (Lr ++ ((sb, .cells #[.pointer (some ⟨sb, 0, none⟩), .slice A bs.length c] 106 (0, 0)) :: F)) := St.swap (A := [(sb, _)]) h1
  clear hst hA
  have H2 := Lib.hid h2; have HO := Lib.hid h0; have HR := Lib.hid hr
  clear h1 h2 h0 hr
  obtain ⟨N, hN⟩ : ∃ N, str.size = N := ⟨_, rfl⟩
  rw [hN] at hlen
  have HN := Lib.hid hN
  clear hN
  go_wp2_with (at_builtin; refine Hid.out ?_)
  refine Lib.hid ?_
  refine wpList_append_s0 (F := (sb, .cells #[.pointer (some ⟨sb, 0, none⟩), .slice A bs.length c] 106 (0, 0)) :: F) rfl (.tmp 12) (.tmp 13) 104 9 rfl 5 (.int .u8 0) 1 Tryd.underlying104 Tryd.underlying9 (by kernel_rfl) rfl rfl HR.out H2.out str rfl (bs.length + N) (by rw [HN.out]) ((bs ++ sL str).map bval) (by rw [List.map_append]; rfl) (by unfold maxLen; omega) (by omega) ?_
  intro A1 c1 w2 L1 hr1 h3 ho
  have q2 : w2.cell? ⟨sb, 1, none⟩ = some (.slice A bs.length c) := h3.cell (g := sb) (cs := #[.pointer (some ⟨sb, 0, none⟩), .slice A bs.length c]) (t := 106) (fr := (0, 0)) (by simp) 1
  have f2 : w2.frozen? ⟨sb, 1, none⟩ = false := h3.frozen (g := sb) (cs := #[.pointer (some ⟨sb, 0, none⟩), .slice A bs.length c]) (t := 106) (by simp) 1
  have h4 : St W (w2.setCell ⟨sb, 1, none⟩ (.slice A1 (bs.length + N) c1)) I ((sb, .cells #[.pointer (some ⟨sb, 0, none⟩), .slice A1 (bs.length + N) c1] 106 (0, 0)) :: (L1 ++ F)) := St.set (A := []) (St.swap (B := [(sb, _)]) h3) 1 _
  have hl : (bs ++ sL str).length = bs.length + N := by rw [List.length_append, ← HN.out]; rfl
  have hfin : BldSt W (w2.setCell ⟨sb, 1, none⟩ (.slice A1 (bs.length + N) c1)) I sb (bs ++ sL str) F := by
    refine ⟨_, A1, c1, L1, .inr rfl, ?_, ?_, ?_⟩ <;> rw [hl]
    · exact hr1
    · exact ho HO.out
    · exact h4
  have Hfin := Lib.hid hfin
  clear hfin h4 h3 hr1 ho H2 HO HR q1 hl
  go_wp2_with fail
  go_ret2
  exact ⟨_, rfl, Hfin.out⟩

set_option maxRecDepth 100000 in
set_option maxHeartbeats 1000000 in
theorem bldWr {W w : World} {I : Nat → Option Obj} {sb : Nat} {bs : List UInt8} {F : List (Nat × Obj)} (p : Part) (hp : p.In W I) (h : BldSt W w I sb bs F) (hlen : bs.length + p.bs.length ≤ 140737488355328) :
    Calls Tryd.prog 55 #[.pointer (some ⟨sb, 0, none⟩), .slice p.A p.bs.length p.c] w fun e w' => ∃ v, e = .returned v ∧ BldSt W w' I sb (bs ++ p.bs) F := by
  obtain ⟨A0, A, c, Lr, hA, hr, h0, hst⟩ := h
  obtain ⟨AP, cP, xs⟩ := p
  simp only at hlen ⊢
  go_enter Tryd.func55, Tryd.ntmps55
  go_wp2_with fail
  refine (bldCheck hA hst).mono ?_
  rintro e w1 ⟨rfl, h1⟩
  have q1 : w1.cell? ⟨sb, 1, none⟩ = some (.slice A bs.length c) := h1.cell (g := sb) (cs := #[.pointer (some ⟨sb, 0, none⟩), .slice A bs.length c]) (t := 106) (fr := (0, 0)) (by simp) 1
  have h2 : St W w1 I (Lr ++ ((sb, .cells #[.pointer (some ⟨sb, 0, none⟩), .slice A bs.length c] 106 (0, 0)) :: F)) := St.swap (A := [(sb, _)]) h1
  have hsrc := hp _ _ h1
  simp only at hsrc
  clear hst hA
  have H2 := Lib.hid h2; have HO := Lib.hid h0; have HR := Lib.hid hr; have HSRC := Lib.hid hsrc
  clear h1 h2 h0 hr hsrc
  go_wp2_with (at_builtin; refine Hid.out ?_)
  refine Lib.hid ?_
  refine wpList_append_row0 (F := (sb, .cells #[.pointer (some ⟨sb, 0, none⟩), .slice A bs.length c] 106 (0, 0)) :: F) rfl (.tmp 12) (.tmp 13) _ rfl 5 (.int .u8 0) 1 1 Tryd.underlying104 (by kernel_rfl) rfl (by omega) rfl HR.out H2.out rfl HSRC.out (by intro u hu; obtain ⟨b, _, rfl⟩ := List.mem_map.1 hu; rfl) (bs.length + xs.length) rfl ((bs ++ xs).map bval) (by rw [List.map_append]) (by unfold maxLen; omega) (by omega) ?_
  intro A1 c1 w2 L1 hr1 h3 ho
  have q2 : w2.cell? ⟨sb, 1, none⟩ = some (.slice A bs.length c) := h3.cell (g := sb) (cs := #[.pointer (some ⟨sb, 0, none⟩), .slice A bs.length c]) (t := 106) (fr := (0, 0)) (by simp) 1
  have f2 : w2.frozen? ⟨sb, 1, none⟩ = false := h3.frozen (g := sb) (cs := #[.pointer (some ⟨sb, 0, none⟩), .slice A bs.length c]) (t := 106) (by simp) 1
  have h4 : St W (w2.setCell ⟨sb, 1, none⟩ (.slice A1 (bs.length + xs.length) c1)) I ((sb, .cells #[.pointer (some ⟨sb, 0, none⟩), .slice A1 (bs.length + xs.length) c1] 106 (0, 0)) :: (L1 ++ F)) := St.set (A := []) (St.swap (B := [(sb, _)]) h3) 1 _
  have hl : (bs ++ xs).length = bs.length + xs.length := List.length_append
  have hfin : BldSt W (w2.setCell ⟨sb, 1, none⟩ (.slice A1 (bs.length + xs.length) c1)) I sb (bs ++ xs) F := by
    refine ⟨_, A1, c1, L1, .inr rfl, ?_, ?_, ?_⟩ <;> rw [hl]
    · exact hr1
    · exact ho HO.out
    · exact h4
  have Hfin := Lib.hid hfin
  clear hfin h4 h3 hr1 ho H2 HO HR HSRC q1 hl
  go_wp2_with fail
  go_ret2
  exact ⟨_, rfl, Hfin.out⟩
end

section
set_option linter.unusedVariables false
set_option linter.unusedSimpArgs false
open Go.RowKit Go.Lib

theorem Src.alloc_ (w : World) (xs : List Value) (t : TypeId) : Src (w.alloc (.cells xs.toArray t)) 1 (some ⟨w.heap.size, 0, none⟩) xs.length xs := by
  refine ⟨by simp, fun j u hj => ⟨_, rfl, ?_⟩⟩
  rw [show (⟨w.heap.size, 0, none⟩ : Addr).add j = ⟨w.heap.size, j, none⟩ by unfold Addr.add; split <;> simp_all]
  exact cell_new rfl (by simpa using hj)

set_option maxRecDepth 100000 in
set_option maxHeartbeats 1000000 in
theorem na_two {W w : World} {I : Nat → Option Obj} {F Lr : List (Nat × Obj)} {v : Value} {n : Nat} {xs : List Value} (r : Int) (h0 : 128 ≤ r) (h1 : r ≤ 2047) (hr : Row 5 1 v n xs Lr) (h : St W w I (Lr ++ F)) (hlen : n + 4 ≤ 140737488355328) :
    Calls Tryd.prog 93 #[v, .int .i32 r] w fun e w' => ∃ A c L', e = .returned (.slice A (n + 2) c) ∧ Row 5 1 (.slice A (n + 2) c) (n + 2) (xs ++ [.int .u8 (192 + r / 64), .int .u8 (128 + r % 64)]) L' ∧ (Off0 v → Off0 (.slice A (n + 2) c)) ∧ St W w' I (L' ++ F) := by
  have hsrc := Src.alloc_ w [.int .u8 (192 + r / 64), .int .u8 (128 + r % 64)] 5
  have h2 : St W (w.alloc (.cells #[.int .u8 (192 + r / 64), .int .u8 (128 + r % 64)] 5)) I (Lr ++ F) := St.alloc_ h _
  have hone : ∀ u ∈ ([.int .u8 (192 + r / 64), .int .u8 (128 + r % 64)] : List Value), u.oneCell' = true := by simp [Value.oneCell']
  obtain ⟨A0, c0, rfl⟩ := hr.shape
  go_enter Tryd.func93, Tryd.ntmps93
  go_wp2_with (at_builtin; refine Hid.out ?_)
  refine Lib.hid ?_
  refine wpList_append_row0 (F := F) rfl (.tmp 14) (.tmp 23) 104 rfl 5 (.int .u8 0) 1 1 Tryd.underlying104 (by kernel_rfl) rfl (by omega) rfl hr (by exact h2) rfl (by exact hsrc) hone (n + 2) rfl (xs ++ [.int .u8 (192 + r / 64), .int .u8 (128 + r % 64)]) rfl (by unfold maxLen; omega) (by omega) ?_
  intro A1 c1 w2 L1 hr1 h3 ho
  have H3 := Lib.hid h3; have HR := Lib.hid hr1; have HO := Lib.hid ho
  clear h3 hr1 ho h2 hsrc hr h hone
  go_wp2_with fail
  go_ret
  exact ⟨_, _, _, rfl, HR.out, HO.out, H3.out⟩

set_option maxRecDepth 100000 in
set_option maxHeartbeats 1000000 in
theorem na_three_lo {W w : World} {I : Nat → Option Obj} {F Lr : List (Nat × Obj)} {v : Value} {n : Nat} {xs : List Value} (r : Int) (h0 : 2048 ≤ r) (h1 : r < 55296) (hr : Row 5 1 v n xs Lr) (h : St W w I (Lr ++ F)) (hlen : n + 4 ≤ 140737488355328) :
    Calls Tryd.prog 93 #[v, .int .i32 r] w fun e w' => ∃ A c L', e = .returned (.slice A (n + 3) c) ∧ Row 5 1 (.slice A (n + 3) c) (n + 3) (xs ++ [.int .u8 (224 + r / 4096), .int .u8 (128 + r / 64 % 64), .int .u8 (128 + r % 64)]) L' ∧ (Off0 v → Off0 (.slice A (n + 3) c)) ∧ St W w' I (L' ++ F) := by
  have hsrc := Src.alloc_ w [.int .u8 (224 + r / 4096), .int .u8 (128 + r / 64 % 64), .int .u8 (128 + r % 64)] 5
  have h2 : St W (w.alloc (.cells #[.int .u8 (224 + r / 4096), .int .u8 (128 + r / 64 % 64), .int .u8 (128 + r % 64)] 5)) I (Lr ++ F) := St.alloc_ h _
  have hone : ∀ u ∈ ([.int .u8 (224 + r / 4096), .int .u8 (128 + r / 64 % 64), .int .u8 (128 + r % 64)] : List Value), u.oneCell' = true := by simp [Value.oneCell']
  obtain ⟨A0, c0, rfl⟩ := hr.shape
  go_enter Tryd.func93, Tryd.ntmps93
  go_wp2_with (at_builtin; refine Hid.out ?_)
  refine Lib.hid ?_
  refine wpList_append_row0 (F := F) rfl (.tmp 34) (.tmp 48) 104 rfl 5 (.int .u8 0) 1 1 Tryd.underlying104 (by kernel_rfl) rfl (by omega) rfl hr (by exact h2) rfl (by exact hsrc) hone (n + 3) rfl (xs ++ [.int .u8 (224 + r / 4096), .int .u8 (128 + r / 64 % 64), .int .u8 (128 + r % 64)]) rfl (by unfold maxLen; omega) (by omega) ?_
  intro A1 c1 w2 L1 hr1 h3 ho
  have H3 := Lib.hid h3; have HR := Lib.hid hr1; have HO := Lib.hid ho
  clear h3 hr1 ho h2 hsrc hr h hone
  go_wp2_with fail
  go_ret
  exact ⟨_, _, _, rfl, HR.out, HO.out, H3.out⟩

set_option maxRecDepth 100000 in
set_option maxHeartbeats 1000000 in
theorem na_three_hi {W w : World} {I : Nat → Option Obj} {F Lr : List (Nat × Obj)} {v : Value} {n : Nat} {xs : List Value} (r : Int) (h0 : 57343 < r) (h1 : r ≤ 65535) (hr : Row 5 1 v n xs Lr) (h : St W w I (Lr ++ F)) (hlen : n + 4 ≤ 140737488355328) :
    Calls Tryd.prog 93 #[v, .int .i32 r] w fun e w' => ∃ A c L', e = .returned (.slice A (n + 3) c) ∧ Row 5 1 (.slice A (n + 3) c) (n + 3) (xs ++ [.int .u8 (224 + r / 4096), .int .u8 (128 + r / 64 % 64), .int .u8 (128 + r % 64)]) L' ∧ (Off0 v → Off0 (.slice A (n + 3) c)) ∧ St W w' I (L' ++ F) := by
  have hsrc := Src.alloc_ w [.int .u8 (224 + r / 4096), .int .u8 (128 + r / 64 % 64), .int .u8 (128 + r % 64)] 5
  have h2 : St W (w.alloc (.cells #[.int .u8 (224 + r / 4096), .int .u8 (128 + r / 64 % 64), .int .u8 (128 + r % 64)] 5)) I (Lr ++ F) := St.alloc_ h _
  have hone : ∀ u ∈ ([.int .u8 (224 + r / 4096), .int .u8 (128 + r / 64 % 64), .int .u8 (128 + r % 64)] : List Value), u.oneCell' = true := by simp [Value.oneCell']
  obtain ⟨A0, c0, rfl⟩ := hr.shape
  go_enter Tryd.func93, Tryd.ntmps93
  go_wp2_with (at_builtin; refine Hid.out ?_)
  refine Lib.hid ?_
  refine wpList_append_row0 (F := F) rfl (.tmp 34) (.tmp 48) 104 rfl 5 (.int .u8 0) 1 1 Tryd.underlying104 (by kernel_rfl) rfl (by omega) rfl hr (by exact h2) rfl (by exact hsrc) hone (n + 3) rfl (xs ++ [.int .u8 (224 + r / 4096), .int .u8 (128 + r / 64 % 64), .int .u8 (128 + r % 64)]) rfl (by unfold maxLen; omega) (by omega) ?_
  intro A1 c1 w2 L1 hr1 h3 ho
  have H3 := Lib.hid h3; have HR := Lib.hid hr1; have HO := Lib.hid ho
  clear h3 hr1 ho h2 hsrc hr h hone
  go_wp2_with fail
  go_ret
  exact ⟨_, _, _, rfl, HR.out, HO.out, H3.out⟩

set_option maxRecDepth 100000 in
set_option maxHeartbeats 1000000 in
theorem na_four {W w : World} {I : Nat → Option Obj} {F Lr : List (Nat × Obj)} {v : Value} {n : Nat} {xs : List Value} (r : Int) (h0 : 65536 ≤ r) (h1 : r ≤ 1114111) (hr : Row 5 1 v n xs Lr) (h : St W w I (Lr ++ F)) (hlen : n + 4 ≤ 140737488355328) :
    Calls Tryd.prog 93 #[v, .int .i32 r] w fun e w' => ∃ A c L', e = .returned (.slice A (n + 4) c) ∧ Row 5 1 (.slice A (n + 4) c) (n + 4) (xs ++ [.int .u8 (240 + r / 262144), .int .u8 (128 + r / 4096 % 64), .int .u8 (128 + r / 64 % 64), .int .u8 (128 + r % 64)]) L' ∧ (Off0 v → Off0 (.slice A (n + 4) c)) ∧ St W w' I (L' ++ F) := by
  have hsrc := Src.alloc_ w [.int .u8 (240 + r / 262144), .int .u8 (128 + r / 4096 % 64), .int .u8 (128 + r / 64 % 64), .int .u8 (128 + r % 64)] 5
  have h2 : St W (w.alloc (.cells #[.int .u8 (240 + r / 262144), .int .u8 (128 + r / 4096 % 64), .int .u8 (128 + r / 64 % 64), .int .u8 (128 + r % 64)] 5)) I (Lr ++ F) := St.alloc_ h _
  have hone : ∀ u ∈ ([.int .u8 (240 + r / 262144), .int .u8 (128 + r / 4096 % 64), .int .u8 (128 + r / 64 % 64), .int .u8 (128 + r % 64)] : List Value), u.oneCell' = true := by simp [Value.oneCell']
  obtain ⟨A0, c0, rfl⟩ := hr.shape
  go_enter Tryd.func93, Tryd.ntmps93
  go_wp2_with (at_builtin; refine Hid.out ?_)
  refine Lib.hid ?_
  refine wpList_append_row0 (F := F) rfl (.tmp 57) (.tmp 76) 104 rfl 5 (.int .u8 0) 1 1 Tryd.underlying104 (by kernel_rfl) rfl (by omega) rfl hr (by exact h2) rfl (by exact hsrc) hone (n + 4) rfl (xs ++ [.int .u8 (240 + r / 262144), .int .u8 (128 + r / 4096 % 64), .int .u8 (128 + r / 64 % 64), .int .u8 (128 + r % 64)]) rfl (by unfold maxLen; omega) (by omega) ?_
  intro A1 c1 w2 L1 hr1 h3 ho
  have H3 := Lib.hid h3; have HR := Lib.hid hr1; have HO := Lib.hid ho
  clear h3 hr1 ho h2 hsrc hr h hone
  go_wp2_with fail
  go_ret
  exact ⟨_, _, _, rfl, HR.out, HO.out, H3.out⟩

set_option maxRecDepth 100000 in
set_option maxHeartbeats 1000000 in
theorem na_neg {W w : World} {I : Nat → Option Obj} {F Lr : List (Nat × Obj)} {v : Value} {n : Nat} {xs : List Value} (r : Int) (h0 : -2147483648 ≤ r) (h1 : r < 0) (hr : Row 5 1 v n xs Lr) (h : St W w I (Lr ++ F)) (hlen : n + 4 ≤ 140737488355328) :
    Calls Tryd.prog 93 #[v, .int .i32 r] w fun e w' => ∃ A c L', e = .returned (.slice A (n + 3) c) ∧ Row 5 1 (.slice A (n + 3) c) (n + 3) (xs ++ [.int .u8 (239), .int .u8 (191), .int .u8 (189)]) L' ∧ (Off0 v → Off0 (.slice A (n + 3) c)) ∧ St W w' I (L' ++ F) := by
  have hsrc := Src.alloc_ w [.int .u8 (239), .int .u8 (191), .int .u8 (189)] 5
  have h2 : St W (w.alloc (.cells #[.int .u8 (239), .int .u8 (191), .int .u8 (189)] 5)) I (Lr ++ F) := St.alloc_ h _
  have hone : ∀ u ∈ ([.int .u8 (239), .int .u8 (191), .int .u8 (189)] : List Value), u.oneCell' = true := by simp [Value.oneCell']
  obtain ⟨A0, c0, rfl⟩ := hr.shape
  go_enter Tryd.func93, Tryd.ntmps93
  go_wp2_with (at_builtin; refine Hid.out ?_)
  refine Lib.hid ?_
  refine wpList_append_row0 (F := F) rfl (.tmp 8) (.tmp 9) 104 rfl 5 (.int .u8 0) 1 1 Tryd.underlying104 (by kernel_rfl) rfl (by omega) rfl hr (by exact h2) rfl (by exact hsrc) hone (n + 3) rfl (xs ++ [.int .u8 (239), .int .u8 (191), .int .u8 (189)]) rfl (by unfold maxLen; omega) (by omega) ?_
  intro A1 c1 w2 L1 hr1 h3 ho
  have H3 := Lib.hid h3; have HR := Lib.hid hr1; have HO := Lib.hid ho
  clear h3 hr1 ho h2 hsrc hr h hone
  go_wp2_with fail
  go_ret
  exact ⟨_, _, _, rfl, HR.out, HO.out, H3.out⟩

set_option maxRecDepth 100000 in
set_option maxHeartbeats 1000000 in
theorem na_sur {W w : World} {I : Nat → Option Obj} {F Lr : List (Nat × Obj)} {v : Value} {n : Nat} {xs : List Value} (r : Int) (h0 : 55296 ≤ r) (h1 : r ≤ 57343) (hr : Row 5 1 v n xs Lr) (h : St W w I (Lr ++ F)) (hlen : n + 4 ≤ 140737488355328) :
    Calls Tryd.prog 93 #[v, .int .i32 r] w fun e w' => ∃ A c L', e = .returned (.slice A (n + 3) c) ∧ Row 5 1 (.slice A (n + 3) c) (n + 3) (xs ++ [.int .u8 (239), .int .u8 (191), .int .u8 (189)]) L' ∧ (Off0 v → Off0 (.slice A (n + 3) c)) ∧ St W w' I (L' ++ F) := by
  have hsrc := Src.alloc_ w [.int .u8 (239), .int .u8 (191), .int .u8 (189)] 5
  have h2 : St W (w.alloc (.cells #[.int .u8 (239), .int .u8 (191), .int .u8 (189)] 5)) I (Lr ++ F) := St.alloc_ h _
  have hone : ∀ u ∈ ([.int .u8 (239), .int .u8 (191), .int .u8 (189)] : List Value), u.oneCell' = true := by simp [Value.oneCell']
  obtain ⟨A0, c0, rfl⟩ := hr.shape
  go_enter Tryd.func93, Tryd.ntmps93
  go_wp2_with (at_builtin; refine Hid.out ?_)
  refine Lib.hid ?_
  refine wpList_append_row0 (F := F) rfl (.tmp 8) (.tmp 9) 104 rfl 5 (.int .u8 0) 1 1 Tryd.underlying104 (by kernel_rfl) rfl (by omega) rfl hr (by exact h2) rfl (by exact hsrc) hone (n + 3) rfl (xs ++ [.int .u8 (239), .int .u8 (191), .int .u8 (189)]) rfl (by unfold maxLen; omega) (by omega) ?_
  intro A1 c1 w2 L1 hr1 h3 ho
  have H3 := Lib.hid h3; have HR := Lib.hid hr1; have HO := Lib.hid ho
  clear h3 hr1 ho h2 hsrc hr h hone
  go_wp2_with fail
  go_ret
  exact ⟨_, _, _, rfl, HR.out, HO.out, H3.out⟩

set_option maxRecDepth 100000 in
set_option maxHeartbeats 1000000 in
theorem na_big {W w : World} {I : Nat → Option Obj} {F Lr : List (Nat × Obj)} {v : Value} {n : Nat} {xs : List Value} (r : Int) (h0 : 1114111 < r) (h1 : r ≤ 2147483647) (hr : Row 5 1 v n xs Lr) (h : St W w I (Lr ++ F)) (hlen : n + 4 ≤ 140737488355328) :
    Calls Tryd.prog 93 #[v, .int .i32 r] w fun e w' => ∃ A c L', e = .returned (.slice A (n + 3) c) ∧ Row 5 1 (.slice A (n + 3) c) (n + 3) (xs ++ [.int .u8 (239), .int .u8 (191), .int .u8 (189)]) L' ∧ (Off0 v → Off0 (.slice A (n + 3) c)) ∧ St W w' I (L' ++ F) := by
  have hsrc := Src.alloc_ w [.int .u8 (239), .int .u8 (191), .int .u8 (189)] 5
  have h2 : St W (w.alloc (.cells #[.int .u8 (239), .int .u8 (191), .int .u8 (189)] 5)) I (Lr ++ F) := St.alloc_ h _
  have hone : ∀ u ∈ ([.int .u8 (239), .int .u8 (191), .int .u8 (189)] : List Value), u.oneCell' = true := by simp [Value.oneCell']
  obtain ⟨A0, c0, rfl⟩ := hr.shape
  go_enter Tryd.func93, Tryd.ntmps93
  go_wp2_with (at_builtin; refine Hid.out ?_)
  refine Lib.hid ?_
  refine wpList_append_row0 (F := F) rfl (.tmp 8) (.tmp 9) 104 rfl 5 (.int .u8 0) 1 1 Tryd.underlying104 (by kernel_rfl) rfl (by omega) rfl hr (by exact h2) rfl (by exact hsrc) hone (n + 3) rfl (xs ++ [.int .u8 (239), .int .u8 (191), .int .u8 (189)]) rfl (by unfold maxLen; omega) (by omega) ?_
  intro A1 c1 w2 L1 hr1 h3 ho
  have H3 := Lib.hid h3; have HR := Lib.hid hr1; have HO := Lib.hid ho
  clear h3 hr1 ho h2 hsrc hr h hone
  go_wp2_with fail
  go_ret
  exact ⟨_, _, _, rfl, HR.out, HO.out, H3.out⟩

set_option maxRecDepth 100000 in
set_option maxHeartbeats 1000000 in
theorem ar_ascii {W w : World} {I : Nat → Option Obj} {F Lr : List (Nat × Obj)} {v : Value} {n : Nat} {xs : List Value} (r : Int) (h0 : 0 ≤ r) (h1 : r ≤ 127) (hr : Row 5 1 v n xs Lr) (h : St W w I (Lr ++ F)) (hlen : n + 4 ≤ 140737488355328) :
    Calls Tryd.prog 75 #[v, .int .i32 r] w fun e w' => ∃ A c L', e = .returned (.slice A (n + 1) c) ∧ Row 5 1 (.slice A (n + 1) c) (n + 1) (xs ++ [.int .u8 r]) L' ∧ (Off0 v → Off0 (.slice A (n + 1) c)) ∧ St W w' I (L' ++ F) := by
  have hsrc := Src.alloc_ w [.int .u8 r] 5
  have h2 : St W (w.alloc (.cells #[.int .u8 r] 5)) I (Lr ++ F) := St.alloc_ h _
  have hone : ∀ u ∈ ([.int .u8 r] : List Value), u.oneCell' = true := by simp [Value.oneCell']
  obtain ⟨A0, c0, rfl⟩ := hr.shape
  go_enter Tryd.func75, Tryd.ntmps75
  go_wp2_with (at_builtin; refine Hid.out ?_)
  refine Lib.hid ?_
  refine wpList_append_row0 (F := F) rfl (.tmp 8) (.tmp 11) 104 rfl 5 (.int .u8 0) 1 1 Tryd.underlying104 (by kernel_rfl) rfl (by omega) rfl hr (by exact h2) rfl (by exact hsrc) hone (n + 1) rfl (xs ++ [.int .u8 r]) rfl (by unfold maxLen; omega) (by omega) ?_
  intro A1 c1 w2 L1 hr1 h3 ho
  have H3 := Lib.hid h3; have HR := Lib.hid hr1; have HO := Lib.hid ho
  clear h3 hr1 ho h2 hsrc hr h hone
  go_wp2_with fail
  go_ret
  exact ⟨_, _, _, rfl, HR.out, HO.out, H3.out⟩


theorem na_any {W w : World} {I : Nat → Option Obj} {F Lr : List (Nat × Obj)} {v : Value} {n : Nat} {xs : List Value} (r : Int) (hr0 : -2147483648 ≤ r) (hr1 : r ≤ 2147483647) (hna : r < 0 ∨ 128 ≤ r) (hr : Row 5 1 v n xs Lr) (h : St W w I (Lr ++ F)) (hlen : n + 4 ≤ 140737488355328) :
    Calls Tryd.prog 93 #[v, .int .i32 r] w fun e w' => ∃ A c L', e = .returned (.slice A (n + (Lib.runeCells r).length) c) ∧ Row 5 1 (.slice A (n + (Lib.runeCells r).length) c) (n + (Lib.runeCells r).length) (xs ++ Lib.runeCells r) L' ∧ (Off0 v → Off0 (.slice A (n + (Lib.runeCells r).length) c)) ∧ St W w' I (L' ++ F) := by
  by_cases c0 : r < 0
  · rw [show Lib.runeCells r = [.int .u8 239, .int .u8 191, .int .u8 189] by simp [Lib.runeCells, Lib.encodeRuneZ_bad (Or.inl c0)]]
    exact na_neg r hr0 c0 hr h hlen
  by_cases c1 : r ≤ 2047
  · rw [show Lib.runeCells r = [.int .u8 (192 + r / 64), .int .u8 (128 + r % 64)] by simp [Lib.runeCells, Lib.encodeRuneZ_two (by omega) c1]]
    exact na_two r (by omega) c1 hr h hlen
  by_cases c2 : r < 55296
  · rw [show Lib.runeCells r = [.int .u8 (224 + r / 4096), .int .u8 (128 + r / 64 % 64), .int .u8 (128 + r % 64)] by simp [Lib.runeCells, Lib.encodeRuneZ_three (Or.inl ⟨by omega, c2⟩)]]
    exact na_three_lo r (by omega) c2 hr h hlen
  by_cases c3 : r ≤ 57343
  · rw [show Lib.runeCells r = [.int .u8 239, .int .u8 191, .int .u8 189] by simp [Lib.runeCells, Lib.encodeRuneZ_bad (Or.inr (Or.inl ⟨by omega, c3⟩))]]
    exact na_sur r (by omega) c3 hr h hlen
  by_cases c4 : r ≤ 65535
  · rw [show Lib.runeCells r = [.int .u8 (224 + r / 4096), .int .u8 (128 + r / 64 % 64), .int .u8 (128 + r % 64)] by simp [Lib.runeCells, Lib.encodeRuneZ_three (Or.inr ⟨by omega, c4⟩)]]
    exact na_three_hi r (by omega) c4 hr h hlen
  by_cases c5 : r ≤ 1114111
  · rw [show Lib.runeCells r = [.int .u8 (240 + r / 262144), .int .u8 (128 + r / 4096 % 64), .int .u8 (128 + r / 64 % 64), .int .u8 (128 + r % 64)] by simp [Lib.runeCells, Lib.encodeRuneZ_four (by omega) c5]]
    exact na_four r (by omega) c5 hr h hlen
  · rw [show Lib.runeCells r = [.int .u8 239, .int .u8 191, .int .u8 189] by simp [Lib.runeCells, Lib.encodeRuneZ_bad (r := r) (Or.inr (Or.inr (by omega)))]]
    exact na_big r (by omega) hr1 hr h hlen

set_option maxRecDepth 100000 in
set_option maxHeartbeats 1000000 in
theorem appendRune {W w : World} {I : Nat → Option Obj} {F Lr : List (Nat × Obj)} {v : Value} {n : Nat} {xs : List Value} (r : Int) (hr0 : -2147483648 ≤ r) (hr1 : r ≤ 2147483647) (hr : Row 5 1 v n xs Lr) (h : St W w I (Lr ++ F)) (hlen : n + 4 ≤ 140737488355328) :
    Calls Tryd.prog 75 #[v, .int .i32 r] w fun e w' => ∃ A c L', e = .returned (.slice A (n + (Lib.runeCells r).length) c) ∧ Row 5 1 (.slice A (n + (Lib.runeCells r).length) c) (n + (Lib.runeCells r).length) (xs ++ Lib.runeCells r) L' ∧ (Off0 v → Off0 (.slice A (n + (Lib.runeCells r).length) c)) ∧ St W w' I (L' ++ F) := by
  by_cases c : 0 ≤ r ∧ r ≤ 127
  · rw [show Lib.runeCells r = [.int .u8 r] by simp [Lib.runeCells, Lib.encodeRuneZ_one c.1 c.2]]
    exact ar_ascii r c.1 c.2 hr h hlen
  · have hc : r < 0 ∨ 128 ≤ r := by omega
    have cN := na_any r hr0 hr1 hc hr h hlen
    obtain ⟨A0, c0, rfl⟩ := hr.shape
    generalize (Lib.runeCells r).length = k at *
    generalize Lib.runeCells r = rc at *
    have CN := Lib.hid cN
    clear cN hr h
    rcases hc with hc | hc
    all_goals
      go_enter Tryd.func75, Tryd.ntmps75
      go_wp2_with fail
      refine CN.out.mono ?_
      rintro e w1 ⟨A, c, L', rfl, h1, h2, h3⟩
      have H1 := Lib.hid h1; have H2 := Lib.hid h2; have H3 := Lib.hid h3
      clear h1 h2 h3 CN
      go_wp2_with fail
      go_ret
      exact ⟨_, _, _, rfl, H1.out, H2.out, H3.out⟩
end

section
set_option linter.unusedVariables false
set_option linter.unusedSimpArgs false
open Go.RowKit Go.Lib

theorem runeCells_bval (r : Int) : Lib.runeCells r = (Lib.encodeRune r).map bval := (Lib.byteCells_encodeRune r).symm

set_option maxRecDepth 100000 in
set_option maxHeartbeats 1000000 in
theorem bldRune {W w : World} {I : Nat → Option Obj} {sb : Nat} {bs : List UInt8} {F : List (Nat × Obj)} (r : Int) (hr0 : -2147483648 ≤ r) (hr1 : r ≤ 2147483647) (h : BldSt W w I sb bs F) (hlen : bs.length + 4 ≤ 140737488355328) :
    Calls Tryd.prog 56 #[.pointer (some ⟨sb, 0, none⟩), .int .i32 r] w fun e w' => ∃ v, e = .returned v ∧ BldSt W w' I sb (bs ++ Lib.encodeRune r) F := by
  obtain ⟨A0, A, c, Lr, hA, hr, h0, hst⟩ := h
  obtain ⟨er, her⟩ : ∃ er, Lib.encodeRune r = er := ⟨_, rfl⟩
  rw [her]
  have HER := Lib.hid her
  clear her
  go_enter Tryd.func56, Tryd.ntmps56
  go_wp2_with fail
  refine (bldCheck hA hst).mono ?_
  rintro e w1 ⟨rfl, h1⟩
  have q1 : w1.cell? ⟨sb, 1, none⟩ = some (.slice A bs.length c) := h1.cell (g := sb) (cs := #[.pointer (some ⟨sb, 0, none⟩), .slice A bs.length c]) (t := 106) (fr := (0, 0)) (by simp) 1
  have h2 : St W w1 I (Lr ++ ((sb, .cells #[.pointer (some ⟨sb, 0, none⟩), .slice A bs.length c] 106 (0, 0)) :: F)) := St.swap (A := [(sb, _)]) h1
  have cA := appendRune r hr0 hr1 hr h2 hlen
  have hk : (Lib.runeCells r).length = (Lib.encodeRune r).length := by rw [runeCells_bval, List.length_map]
  have hk4 : (Lib.encodeRune r).length ≤ 4 := by have := (Lib.encodeRuneZ_length r).2; simpa [Lib.encodeRune] using this
  rw [hk, runeCells_bval, HER.out] at cA
  rw [HER.out] at hk4
  have CA := Lib.hid cA; have HO := Lib.hid h0
  clear cA hst hA h1 h2 hr hk h0
  go_wp2_with fail
  refine CA.out.mono ?_
  rintro e w2 ⟨A1, c1, L1, rfl, hr1, ho, h3⟩
  have q2 : w2.cell? ⟨sb, 1, none⟩ = some (.slice A bs.length c) := h3.cell (g := sb) (cs := #[.pointer (some ⟨sb, 0, none⟩), .slice A bs.length c]) (t := 106) (fr := (0, 0)) (by simp) 1
  have f2 : w2.frozen? ⟨sb, 1, none⟩ = false := h3.frozen (g := sb) (cs := #[.pointer (some ⟨sb, 0, none⟩), .slice A bs.length c]) (t := 106) (by simp) 1
  have h4 : St W (w2.setCell ⟨sb, 1, none⟩ (.slice A1 (bs.length + er.length) c1)) I ((sb, .cells #[.pointer (some ⟨sb, 0, none⟩), .slice A1 (bs.length + er.length) c1] 106 (0, 0)) :: (L1 ++ F)) := St.set (A := []) (St.swap (B := [(sb, _)]) h3) 1 _
  have q3 : (w2.setCell ⟨sb, 1, none⟩ (.slice A1 (bs.length + er.length) c1)).cell? ⟨sb, 1, none⟩ = some (.slice A1 (bs.length + er.length) c1) := h4.cell (g := sb) (cs := #[.pointer (some ⟨sb, 0, none⟩), .slice A1 (bs.length + er.length) c1]) (t := 106) (fr := (0, 0)) (by simp) 1
  have hfin : BldSt W (w2.setCell ⟨sb, 1, none⟩ (.slice A1 (bs.length + er.length) c1)) I sb (bs ++ er) F := by
    refine ⟨_, A1, c1, L1, .inr rfl, ?_, ?_, ?_⟩ <;> rw [List.length_append]
    · rw [List.map_append]; exact hr1
    · exact ho HO.out
    · exact h4
  have Hfin := Lib.hid hfin
  clear hfin h4 h3 hr1 ho CA
  go_wp2_with fail
  go_ret2
  exact ⟨_, rfl, Hfin.out⟩

theorem BldSt.iter {W w : World} {I : Nat → Option Obj} {sb it : Nat} {bs : List UInt8} {s : ByteArray} {pos : Nat} {F : List (Nat × Obj)} (pos' : Nat) (h : BldSt W w I sb bs ((it, .stringIter s pos) :: F)) : BldSt W (w.iterAt it s pos') I sb bs ((it, .stringIter s pos') :: F) := by
  obtain ⟨A0, A, c, Lr, hA, hr, h0, hst⟩ := h
  refine ⟨A0, A, c, Lr, hA, hr, h0, ?_⟩
  have h1 := (hst.perm (by rw [← List.cons_append]; exact List.perm_middle)).iter pos'
  refine h1.perm ?_
  rw [← List.cons_append]
  exact List.perm_middle.symm
theorem BldSt.heap {W w : World} {I : Nat → Option Obj} {sb : Nat} {bs : List UInt8} {F : List (Nat × Obj)} (h : BldSt W w I sb bs F) {p : Nat × Obj} (hp : p ∈ F) : w.heap[p.1]? = some p.2 := h.frame.own p hp

/-- A builder into which nothing was written. -/
theorem bldString0 {W w : World} {I : Nat → Option Obj} {sb : Nat} {F : List (Nat × Obj)} (hst : St W w I ((sb, .cells #[.pointer none, .slice none 0 0] 106 (0, 0)) :: F)) :
    Calls Tryd.prog 59 #[.pointer (some ⟨sb, 0, none⟩)] w fun e w' => e = .returned (.string ⟨#[]⟩) ∧ St W w' I F := by
  have c1 : w.drew.cell? ⟨sb, 1, none⟩ = some (.slice none 0 0) := hst.drew1.cell (g := sb) (cs := #[.pointer none, .slice none 0 0]) (t := 106) (fr := (0, 0)) (by simp) 1
  have hSD : (Builtin.unsafeSliceData_ #[104] 135 #[.slice none 0 0]).run Tryd.prog w.drew = .ok (.pointer none) w.drew :=
    Lib.run_unsafeSliceData_nil _ _ _ _ _
  have hUS : (Builtin.unsafeString_ #[135, 3] 9 #[.pointer none, .int .i64 0]).run Tryd.prog w.drew = .ok (.string ⟨#[]⟩) w.drew := Lib.run_unsafeString_none _ _ _ _ _
  have fin : ∀ n, St W (w.drewN n) I F := fun n => (St.weaken (A := [_]) hst).drew n
  have Fin := Lib.hid fin
  clear fin hst
  go_enter Tryd.func59, Tryd.ntmps59
  go_wp2_with fail
  go_region
  all_goals
    go_wp2_with fail
    go_ret
    exact ⟨rfl, Fin.out 1⟩
end

section
set_option linter.unusedVariables false
set_option linter.unusedSimpArgs false
open Go.RowKit

/-- A digit. -/
def hexd (n : Nat) : UInt8 := UInt8.ofNat (if n < 10 then 48 + n else 87 + n)
theorem ix_low : ∀ (n : Nat) (_ : n < 16) (w : World), (Instr.index 9 (.string ⟨#[48, 49, 50, 51, 52, 53, 54, 55, 56, 57, 97, 98, 99, 100, 101, 102]⟩) (.int .u8 (n : Int))).run Tryd.prog w = .ok (.int .u8 ((hexd n).toNat : Int)) w
  | n, h, w => by
    have : ∀ (n : Nat), n < 16 → (#[48, 49, 50, 51, 52, 53, 54, 55, 56, 57, 97, 98, 99, 100, 101, 102] : Array UInt8)[n]? = some (hexd n) := by decide
    have h2 := this n h
    have h3 : (0 : Int) ≤ n := by omega
    have h4 : (if (0 : Int) ≤ (n : Int) then (⟨#[48, 49, 50, 51, 52, 53, 54, 55, 56, 57, 97, 98, 99, 100, 101, 102]⟩ : ByteArray)[((n : Int)).toNat]? else none) = some (hexd n) := by
      rw [if_pos h3, Int.toNat_natCast]
      exact (getElem?_pos (⟨#[48, 49, 50, 51, 52, 53, 54, 55, 56, 57, 97, 98, 99, 100, 101, 102]⟩ : ByteArray) n (by simpa [ByteArray.size] using h)).trans (by
        rw [getElem?_pos (#[48, 49, 50, 51, 52, 53, 54, 55, 56, 57, 97, 98, 99, 100, 101, 102] : Array UInt8) n (by simpa using h)] at h2
        exact h2)
    simp only [Instr.index, asIntOf, Sem.run_bind, Sem.run_pure, Result.andThen_ok, run_underlying Tryd.underlying9, h4]

/-- Two digits a byte. -/
def textOf (bs : List UInt8) : List UInt8 := bs.flatMap fun b => [hexd (b.toNat / 16), hexd (b.toNat % 16)]
theorem textOf_snoc (bs : List UInt8) (b : UInt8) : textOf (bs ++ [b]) = (textOf bs ++ [hexd (b.toNat / 16)]) ++ [hexd (b.toNat % 16)] := by simp [textOf]
theorem textOf_len (bs : List UInt8) : (textOf bs).length = 2 * bs.length := by
  unfold textOf
  induction bs with
  | nil => rfl
  | cons b l ih => simp [List.flatMap_cons, ih]; omega
theorem textOf_ne (bs : List UInt8) (h : 0 < bs.length) : textOf bs ≠ [] := by
  intro e
  have := textOf_len bs
  rw [e] at this
  simp at this
  omega
theorem u8_low4 (b : UInt8) : bits .and .u8 (b.toNat : Int) 15 = ((b.toNat % 16 : Nat) : Int) := by
  have h := u8_and_nat b.toNat 15 b.toNat_lt (by omega)
  refine h.trans ?_
  rw [show (15 : Nat) = 2 ^ 4 - 1 from rfl, Nat.and_two_pow_sub_one_eq_mod]

set_option maxRecDepth 10000 in
set_option maxHeartbeats 1000000 in
theorem text_any {W w : World} {I : Nat → Option Obj} {F : List (Nat × Obj)} (bs : List UInt8) (hl : bs.length = 32) (hst : St W w I F) :
    Calls Tryd.prog 83 #[.agg (bcells bs)] w fun e w' => e = .returned (.string ⟨(textOf bs).toArray⟩) ∧ St W w' I F := by
  have z := bcells_size bs
  rw [hl] at z
  have hg := fun i (h : i < bs.length) => bcells_get bs i h
  have i1 : (Tryd.prog.info? 37).map (·.size) = some (bcells bs).size := by rw [z]; kernel_rfl
  obtain ⟨CS, hCS⟩ : ∃ CS, CS = bcells bs := ⟨_, rfl⟩
  rw [← hCS] at hg z i1 ⊢
  have hix : ∀ i (h : i < bs.length) w, (Instr.index 37 (.agg CS) (.int .i64 (i : Int))).run Tryd.prog w = .ok (.int .u8 ((bs.getD i 0).toNat : Int)) w := fun i h w =>
    run_index_cells Tryd.underlying37 Tryd.isAgg5 Tryd.sizeOf5 CS i _ (by omega) (hg i h) w
  have Z := Lib.hid z; have HIX := Lib.hid hix; have HL := Lib.hid hl
  clear hCS hg z hix hl
  have h1 : St W (w.alloc (.cells CS 37)) I ((w.heap.size, .cells CS 37 (0, 0)) :: F) := hst.alloc _
  have h2 := BldSt.new h1
  have H2 := Lib.hid h2
  clear h2 hst
  have hp : (w.heap.size, Obj.cells CS 37 (0, 0)) ∈ (w.heap.size, Obj.cells CS 37 (0, 0)) :: F := by simp
  have hy : ∀ j, j < CS.size → CS[0 + j]? = CS[j]? := fun j _ => by rw [Nat.zero_add]
  go_enter Tryd.func83, Tryd.ntmps83
  go_wp2_with (with_reducible refine wpList_load_st rfl 37 (.tmp 1) rfl (g := w.heap.size) (off := 0) rfl (H2.out.frame) hp CS hy _ Tryd.underlying37 rfl i1 ?_)
  have h2 := H2.out
  clear H2 h1 hp hy i1
  rw [World.size_alloc] at h2
  have hz : w.heap.size = w.heap.size := rfl
  clear hz
  generalize hF : (w.heap.size, Obj.cells CS 37 (0, 0)) :: F = F' at h2
  have HF := Lib.hid hF
  clear hF
  go_loopw [7] (fun i wr => ∃ k : Nat, k ≤ 32 ∧ i = .int .i64 k ∧ BldSt W wr I (w.heap.size + 1) (textOf (bs.take k)) F') (fun i _ => 32 - (intOf i).toNat)
  case atStart => exact ⟨0, by omega, rfl, h2⟩
  case round =>
    obtain ⟨k, hk, rfl, hb⟩ := hrel
    clear h2
    by_cases hlt : k < 32
    · have hix := fun w => HIX.out k (by rw [HL.out]; exact hlt) w
      have hts : bs.take (k + 1) = bs.take k ++ [bs.getD k 0] := by
        rw [List.take_add_one, List.getElem?_eq_getElem (by rw [HL.out]; exact hlt), List.getD_eq_getElem?_getD, List.getElem?_eq_getElem (by rw [HL.out]; exact hlt)]
        rfl
      have hnext := textOf_snoc (bs.take k) (bs.getD k 0)
      rw [← hts] at hnext
      have htl := textOf_len (bs.take k)
      have htk : (bs.take k).length ≤ k := List.length_take_le _ _
      generalize bs.getD k 0 = b at *
      have b256 := b.toNat_lt
      have l1 : ∀ w, (Instr.index 9 (.string ⟨#[48, 49, 50, 51, 52, 53, 54, 55, 56, 57, 97, 98, 99, 100, 101, 102]⟩) (.int .u8 ((b.toNat : Int) / 16))).run Tryd.prog w = .ok (.int .u8 ((hexd (b.toNat / 16)).toNat : Int)) w := fun w => by
        rw [show (b.toNat : Int) / 16 = ((b.toNat / 16 : Nat) : Int) by omega]; exact ix_low _ (by omega) w
      have l2 : ∀ w, (Instr.index 9 (.string ⟨#[48, 49, 50, 51, 52, 53, 54, 55, 56, 57, 97, 98, 99, 100, 101, 102]⟩) (.int .u8 ((b.toNat : Int) % 16))).run Tryd.prog w = .ok (.int .u8 ((hexd (b.toNat % 16)).toNat : Int)) w := fun w => by
        rw [show (b.toNat : Int) % 16 = ((b.toNat % 16 : Nat) : Int) by omega]; exact ix_low _ (by omega) w
      have c1 := bldByte (hexd (b.toNat / 16)) hb (by omega)
      have C2 := fun w' (h : BldSt W w' I (w.heap.size + 1) (textOf (bs.take k) ++ [hexd (b.toNat / 16)]) F') => bldByte (hexd (b.toNat % 16)) h (by simp; omega)
      rw [← hnext] at C2
      clear hnext hts htl htk
      generalize hexd (b.toNat / 16) = d1 at *
      generalize hexd (b.toNat % 16) = d2 at *
      have C1 := Lib.hid c1; have D2 := Lib.hid C2
      clear c1 C2 hb
      go_wp2_with fail
      refine C1.out.mono ?_
      rintro e w2 ⟨rfl, hb2⟩
      clear C1
      go_wp2_with fail
      refine (D2.out _ hb2).mono ?_
      rintro e w3 ⟨rfl, hb3⟩
      clear hb2 D2 l1 l2 hix
      go_wp2_with fail
      go_roundw
      case rel => exact ⟨k + 1, by omega, by go_num, hb3⟩
      case measure => simp [intOf]; omega
    · obtain rfl : k = 32 := by omega
      rw [List.take_of_length_le (by rw [HL.out]; exact Nat.le_refl _)] at hb
      have c1 := bldString hb (textOf_ne bs (by rw [HL.out]; omega))
      have C1 := Lib.hid c1
      clear c1 hb
      go_wp2_with fail
      refine C1.out.mono ?_
      rintro e w2 ⟨rfl, h3⟩
      rw [← HF.out] at h3
      have h4 := St.weaken (A := [_]) h3
      clear h3 C1
      go_wp2_with fail
      go_ret
      exact ⟨rfl, h4⟩
end

section
set_option linter.unusedVariables false
set_option linter.unusedSimpArgs false
open Go.RowKit Go.Lib Go.Shelf Go.Sort

/-- Go's table of powers of ten, too. -/
structure Tab10 (W : World) : Prop where
  pow : Lib.TabIs Tryd.prog W "internal/strconv.uint64pow10" .u64 Lib.pow10Tab
section
variable {W w : World} {I : Nat → Option Obj} {F : List (Nat × Obj)}
theorem Tab10.below {w' : World} (h : Tab10 w) (hb : Below w.heap.size w w') : Tab10 w' := ⟨TabIs_below (g := 9) (by kernel_rfl) h.pow hb⟩
theorem Tab10.on (t : Tab10 W) (hle : Le (fun b => W.heap[b]?) I) (h : St W w I F) : Tab10 w := t.below (h.below hle)
theorem St.grew (h : St W w I F) (os : Array Obj) (k : Nat) : St W (grow (w.drewN k) os) I F :=
  h.belowTo ⟨rfl, rfl, rfl, by simp [grow, World.drewN, World.drew], fun k hk => by
    show (w.heap ++ os)[_]? = _
    rw [Array.getElem?_append_left hk]⟩

theorem itoa_any (t : Tab10 W) (hle : Le (fun b => W.heap[b]?) I) (n : Int) (h0 : -9223372036854775808 ≤ n) (h1 : n ≤ 9223372036854775807) (h : St W w I F) :
    Calls Tryd.prog 34 #[.int .i64 n] w fun e w' => e = .returned (.string ⟨(Lib.itoa n).toArray⟩) ∧ St W w' I F :=
  (Tryd.strconv_Itoa n h0 h1 w (t.on hle h).pow).mono fun e w' ⟨he, k, os, hw⟩ => ⟨he, by rw [hw]; exact h.grew os k⟩

theorem holds0 (w : World) (T : TypeId) (nd : Nat) (hs : nd ≤ 24) : Holds (fun (b : UInt8) => Value.int .u8 (b.toNat : Int)) (w.alloc (.cells zeros24 T)) w.heap.size 0 (Array.replicate nd (0 : UInt8)) := fun j hj => by
  have hj' : j < nd := by simpa using hj
  refine ⟨?_, World.frozen?_alloc_new _ _ _ _⟩
  rw [World.cell?_alloc_new, Nat.zero_add, zeros24_at _ (by omega), getElem!_pos _ j hj]
  simp

set_option maxRecDepth 100000 in
set_option maxHeartbeats 4000000 in
theorem fmtU_in (t : Tab10 W) (hle : Le (fun b => W.heap[b]?) I) (u : Nat) (hu64 : u < 18446744073709551616) (h : St W w I F) :
    Calls Tryd.prog 84 #[.int .u64 u, .int .i64 10] w fun e w' => e = .returned (.string ⟨(Lib.decDigits u).toArray⟩) ∧ St W w' I F := by
  have htab := (t.on hle h).pow
  by_cases hs : u < 100
  · have kS := fun w => Tryd.internal_strconv_small u hs w
    have KS := Lib.hid kS; have H := Lib.hid h
    have hui : (u : Int) < 100 := by omega
    clear kS h htab
    go_enter Tryd.func84, Tryd.ntmps84
    go_wp2_with (go_at_call 88; refine (KS.out _).mono ?_; rintro e w' ⟨rfl, rfl⟩)
    go_ret
    exact ⟨rfl, H.out⟩
  · have hu1 : 1 ≤ u := by omega
    have hnd20 : Lib.nDigits u ≤ 20 := by have := Lib.numDigits_eq u hu1 hu64; split at this <;> omega
    have hal : Tryd.prog.arrayLen 151 = 24 := by kernel_rfl
    have hsl : ∀ W, (Instr.sliceAt 151 (.pointer (some ⟨w.heap.size, 0, none⟩)) none (some (.int .i64 (Lib.nDigits u : Int))) none).run Tryd.prog W = .ok (.slice (some ⟨w.heap.size, 0, none⟩) (Lib.nDigits u) 24) W := fun W => by
      rw [run_sliceAt_array_h W 151 ⟨w.heap.size, 0, none⟩ (by simp [Program.arrayLen, Program.elem, Tryd.underlying151]) .i64 (Lib.nDigits u : Int) (by omega) (by rw [hal]; omega)]
      rw [hal, show Tryd.prog.elem 151 = 5 by kernel_rfl, Tryd.sizeOf5, Result.andThen_ok]
      simp [slicedAt, Addr.add]
    have hH0 := holds0 w 151 (Lib.nDigits u) (by omega)
    have hfmt := Tryd.internal_strconv_formatBase10 w.heap.size 0 24 u (Array.replicate (Lib.nDigits u) 0) (w.alloc (.cells Lib.zeros24 151)) hH0 (by rw [Array.size_replicate]; exact Lib.lt_pow_nDigits u) hu64 (by rw [Array.size_replicate]; omega)
    rw [Array.size_replicate] at hfmt
    have kN := Tryd.internal_strconv_numDigits u hu1 hu64 (w.alloc (.cells Lib.zeros24 151)) (Lib.tabIs_alloc htab _)
    have hui : ¬ ((u : Int) < 100) := by omega
    have HH0 := Lib.hid hH0; have HFMT := Lib.hid hfmt; have KN := Lib.hid kN; have H := Lib.hid h
    clear hH0 hal hfmt kN htab h
    go_enter Tryd.func84, Tryd.ntmps84
    go_wp2_with fail
    refine KN.out.mono ?_
    rintro e w' ⟨rfl, rfl⟩
    go_wp2_with fail
    refine HFMT.out.mono ?_
    rintro e w' ⟨rfl, k, v', dk, rfl, hF⟩
    have hcv : (convert 104 9 (.slice (some ⟨w.heap.size, 0, none⟩) (Lib.nDigits u) 24)).run Tryd.prog ((putRow (fun (b : UInt8) => Value.int .u8 (b.toNat : Int)) (w.alloc (.cells Lib.zeros24 151)) w.heap.size 0 dk).drewN k) = .ok (.string ⟨(Lib.decDigits u).toArray⟩) ((putRow (fun (b : UInt8) => Value.int .u8 (b.toNat : Int)) (w.alloc (.cells Lib.zeros24 151)) w.heap.size 0 dk).drewN k) := by
      have h := run_convert_bytes_back (P := Tryd.prog) ((putRow (fun (b : UInt8) => Value.int .u8 (b.toNat : Int)) (w.alloc (.cells Lib.zeros24 151)) w.heap.size 0 dk).drewN k) 104 9 5 ⟨w.heap.size, 0, none⟩ 24 (Lib.decDigits u) Tryd.underlying104 Tryd.underlying5 Tryd.underlying9 (fun j hj => by
        rw [Lib.row_is_numeral hF j hj, Lib.add_plain, World.cell?_drewN]
        exact cell?_putRow (fun (b : UInt8) => Value.int .u8 (b.toNat : Int)) _ w.heap.size 0 _ dk HH0.out (by rw [hF.size, Array.size_replicate]) j (by rw [hF.size]; rw [Lib.decDigits_length] at hj; exact hj))
      rw [Lib.decDigits_length] at h
      exact h
    have hfin : St W ((putRow (fun (b : UInt8) => Value.int .u8 (b.toNat : Int)) (w.alloc (.cells Lib.zeros24 151)) w.heap.size 0 dk).drewN k) I F := by
      rw [alloc_eq_grow]
      obtain ⟨os', _, e⟩ := putRow_grow_new (fun (b : UInt8) => Value.int .u8 (b.toNat : Int)) w #[.cells Lib.zeros24 151] w.heap.size 0 dk (Nat.le_refl _)
      rw [e]
      exact (H.out.grew os' 0).drew k
    have HFIN := Lib.hid hfin
    clear hfin hF HH0 HFMT KN H
    go_wp2_with fail
    go_ret
    exact ⟨rfl, HFIN.out⟩
theorem fmtU (t : Tab10 W) (hle : Le (fun b => W.heap[b]?) I) (u : Nat) (hu64 : u < 18446744073709551616) (h : St W w I F) :
    Calls Tryd.prog 67 #[.int .u64 u, .int .i64 10] w fun e w' => e = .returned (.string ⟨(Lib.decDigits u).toArray⟩) ∧ St W w' I F := by
  have kF := fmtU_in t hle u hu64 h
  have KF := Lib.hid kF
  clear kF h t hle
  go_enter Tryd.func67, Tryd.ntmps67
  go_wp2_with fail
  refine KF.out.mono ?_
  rintro e w' ⟨rfl, h'⟩
  have H := Lib.hid h'
  clear KF h'
  go_wp2_with fail
  go_ret
  exact ⟨rfl, H.out⟩
end
end
end Go.Proofs.YtjcekmmieihllaaDoor
