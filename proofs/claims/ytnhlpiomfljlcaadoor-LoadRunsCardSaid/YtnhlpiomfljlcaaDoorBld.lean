/- strings.Builder in the proof's own memory: WriteByte, String. -/
import Derived.Test.YtnhlpiomfljlcaaDoorSlices
import Derived.Test.YtnhlpiomfljlcaaDoorRows
import Derived.Lib.UnsafeStr
import Derived.Lib.Builder
import Derived.Laws.Externs
import Derived.RegionTactic
import Derived.BigRegion
namespace Go.Proofs.YtnhlpiomfljlcaaDoor
set_option linter.unusedVariables false
set_option linter.unusedSimpArgs false
open Go.RowKit

/-- A builder that holds bs lies at sb. -/
def BldSt (W w : World) (I : Nat → Option Obj) (sb : Nat) (bs : List UInt8) (F : List (Nat × Obj)) : Prop :=
  ∃ A0 A c Lr, (A0 = .pointer none ∨ A0 = .pointer (some ⟨sb, 0, none⟩)) ∧ Row 5 1 (.slice A bs.length c) bs.length (bs.map bval) Lr ∧ Off0 (.slice A bs.length c) ∧
    St W w I ((sb, .cells #[A0, .slice A bs.length c] 129 (0, 0)) :: (Lr ++ F))

theorem BldSt.new {W w : World} {I : Nat → Option Obj} {F : List (Nat × Obj)} (h : St W w I F) : BldSt W (w.alloc (.cells #[.pointer none, .slice none 0 0] 129)) I w.heap.size [] F :=
  ⟨_, none, 0, [], .inl rfl, Row.nil _ _, Off0.nil, h.alloc _⟩
theorem BldSt.frame {W w : World} {I : Nat → Option Obj} {sb : Nat} {bs : List UInt8} {F : List (Nat × Obj)} (h : BldSt W w I sb bs F) : St W w I F := by
  obtain ⟨A0, A, c, Lr, _, _, _, hst⟩ := h
  exact St.weaken (A := [_]) hst |>.weaken

theorem bldShape {w : World} {sb : Nat} {cs : Array Value} {t : TypeId} {fr : Nat × Nat} (h : w.heap[sb]? = some (.cells cs t fr)) : w.shape? sb = some (t, cs.size) := by simp [World.shape?, h]

set_option maxRecDepth 100000 in
set_option maxHeartbeats 1000000 in
theorem bldCheck_new {W w : World} {I : Nat → Option Obj} {sb : Nat} {sl : Value} {F : List (Nat × Obj)} (hst : St W w I ((sb, .cells #[.pointer none, sl] 129 (0, 0)) :: F)) :
    Calls Tryd.prog 76 #[.pointer (some ⟨sb, 0, none⟩)] w fun e w' => e = .returned (.tuple #[]) ∧ St W w' I ((sb, .cells #[.pointer (some ⟨sb, 0, none⟩), sl] 129 (0, 0)) :: F) := by
  have hb := hst.own (sb, .cells #[.pointer none, sl] 129 (0, 0)) (by simp)
  have hsh := bldShape hb
  have h0 : w.cell? ⟨sb, 0, none⟩ = some (.pointer none) := hst.cell (g := sb) (cs := #[.pointer none, sl]) (t := 129) (fr := (0, 0)) (by simp) 0
  have hfz : w.frozen? ⟨sb, 0, none⟩ = false := hst.frozen (g := sb) (cs := #[.pointer none, sl]) (t := 129) (by simp) 0
  have fin : St W (w.setCell ⟨sb, 0, none⟩ (.pointer (some ⟨sb, 0, none⟩))) I ((sb, .cells #[.pointer (some ⟨sb, 0, none⟩), sl] 129 (0, 0)) :: F) := St.set (A := []) hst 0 _
  have Fin := Lib.hid fin
  have Hsh := Lib.hid hsh
  clear fin hst hsh hb
  obtain ⟨j, hj, hjs⟩ : ∃ j, Tryd.prog.info? 129 = some j ∧ j.size = 2 := Option.map_eq_some_iff.1 (by kernel_rfl : (Tryd.prog.info? 129).map (·.size) = some 2)
  have Hj := Lib.hid hj; have Hjs := Lib.hid hjs
  clear hj hjs
  go_enter Tryd.func76, Tryd.ntmps76
  go_wp2_with fail
  rw [Lib.run_to_unsafe w ⟨sb, 0, none⟩ Tryd.underlying127 Tryd.underlying166 Hj.out (by rw [Hjs.out]; decide) Hsh.out (Nat.zero_lt_succ 1)]
  simp only [Result.andThen]
  rw [Oper.upon_value]
  go_wp2_with fail
  rw [run_callFunc_extern Tryd.func86 (by kernel_rfl) (by kernel_rfl) (by kernel_rfl) (e := Extern.AbiNoEscape.same) (by kernel_rfl)]
  rw [Lib.run_noEscape]
  simp only [Result.andThen]
  rw [Oper.upon_value]
  go_wp2_with fail
  rw [Lib.run_from_unsafe w ⟨sb, 0, none⟩ Tryd.underlying166 Tryd.underlying127 Hj.out Hsh.out (by kernel_rfl)]
  simp only [Result.andThen]
  rw [Oper.upon_value]
  go_wp2_with fail
  exact ⟨rfl, .tuple #[], by simp [results, Tryd.f76], rfl, Fin.out⟩

set_option maxRecDepth 100000 in
set_option maxHeartbeats 1000000 in
theorem bldCheck_old {W w : World} {I : Nat → Option Obj} {sb : Nat} {sl : Value} {F : List (Nat × Obj)} (hst : St W w I ((sb, .cells #[.pointer (some ⟨sb, 0, none⟩), sl] 129 (0, 0)) :: F)) :
    Calls Tryd.prog 76 #[.pointer (some ⟨sb, 0, none⟩)] w fun e w' => e = .returned (.tuple #[]) ∧ St W w' I ((sb, .cells #[.pointer (some ⟨sb, 0, none⟩), sl] 129 (0, 0)) :: F) := by
  have h0 : w.cell? ⟨sb, 0, none⟩ = some (.pointer (some ⟨sb, 0, none⟩)) := hst.cell (g := sb) (cs := #[.pointer (some ⟨sb, 0, none⟩), sl]) (t := 129) (fr := (0, 0)) (by simp) 0
  have Fin := Lib.hid hst
  clear hst
  obtain ⟨j, hj⟩ : ∃ j, Tryd.prog.info? 129 = some j := by
    cases h : Tryd.prog.info? 129 with
    | some j => exact ⟨j, rfl⟩
    | none => have h2 : (Tryd.prog.info? 129).map (·.size) = some 2 := by kernel_rfl
              rw [h] at h2; cases h2
  have Hj := Lib.hid hj
  clear hj
  go_enter Tryd.func76, Tryd.ntmps76
  go_wp2_with fail
  rw [Lib.run_neq_ptr_same (w := w) _ Tryd.underlying127 Hj.out]
  go_wp2_with fail
  exact ⟨rfl, .tuple #[], by simp [results, Tryd.f76], rfl, Fin.out⟩

theorem bldCheck {W w : World} {I : Nat → Option Obj} {sb : Nat} {A0 sl : Value} {F : List (Nat × Obj)} (hA : A0 = .pointer none ∨ A0 = .pointer (some ⟨sb, 0, none⟩)) (hst : St W w I ((sb, .cells #[A0, sl] 129 (0, 0)) :: F)) :
    Calls Tryd.prog 76 #[.pointer (some ⟨sb, 0, none⟩)] w fun e w' => e = .returned (.tuple #[]) ∧ St W w' I ((sb, .cells #[.pointer (some ⟨sb, 0, none⟩), sl] 129 (0, 0)) :: F) := by
  rcases hA with rfl | rfl
  · exact bldCheck_new hst
  · exact bldCheck_old hst

set_option maxRecDepth 100000 in
set_option maxHeartbeats 1000000 in
theorem bldByte {W w : World} {I : Nat → Option Obj} {sb : Nat} {bs : List UInt8} {F : List (Nat × Obj)} (b : UInt8) (h : BldSt W w I sb bs F) (hlen : bs.length < 140737488355328) :
    Calls Tryd.prog 56 #[.pointer (some ⟨sb, 0, none⟩), .int .u8 (b.toNat : Int)] w fun e w' => e = .returned .nilIface ∧ BldSt W w' I sb (bs ++ [b]) F := by
  obtain ⟨A0, A, c, Lr, hA, hr, h0, hst⟩ := h
  go_enter Tryd.func56, Tryd.ntmps56
  go_wp2_with fail
  refine (bldCheck hA hst).mono ?_
  rintro e w1 ⟨rfl, h1⟩
  have q1 : w1.cell? ⟨sb, 1, none⟩ = some (.slice A bs.length c) := h1.cell (g := sb) (cs := #[.pointer (some ⟨sb, 0, none⟩), .slice A bs.length c]) (t := 129) (fr := (0, 0)) (by simp) 1
  have h2 : St W (w1.alloc (.cells #[.int .u8 (b.toNat : Int)] 5)) I (Lr ++ ((sb, .cells #[.pointer (some ⟨sb, 0, none⟩), .slice A bs.length c] 129 (0, 0)) :: F)) := St.swap (A := [(sb, _)]) (St.alloc_ h1 _)
  have hsrc := Src.one w1 (.int .u8 (b.toNat : Int)) 5
  clear hst hA
  have H1 := Lib.hid h1
  clear h1
  have hone : ∀ u ∈ [Value.int .u8 (b.toNat : Int)], u.oneCell' = true := by simp [Value.oneCell']
  go_wp2_with (at_builtin; refine Hid.out ?_)
  refine Lib.hid ?_
  refine wpList_append_row0 (F := (sb, .cells #[.pointer (some ⟨sb, 0, none⟩), .slice A bs.length c] 129 (0, 0)) :: F) rfl (.tmp 11) (.tmp 13) _ rfl 5 (.int .u8 0) 1 1 Tryd.underlying27 (by kernel_rfl) rfl (by omega) rfl hr (by exact h2) rfl (by exact hsrc) hone (bs.length + 1) rfl ((bs ++ [b]).map bval) (by rw [List.map_append]; rfl) (by unfold maxLen; omega) (by omega) ?_
  intro A1 c1 w2 L1 hr1 h3 ho
  have q2 : w2.cell? ⟨sb, 1, none⟩ = some (.slice A bs.length c) := h3.cell (g := sb) (cs := #[.pointer (some ⟨sb, 0, none⟩), .slice A bs.length c]) (t := 129) (fr := (0, 0)) (by simp) 1
  have f2 : w2.frozen? ⟨sb, 1, none⟩ = false := h3.frozen (g := sb) (cs := #[.pointer (some ⟨sb, 0, none⟩), .slice A bs.length c]) (t := 129) (by simp) 1
  have h4 : St W (w2.setCell ⟨sb, 1, none⟩ (.slice A1 (bs.length + 1) c1)) I ((sb, .cells #[.pointer (some ⟨sb, 0, none⟩), .slice A1 (bs.length + 1) c1] 129 (0, 0)) :: (L1 ++ F)) := St.set (A := []) (St.swap (B := [(sb, _)]) h3) 1 _
  have hfin : BldSt W (w2.setCell ⟨sb, 1, none⟩ (.slice A1 (bs.length + 1) c1)) I sb (bs ++ [b]) F := by
    refine ⟨_, A1, c1, L1, .inr rfl, ?_, ?_, ?_⟩ <;> rw [List.length_append, List.length_singleton]
    · exact hr1
    · exact ho h0
    · exact h4
  have Hfin := Lib.hid hfin
  clear hfin h4 h3 hr1 ho h2 hsrc hone q1 hr h0
  go_wp2_with fail
  go_ret
  exact ⟨rfl, Hfin.out⟩

theorem St.freezeHead {W w : World} {I : Nat → Option Obj} {g n : Nat} {o : Obj} {F : List (Nat × Obj)} (h : St W w I ((g, o) :: F)) (i : Nat) : St W (w.freeze ⟨g, i, none⟩ n) I F := by
  unfold World.freeze
  split
  · exact St.weaken (A := [_]) h
  · have hF := St.weaken (A := [_]) h
    have hn := h.nodup
    simp only [List.map_cons, List.nodup_cons] at hn
    refine ⟨h.os, h.tape, h.output, fun p hp => ?_, hF.nodup, fun b o' hb => ?_, hF.apart⟩
    · have hne : g ≠ p.1 := fun e => hn.1 (e ▸ List.mem_map_of_mem hp)
      simp only [Array.getElem?_modify]
      rw [if_neg hne]
      exact hF.own p hp
    · have hne : g ≠ b := by
        rintro rfl
        have := h.apart (g, o) (by simp)
        simp only at this
        rw [this] at hb
        cases hb
      simp only [Array.getElem?_modify]
      rw [if_neg hne]
      exact h.imm b o' hb

set_option maxRecDepth 100000 in
set_option maxHeartbeats 1000000 in
theorem bldString {W w : World} {I : Nat → Option Obj} {sb : Nat} {bs : List UInt8} {F : List (Nat × Obj)} (h : BldSt W w I sb bs F) (hne : bs ≠ []) :
    Calls Tryd.prog 59 #[.pointer (some ⟨sb, 0, none⟩)] w fun e w' => e = .returned (.string ⟨bs.toArray⟩) ∧ St W w' I F := by
  obtain ⟨A0, A, c, Lr, hA, hr, h0, hst⟩ := h
  have hlen : 0 < bs.length := by cases bs with | nil => exact absurd rfl hne | cons _ _ => simp
  obtain ⟨hl, ⟨_, hz, _⟩ | ⟨g, off, cap, cur, hv, rfl, hnc, hcm, hsz, hx⟩⟩ := id hr
  · omega
  injection hv with hv1 _ hv2
  subst hv1; subst hv2
  obtain rfl := h0 _ _ _ _ rfl
  have hst' : St W w I ([(g, .cells cur 5 (0, 0))] ++ ([(sb, .cells #[A0, .slice (some ⟨g, 0, none⟩) bs.length c] 129 (0, 0))] ++ F)) := St.swap (A := [(sb, _)]) hst
  have c1 : w.drew.cell? ⟨sb, 1, none⟩ = some (.slice (some ⟨g, 0, none⟩) bs.length c) := hst.drew1.cell (g := sb) (cs := #[A0, .slice (some ⟨g, 0, none⟩) bs.length c]) (t := 129) (fr := (0, 0)) (by simp) 1
  have hg : w.heap[g]? = some (.cells cur 5 (0, 0)) := hst'.own (g, .cells cur 5 (0, 0)) (by simp)
  have hSD : (Builtin.unsafeSliceData_ #[27] 158 #[.slice (some ⟨g, 0, none⟩) bs.length c]).run Tryd.prog w.drew = .ok (.pointer (some ⟨g, 0, none⟩)) w.drew :=
    Lib.run_unsafeSliceData_row _ _ _ _ _ _ (by omega)
  have hUS : (Builtin.unsafeString_ #[158, 3] 9 #[.pointer (some ⟨g, 0, none⟩), .int .i64 bs.length]).run Tryd.prog w.drew = .ok (.string ⟨bs.toArray⟩) (w.drew.freeze ⟨g, 0, none⟩ bs.length) := by
    refine Lib.run_unsafeString_row (w := w.drew) 158 3 9 5 Tryd.underlying158 (by kernel_rfl) g cur.size (bldShape hg) bs hne (by omega) (by unfold maxLen at hcm; omega) ?_
    intro j x hj
    obtain ⟨ad, e, hc⟩ := (hr.src (fun p hp => hst.drew1.own p (by simp at hp; simp [hp]))).2 j (.int .u8 x.toNat) (by rw [List.getElem?_map, hj]; rfl)
    injection e with e
    rw [e]
    exact hc
  have fin : St W (w.drew.freeze ⟨g, 0, none⟩ bs.length) I F := St.weaken (A := [_]) (St.freezeHead hst'.drew1 0)
  have Fin := Lib.hid fin
  clear fin hst hst' hg hr h0 hl hx hsz hne
  generalize w.drew.freeze ⟨g, 0, none⟩ bs.length = w9 at *
  generalize bs.length = nb at *
  go_enter Tryd.func59, Tryd.ntmps59
  go_wp2_with fail
  go_region
  all_goals
    go_wp2_with fail
    go_ret
    exact ⟨rfl, Fin.out⟩
end Go.Proofs.YtnhlpiomfljlcaaDoor
