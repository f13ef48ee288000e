/- glyph: part, Name: walks. -/
import Derived.Test.YtjcekmmieihllaaDoorGlyPA
import Derived.Deep.QuietTactic
import Derived.BigQuiet
import Derived.Laws.RangeAny
namespace Go.Proofs.YtjcekmmieihllaaDoor
set_option linter.unusedVariables false
set_option linter.unusedSimpArgs false
open Go.RowKit Go.Lib

set_option maxRecDepth 100000 in
set_option maxHeartbeats 1000000 in
theorem part_any {W w : World} {I : Nat → Option Obj} {L : List (Nat × Obj)} (t : TB W I) (t4 : Tab4 W) (r : Int) (first : Bool) (hlo : -2147483648 ≤ r) (hhi : r ≤ 2147483647) (h : St W w I L) :
    Calls Tryd.prog 50 #[.int .i32 r, .bool first] w fun e w' => e = .returned (.bool (partOk r first)) ∧ St W w' I L := by
  have cL := fun (v : World) (hv : St W v I L) => Tryd.unicode_IsLetter_all r v hlo hhi (t4.below (hv.below t.le)).props (t4.below (hv.below t.le)).letter
  have cD := fun (v : World) (hv : St W v I L) => Tryd.unicode_IsDigit_all r v hlo hhi (t4.below (hv.below t.le)).digit
  have CL := Lib.hid cL; have CD := Lib.hid cD; have H := Lib.hid h
  clear cL cD h t
  unfold partOk
  generalize isLetterU r = bl at *
  generalize isDigitU r = bd at *
  go_enter Tryd.func50, Tryd.ntmps50
  go_wp2_with fail
  refine (CL.out _ H.out).mono ?_
  rintro e w1 ⟨rfl, hb⟩
  have H1 := Lib.hid (H.out.belowTo hb)
  clear hb H CL
  cases bl with
  | true =>
    go_wp2_with fail
    go_ret
    exact ⟨rfl, H1.out⟩
  | false =>
    cases first with
    | true =>
      go_wp2_with fail
      go_ret
      exact ⟨rfl, H1.out⟩
    | false =>
      go_wp2_with fail
      refine (CD.out _ H1.out).mono ?_
      rintro e w2 ⟨rfl, hb⟩
      have H2 := Lib.hid (H1.out.belowTo hb)
      clear hb H1 CD
      cases bd with
      | true =>
        go_wp2_with fail
        go_ret
        exact ⟨rfl, H2.out⟩
      | false =>
        go_wp2_with fail
        all_goals
          go_ret
          exact ⟨by simp_all, H2.out⟩

set_option maxRecDepth 100000 in
set_option maxHeartbeats 2000000 in
theorem name_any {W w : World} {I : Nat → Option Obj} {L : List (Nat × Obj)} (t : TB W I) (t4 : Tab4 W) (s : ByteArray) (hs : s.size ≤ 140737488355328) (h : St W w I L) :
    Calls Tryd.prog 32 #[.string s] w fun e w' => e = .returned (.int .i64 (if nameOk s then 0 else 41)) ∧ St W w' I L := by
  obtain ⟨it, hit⟩ : ∃ it, it = w.heap.size := ⟨_, rfl⟩
  have h1 := h.alloc (.stringIter s 0)
  rw [← hit] at h1
  have H1 := Lib.hid h1
  clear h1 h
  obtain ⟨R, hR⟩ : ∃ R : Int, R = (if nameOk s then 0 else 41) := ⟨_, rfl⟩
  rw [← hR]
  have HR := Lib.hid hR
  clear hR
  go_enter Tryd.func32, Tryd.ntmps32
  go_wp2_with fail
  rw [← hit]
  have HIT := Lib.hid hit
  clear hit
  go_loopw [3] (fun n wr => ∃ (fuel pos : Nat) (don : List Nat), n = .int .i64 don.length ∧ runesOf s = don ++ runesFrom s fuel pos ∧ s.size ≤ pos + fuel ∧ allOk s don 0 = true ∧ St W wr I ((it, .stringIter s pos) :: L)) (fun _ wr => s.size - wr.iterPos it)
  case atStart => exact ⟨s.size, 0, [], rfl, rfl, by omega, rfl, H1.out⟩
  case round =>
    obtain ⟨fuel, pos, don, rfl, hro, hfu, hall, hst⟩ := hrel
    clear H1
    have hiter : wr.heap[it]? = some (.stringIter s pos) := hst.own (it, _) (by simp)
    have hdl : don.length ≤ s.size := by have := runesOf_len s; rw [hro, List.length_append] at this; omega
    by_cases hp : pos < s.size
    · have hnx : ∀ ty, (Instr.next (.pointer (some ⟨it, 0, none⟩)) true ty).run Tryd.prog wr = _ := fun ty => Lib.run_next_any_at wr it s pos ty hiter hp
      have hwd := Lib.width_pos s pos
      have hrl := Lib.rune_le s pos
      have h2 := hst.iter (pos + (Utf8.decode s pos).2)
      obtain ⟨f, rfl⟩ : ∃ f, fuel = f + 1 := ⟨fuel - 1, by omega⟩
      rw [runesFrom_step s f pos hp] at hro
      have hro2 : runesOf s = (don ++ [pos]) ++ runesFrom s f (pos + (Utf8.decode s pos).2) := by rw [hro]; simp
      have hok : nameOk s = true → placeOk s pos (don.length == 0) = true := fun hn => by
        simp only [nameOk, Bool.and_eq_true] at hn
        have h3 := hn.2
        rw [hro, allOk_append, allOk] at h3
        simp only [Bool.and_eq_true, Nat.zero_add] at h3
        exact h3.2.1
      have HOK := Lib.hid hok; have HRO := Lib.hid hro2; have H2 := Lib.hid h2; have HALL := Lib.hid hall; have HI := Lib.hid hiter
      clear hok hro hro2 h2 hall hst
      go_wp2_with fail
      refine (broken_any t s pos hp H2.out).mono ?_
      rintro e w1 ⟨rfl, h3⟩
      have H3 := Lib.hid h3
      clear h3 H2 hiter
      cases hbr : brokenAt s pos with
      | true =>
        have hno : nameOk s = false := by
          cases hn : nameOk s with
          | false => rfl
          | true => have := HOK.out hn; rw [placeOk, hbr] at this; simp at this
        go_wp2_with fail
        go_ret
        exact ⟨by rw [HR.out, hno]; rfl, St.weaken (A := [_]) H3.out⟩
      | false =>
        go_wp2_with fail
        refine (part_any t t4 _ _ (by omega) (by omega) H3.out).mono ?_
        rintro e w2 ⟨rfl, h4⟩
        have H4 := Lib.hid h4
        clear h4 H3
        have hfe : ((don.length : Int) == 0) = (don.length == 0) := by
          by_cases hd : don.length = 0
          · rw [hd]; rfl
          · have h1 : ¬ (don.length : Int) = 0 := by omega
            rw [beq_eq_false_iff_ne.2 h1, beq_eq_false_iff_ne.2 hd]
        rw [hfe]
        cases hq : partOk ((Utf8.decode s pos).1 : Int) (don.length == 0) with
        | true =>
          have hal2 : allOk s (don ++ [pos]) 0 = true := by
            rw [allOk_append, HALL.out, allOk, allOk, placeOk, hbr, Nat.zero_add, hq]; rfl
          have HAL2 := Lib.hid hal2
          clear hal2 hfe hq
          go_wp2_with fail
          go_roundw
          case rel =>
            exact ⟨f, _, don ++ [pos], by simp, HRO.out, by omega, HAL2.out, H4.out⟩
          case measure =>
            have h5 : w2.heap[it]? = some (.stringIter s (pos + (Utf8.decode s pos).2)) := H4.out.own (it, _) (by simp)
            simp only [World.iterPos, h5, HI.out]
            omega
        | false =>
          have hno : nameOk s = false := by
            cases hn : nameOk s with
            | false => rfl
            | true => have := HOK.out hn; rw [placeOk, hbr, hq] at this; simp at this
          have HNO := Lib.hid hno
          clear hno hfe hq
          go_wp2_with fail
          go_ret
          exact ⟨by rw [HR.out, HNO.out]; rfl, St.weaken (A := [_]) H4.out⟩
    · have hend : runesOf s = don := by rw [hro, runesFrom_end s _ _ hp, List.append_nil]
      have hnx : ∀ ty, (Instr.next (.pointer (some ⟨it, 0, none⟩)) true ty).run Tryd.prog wr = _ := fun ty => Lib.run_next_end_at wr it s pos ty hiter hp
      have hnm : nameOk s = (decide (1 ≤ don.length) && decide (don.length ≤ 24)) := by rw [nameOk, hend, hall, Bool.and_true]
      have HNM := Lib.hid hnm
      have H2 := Lib.hid hst
      clear hst hiter hro hall hnm hend
      by_cases h1 : don.length < 1
      · have h1' : (don.length : Int) < 1 := by omega
        go_wp2_with fail
        go_ret
        exact ⟨by rw [HR.out, HNM.out]; simp [show ¬ 1 ≤ don.length by omega], St.weaken (A := [_]) H2.out⟩
      · by_cases h24 : 24 < don.length
        · have h1' : (24 : Int) < don.length := by omega
          go_wp2_with fail
          go_ret
          exact ⟨by rw [HR.out, HNM.out]; simp [show ¬ don.length ≤ 24 by omega], St.weaken (A := [_]) H2.out⟩
        · have h1' : ¬ (24 : Int) < don.length := by omega
          go_wp2_with fail
          go_ret
          exact ⟨by rw [HR.out, HNM.out]; simp [show don.length ≤ 24 by omega, show 1 ≤ don.length by omega], St.weaken (A := [_]) H2.out⟩
end Go.Proofs.YtjcekmmieihllaaDoor
