/- glyph.Fold: the walk. -/
import Derived.Test.YtpjfmgifddoppaaDoorTxA
import Derived.Lib.UnsafeStr
namespace Go.Proofs.YtpjfmgifddoppaaDoor
set_option linter.unusedVariables false
set_option linter.unusedSimpArgs false
open Go.RowKit Go.Lib

theorem foldPiece_ne (s : ByteArray) (pos : Nat) : foldPiece s pos ≠ [] := by
  unfold foldPiece
  split
  · simp
  · have := (Lib.encodeRuneZ_length (toLowerU ((Utf8.decode s pos).1 : Int))).1
    intro h
    have h2 : (Lib.encodeRune (toLowerU ((Utf8.decode s pos).1 : Int))).length = 0 := by rw [h]; rfl
    simp [Lib.encodeRune] at h2
    rw [h2] at this
    simp at this
theorem foldOf_ne (s : ByteArray) (h : s.size ≠ 0) : foldOf s ≠ [] := by
  obtain ⟨f, hf⟩ : ∃ f, s.size = f + 1 := ⟨s.size - 1, by omega⟩
  unfold foldOf runesOf
  rw [hf, runesFrom_step s f 0 (by omega)]
  simp only [List.flatMap_cons]
  intro h2
  have := List.append_eq_nil_iff.1 h2
  exact foldPiece_ne s 0 this.1

set_option maxRecDepth 100000 in
set_option maxHeartbeats 2000000 in
theorem fold_any {W w : World} {I : Nat → Option Obj} {L : List (Nat × Obj)} (t : TB W I) (tc : TabC W) (s : ByteArray) (hs : s.size ≤ 35184372088830) (h : St W w I L) :
    Calls Tryd.prog 49 #[.string s] w fun e w' => e = .returned (.string ⟨(foldOf s).toArray⟩) ∧ St W w' I L := by
  obtain ⟨sb, hsb⟩ : ∃ sb, sb = w.heap.size := ⟨_, rfl⟩
  have h1 := (h.alloc (.cells #[.pointer none, .slice none 0 0] 66)).alloc (.stringIter s 0)
  have hz : (w.alloc (.cells #[.pointer none, .slice none 0 0] 66)).heap.size = w.heap.size + 1 := by simp
  rw [hz, ← hsb] at h1
  obtain ⟨R, hR⟩ : ∃ R : ByteArray, R = ⟨(foldOf s).toArray⟩ := ⟨_, rfl⟩
  rw [← hR]
  have HR := Lib.hid hR; have H1 := Lib.hid h1
  clear hR h1 h hz
  go_enter Tryd.func49, Tryd.ntmps49
  go_wp2_with fail
  rw [← hsb]
  have HSB := Lib.hid hsb
  clear hsb
  by_cases hs0 : s.size = 0
  · go_loopw [] (fun wr => St W wr I ((sb + 1, .stringIter s 0) :: (sb, .cells #[.pointer none, .slice none 0 0] 66 (0, 0)) :: L)) (fun _ => 0)
    case atStart => exact H1.out
    case round =>
      have hiter : wr.heap[sb + 1]? = some (.stringIter s 0) := hrel.own (sb + 1, _) (by simp)
      have hnx : ∀ ty, (Instr.next (.pointer (some ⟨sb + 1, 0, none⟩)) true ty).run Tryd.prog wr = _ := fun ty => Lib.run_next_end_at wr (sb + 1) s 0 ty hiter (by omega)
      have H2 := Lib.hid hrel
      clear hrel H1
      go_wp2_with fail
      refine (bldString0 (F := L) (St.weaken (A := [_]) H2.out)).mono ?_
      rintro e w1 ⟨rfl, h2⟩
      have H3 := Lib.hid h2
      clear h2
      have he : (foldOf s).toArray = #[] := by
        have : foldOf s = [] := by
          have := foldOf_len s
          exact List.eq_nil_of_length_eq_zero (by omega)
        rw [this]
      have hR0 : R = ⟨#[]⟩ := by rw [HR.out, he]
      have HR0 := Lib.hid hR0
      clear he hR0
      go_wp2_with fail
      go_ret
      exact ⟨by rw [HR0.out]; rfl, H3.out⟩
  · go_loopw [] (fun wr => ∃ (fuel pos : Nat) (don : List Nat), runesOf s = don ++ runesFrom s fuel pos ∧ s.size ≤ pos + fuel ∧ BldSt W wr I sb (don.flatMap (foldPiece s)) ((sb + 1, .stringIter s pos) :: L)) (fun wr => s.size - wr.iterPos (sb + 1))
    case atStart => exact ⟨s.size, 0, [], rfl, by omega, ⟨_, none, 0, [], .inl rfl, Row.nil _ _, Off0.nil, H1.out.perm (List.Perm.swap _ _ _)⟩⟩
    case round =>
      obtain ⟨fuel, pos, don, hro, hfu, hB⟩ := hrel
      clear H1
      have hiter : wr.heap[sb + 1]? = some (.stringIter s pos) := hB.heap (p := (sb + 1, _)) (by simp)
      have hdl : (don.flatMap (foldPiece s)).length ≤ 4 * s.size := by
        have h1 := foldPieces_len s don
        have h2 := runesOf_len s
        rw [hro, List.length_append] at h2
        omega
      by_cases hp : pos < s.size
      · have hnx : ∀ ty, (Instr.next (.pointer (some ⟨sb + 1, 0, none⟩)) true ty).run Tryd.prog wr = _ := fun ty => Lib.run_next_any_at wr (sb + 1) s pos ty hiter hp
        have hwd := Lib.width_pos s pos
        have hrl := Lib.rune_le s pos
        have h2 := hB.iter (pos + (Utf8.decode s pos).2)
        obtain ⟨f, rfl⟩ : ∃ f, fuel = f + 1 := ⟨fuel - 1, by omega⟩
        rw [runesFrom_step s f pos hp] at hro
        have hro2 : runesOf s = (don ++ [pos]) ++ runesFrom s f (pos + (Utf8.decode s pos).2) := by rw [hro]; simp
        have hfl : (don ++ [pos]).flatMap (foldPiece s) = don.flatMap (foldPiece s) ++ foldPiece s pos := by simp
        obtain ⟨acc, hacc⟩ : ∃ acc, don.flatMap (foldPiece s) = acc := ⟨_, rfl⟩
        rw [hacc] at h2 hdl hfl
        obtain ⟨A0, A, c, Lr, hA, hr, h0, hst⟩ := h2
        have HRO := Lib.hid hro2; have HI := Lib.hid hiter; have HST := Lib.hid hst; have HFL := Lib.hid hfl; have HRR := Lib.hid hr; have HO := Lib.hid h0
        clear hro hro2 hB hst hfl hacc hr h0
        go_wp2_with fail
        refine (broken_any t s pos hp HST.out).mono ?_
        rintro e w1 ⟨rfl, h3⟩
        have hB1 : BldSt W w1 I sb acc ((sb + 1, .stringIter s (pos + (Utf8.decode s pos).2)) :: L) := ⟨A0, A, c, Lr, hA, HRR.out, HO.out, h3⟩
        have HB1 := Lib.hid hB1
        clear hB1 h3 HST HRR HO hA hiter
        cases hbr : brokenAt s pos with
        | true =>
          have hfp : foldPiece s pos = [s[pos]'hp] := by rw [foldPiece, hbr, if_pos rfl, get_lt s pos hp]
          have HFP := Lib.hid hfp
          clear hfp
          go_wp2_with fail
          refine (bldByte (s[pos]'hp) HB1.out (by omega)).mono ?_
          rintro e w2 ⟨rfl, h4⟩
          have H4 := Lib.hid h4
          clear h4 HB1
          go_wp2_with fail
          go_roundw
          case rel => exact ⟨f, _, don ++ [pos], HRO.out, by omega, by rw [HFL.out, HFP.out]; exact H4.out⟩
          case measure =>
            have h5 : w2.heap[sb + 1]? = some (.stringIter s (pos + (Utf8.decode s pos).2)) := H4.out.heap (p := (sb + 1, _)) (by simp)
            simp only [World.iterPos, h5, HI.out]
            omega
        | false =>
          have hfp : foldPiece s pos = Lib.encodeRune (toLowerU ((Utf8.decode s pos).1 : Int)) := by rw [foldPiece, hbr]; rfl
          have hlr := (toLowerU_ok _ (rune_ok s pos)).range
          have HFP := Lib.hid hfp
          clear hfp
          go_wp2_with fail
          refine (Tryd.unicode_ToLower_laid ((Utf8.decode s pos).1 : Int) w1 (tc.below (HB1.out.frame.below t.le)).case).mono ?_
          rintro e w2 ⟨rfl, q, rfl⟩
          obtain ⟨A0, A, c, Lr, hA, hr, h0, hst⟩ := HB1.out
          have hB2 : BldSt W (w1.drewN q) I sb acc ((sb + 1, .stringIter s (pos + (Utf8.decode s pos).2)) :: L) := ⟨A0, A, c, Lr, hA, hr, h0, hst.drew q⟩
          have HB2 := Lib.hid hB2
          clear hB2 HB1 hA hr h0 hst
          generalize toLowerU ((Utf8.decode s pos).1 : Int) = tl at *
          go_wp2_with fail
          refine (bldRune tl hlr.1 hlr.2 HB2.out (by omega)).mono ?_
          rintro e w3 ⟨v, rfl, h4⟩
          have H4 := Lib.hid h4
          clear h4 HB2
          go_wp2_with fail
          go_roundw
          case rel => exact ⟨f, _, don ++ [pos], HRO.out, by omega, by rw [HFL.out, HFP.out]; exact H4.out⟩
          case measure =>
            have h5 : w3.heap[sb + 1]? = some (.stringIter s (pos + (Utf8.decode s pos).2)) := H4.out.heap (p := (sb + 1, _)) (by simp)
            simp only [World.iterPos, h5, HI.out]
            omega
      · have hend : runesOf s = don := by rw [hro, runesFrom_end s _ _ hp, List.append_nil]
        have hnx : ∀ ty, (Instr.next (.pointer (some ⟨sb + 1, 0, none⟩)) true ty).run Tryd.prog wr = _ := fun ty => Lib.run_next_end_at wr (sb + 1) s pos ty hiter hp
        have hne : don.flatMap (foldPiece s) ≠ [] := by rw [← hend]; exact foldOf_ne s hs0
        have hR1 : R = ⟨(don.flatMap (foldPiece s)).toArray⟩ := by rw [HR.out, foldOf, hend]
        obtain ⟨acc, hacc⟩ : ∃ acc, don.flatMap (foldPiece s) = acc := ⟨_, rfl⟩
        rw [hacc] at hB hne hR1
        have HB := Lib.hid hB; have HR1 := Lib.hid hR1
        clear hB hR1 hiter hro hend hacc hdl
        go_wp2_with fail
        refine (bldString HB.out hne).mono ?_
        rintro e w1 ⟨rfl, h2⟩
        have H3 := Lib.hid (St.weaken (A := [_]) h2)
        clear h2
        go_wp2_with fail
        go_ret
        exact ⟨by rw [HR1.out]; rfl, H3.out⟩
end Go.Proofs.YtpjfmgifddoppaaDoor
