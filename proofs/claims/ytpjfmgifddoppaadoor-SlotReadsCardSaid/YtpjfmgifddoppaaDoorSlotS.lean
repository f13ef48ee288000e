/- slot: split, number: walks. -/
import Derived.Test.YtpjfmgifddoppaaDoorSlotT
namespace Go.Proofs.YtpjfmgifddoppaaDoor
set_option linter.unusedVariables false
set_option linter.unusedSimpArgs false
open Go.RowKit Go.Lib

/-- A text, cut at its blanks, rune by rune. -/
def splG (s : ByteArray) : List Nat → Nat → List ByteArray
  | [], f => [s.extract f s.size]
  | p :: ps, f => if (Utf8.decode s p).1 = 32 then s.extract f p :: splG s ps (p + 1) else splG s ps f
def splO (s : ByteArray) : List ByteArray := splG s (runesOf s) 0
theorem splG_ne (s : ByteArray) : ∀ (l : List Nat) (f : Nat), splG s l f ≠ []
  | [], f => by simp [splG]
  | p :: ps, f => by
    unfold splG
    split
    · simp
    · exact splG_ne s ps f
theorem splG_len (s : ByteArray) : ∀ (l : List Nat) (f : Nat), (splG s l f).length ≤ l.length + 1
  | [], f => by simp [splG]
  | p :: ps, f => by
    unfold splG
    split
    · have := splG_len s ps (p + 1)
      simp
      omega
    · have := splG_len s ps f
      simp
      omega
theorem splG_size (s : ByteArray) : ∀ (l : List Nat) (f : Nat), ∀ x ∈ splG s l f, x.size ≤ s.size
  | [], f, x, h => by
    simp [splG] at h
    subst h
    simp
  | p :: ps, f, x, h => by
    unfold splG at h
    split at h
    · rcases List.mem_cons.1 h with rfl | h
      · simp; omega
      · exact splG_size s ps (p + 1) x h
    · exact splG_size s ps f x h
theorem one_str (l : List ByteArray) : ∀ u ∈ l.map Value.string, u.oneCell' = true := by
  intro u hu
  obtain ⟨b, _, rfl⟩ := List.mem_map.1 hu
  rfl
theorem decode32 (s : ByteArray) (p : Nat) (h : p < s.size) (hc : (Utf8.decode s p).1 = 32) : (Utf8.decode s p).2 = 1 := by
  rw [Lib.decode_at] at hc ⊢
  have hsh := Lib.decodeN_shape (s.size - p) (s.get! p).toNat (s.get! (p + 1)).toNat (s.get! (p + 2)).toNat (s.get! (p + 3)).toNat
  rcases hsh with ⟨_, e⟩ | ⟨_, _, _, cv, e⟩ | ⟨_, _, _, _, cv, _, e⟩ | ⟨_, _, _, _, _, cv, _, e⟩ | e
  all_goals
    rw [e] at hc
    simp only at hc
    first
      | (rw [e]; done)
      | omega

section
variable {W w : World} {I : Nat → Option Obj} {F : List (Nat × Obj)}
/-- The words of a text in a row of the call's own. -/
def SplPost (W : World) (I : Nat → Option Obj) (F : List (Nat × Obj)) (l : List ByteArray) (e : Ending) (w' : World) : Prop :=
  ∃ A c L', e = .returned (.slice A l.length c) ∧ Row 9 1 (.slice A l.length c) l.length (l.map Value.string) L' ∧ St W w' I (L' ++ F)

set_option maxRecDepth 100000 in
set_option maxHeartbeats 4000000 in
theorem slot_split (s : ByteArray) (hs : s.size ≤ 1000000000) (h : St W w I F) :
    Calls Tryd.prog 74 #[.string s] w (SplPost W I F (splO s)) := by
  obtain ⟨sb, hsb⟩ : ∃ sb, w.heap.size = sb := ⟨_, rfl⟩
  have h1 := h.alloc (.stringIter s 0)
  rw [hsb] at h1
  have hnl := runesOf_len s
  obtain ⟨R, hR⟩ : ∃ R, splO s = R := ⟨_, rfl⟩
  rw [hR]
  have hR2 : splG s (runesFrom s s.size 0) 0 = R := hR
  have hRl : R.length ≤ s.size + 1 := by
    have := splG_len s (runesOf s) 0
    rw [← hR]
    unfold splO
    omega
  have HR := Lib.hid hR2; have H1 := Lib.hid h1; have HNL := Lib.hid hnl
  clear hR hR2 h1 h hnl
  go_enter Tryd.func74, Tryd.ntmps74
  go_wp2_with fail
  go_loopw [3, 4] (fun o fr wr => ∃ (fuel pos f : Nat) (don : List ByteArray) (A : Option Addr) (c : Nat) (L0 : List (Nat × Obj)), o = .slice A don.length c ∧ fr = .int .i64 f ∧ f ≤ pos ∧ pos ≤ s.size ∧ s.size ≤ pos + fuel ∧ don ++ splG s (runesFrom s fuel pos) f = R ∧ Row 9 1 (.slice A don.length c) don.length (don.map Value.string) L0 ∧ St W wr I ((sb, .stringIter s pos) :: (L0 ++ F))) (fun _ _ wr => s.size - wr.iterPos sb)
  case atStart => exact ⟨s.size, 0, 0, [], none, 0, [], rfl, rfl, by omega, by omega, by omega, HR.out, Row.nil _ _, H1.out⟩
  case round =>
    obtain ⟨fuel, pos, f, don, A, c, L0, rfl, rfl, hf, hps, hfu, hro, hrow, hst⟩ := hrel
    clear H1 HR
    have hiter : wr.heap[sb]? = some (.stringIter s pos) := hst.own (sb, _) (by simp)
    have hdl : don.length ≤ s.size + 1 := by
      rw [← hro, List.length_append] at hRl
      omega
    by_cases hp : pos < s.size
    · have hnx : ∀ ty, (Instr.next (.pointer (some ⟨sb, 0, none⟩)) true ty).run Tryd.prog wr = _ := fun ty => Lib.run_next_any_at wr sb s pos ty hiter hp
      have hwd := Lib.width_pos s pos
      have hrl := Lib.rune_le s pos
      have hwl := width_le s pos hp
      have h2 := hst.iter (pos + (Utf8.decode s pos).2)
      obtain ⟨g, rfl⟩ : ∃ g, fuel = g + 1 := ⟨fuel - 1, by omega⟩
      rw [runesFrom_step s g pos hp] at hro
      by_cases hc : (Utf8.decode s pos).1 = 32
      · have hw1 := decode32 s pos hp hc
        have hro2 : (don ++ [s.extract f pos]) ++ splG s (runesFrom s g (pos + (Utf8.decode s pos).2)) (pos + 1) = R := by
          rw [← hro, splG, if_pos hc]
          simp
        have hcI : ((Utf8.decode s pos).1 : Int) = 32 := by omega
        have h3 := h2.perm (List.perm_append_comm (l₁ := [(sb, Obj.stringIter s (pos + (Utf8.decode s pos).2))]) (l₂ := L0 ++ F))
        rw [List.append_assoc] at h3
        have hlt : pos + 1 ≤ s.size := by omega
        have HRO := Lib.hid hro2; have HI := Lib.hid hiter; have H3 := Lib.hid h3; have HROW := Lib.hid hrow
        rw [hw1] at HRO H3
        rw [hcI, hw1] at hnx
        clear hro hro2 h2 h3 hst hrow hiter hc hcI hwd hrl hwl hw1
        go_wp2_with (at_builtin; refine Hid.out ?_)
        refine Lib.hid ?_
        refine wpList_append_row (F := F ++ [(sb, Obj.stringIter s (pos + 1))]) rfl (.tmp 15) (.tmp 20) 94 rfl 9 (.string ⟨#[]⟩) 1 16 Tryd.underlying94 (by kernel_rfl) rfl (by omega) rfl HROW.out (St.alloc_ H3.out _) rfl (Src.one (wr.iterAt sb s (pos + 1)) (.string (s.extract f pos)) 9) (by intro u hu; simp at hu; subst hu; rfl) (don.length + 1) (by simp) ((don ++ [s.extract f pos]).map Value.string) (by simp) (by unfold maxLen; omega) (by omega) ?_
        intro A5 c5 w5 L5 hr5 h5
        rw [show don.length + 1 = (don ++ [s.extract f pos]).length by simp] at hr5
        have h6 : St W w5 I ((sb, .stringIter s (pos + 1)) :: (L5 ++ F)) := by
          rw [← List.append_assoc] at h5
          exact h5.perm (List.perm_append_comm (l₁ := L5 ++ F) (l₂ := [(sb, Obj.stringIter s (pos + 1))]))
        have h7 : w5.heap[sb]? = some (.stringIter s (pos + 1)) := h6.own (sb, _) (by simp)
        have hps1 : ((pos : Int) + 1) = ((pos + 1 : Nat) : Int) := by omega
        have H6 := Lib.hid h6; have H7 := Lib.hid h7; have HR5 := Lib.hid hr5; have HP1 := Lib.hid hps1
        clear h5 h6 h7 hr5 H3 HROW hps1
        go_wp2_with fail
        go_roundw
        case rel => exact ⟨g, pos + 1, pos + 1, don ++ [s.extract f pos], A5, c5, L5, by simp, by rw [HP1.out], by omega, by omega, by omega, HRO.out, HR5.out, H6.out⟩
        case measure =>
          simp only [World.iterPos, H7.out, HI.out]
          omega
      · have hro2 : don ++ splG s (runesFrom s g (pos + (Utf8.decode s pos).2)) f = R := by
          rw [← hro, splG, if_neg hc]
        have hcI : (((Utf8.decode s pos).1 : Int) == 32) = false := beq_eq_false_iff_ne.2 (by omega)
        have hh : (wr.iterAt sb s (pos + (Utf8.decode s pos).2)).heap[sb]? = some (.stringIter s (pos + (Utf8.decode s pos).2)) := h2.own (sb, _) (by simp)
        generalize (Utf8.decode s pos).1 = ch at *
        generalize (Utf8.decode s pos).2 = wd at *
        have HRO := Lib.hid hro2; have HI := Lib.hid hiter; have H3 := Lib.hid h2; have HROW := Lib.hid hrow; have HH := Lib.hid hh
        clear hro hro2 h2 hst hrow hiter hc hh
        go_wp2_with fail
        go_roundw
        case rel => exact ⟨g, pos + wd, f, don, A, c, L0, rfl, rfl, by omega, by omega, by omega, HRO.out, HROW.out, H3.out⟩
        case measure =>
          simp only [World.iterPos, HH.out, HI.out]
          omega
    · have hnx : ∀ ty, (Instr.next (.pointer (some ⟨sb, 0, none⟩)) true ty).run Tryd.prog wr = _ := fun ty => Lib.run_next_end_at wr sb s pos ty hiter hp
      rw [runesFrom_end s _ _ hp] at hro
      have hro2 : don ++ [s.extract f s.size] = R := hro
      have h2 : St W wr I (L0 ++ F) := St.weaken (A := [_]) hst
      have HRO := Lib.hid hro2; have H3 := Lib.hid h2; have HROW := Lib.hid hrow
      clear hro hro2 h2 hst hrow hiter
      have hf2 : f ≤ s.size := by omega
      go_wp2_with (at_builtin; refine Hid.out ?_)
      refine Lib.hid ?_
      refine wpList_append_row (F := F) rfl (.tmp 24) (.tmp 28) 94 rfl 9 (.string ⟨#[]⟩) 1 16 Tryd.underlying94 (by kernel_rfl) rfl (by omega) rfl HROW.out (St.alloc_ H3.out _) rfl (Src.one wr (.string (s.extract f s.size)) 9) (by intro u hu; simp at hu; subst hu; rfl) (don.length + 1) (by simp) ((don ++ [s.extract f s.size]).map Value.string) (by simp) (by unfold maxLen; omega) (by omega) ?_
      intro A5 c5 w5 L5 hr5 h5
      have HLN := Lib.hid (show don.length + 1 = (don ++ [s.extract f s.size]).length by simp)
      have H6 := Lib.hid h5; have HR5 := Lib.hid hr5
      clear h5 hr5 H3 HROW
      go_wp2_with fail
      go_ret
      rw [← HRO.out]
      have hr5 := HR5.out
      rw [HLN.out] at hr5
      exact ⟨A5, c5, L5, by rw [← HLN.out]; rfl, hr5, H6.out⟩
set_option maxRecDepth 100000 in
/-- A word's number; 0: it has none. -/
def numO (x : ByteArray) : Nat := (pN 10 18446744073709551615 x.data.toList).getD 0
theorem numO_le (x : ByteArray) : numO x ≤ 18446744073709551615 := by
  unfold numO
  cases h : pN 10 18446744073709551615 x.data.toList with
  | none => simp
  | some u => exact pN_le _ _ _ _ h
set_option maxRecDepth 100000 in
theorem slot_number (ev : ErrV W I) (x : ByteArray) (hx : x.size ≤ 1000000000) (h : St W w I F) :
    Calls Tryd.prog 76 #[.string x] w fun e w' => e = .returned (.int .u64 (numO x)) ∧ St W w' I F := by
  have kP := pu_d64 ev x hx h
  have hn := numO.eq_1 x
  generalize numO x = n at *
  generalize pN 10 18446744073709551615 x.data.toList = r at *
  have KP := Lib.hid kP; have HN := Lib.hid hn
  clear kP h hn ev
  go_enter Tryd.func76, Tryd.ntmps76
  go_wp2_with fail
  refine KP.out.mono ?_
  rintro e w1 ⟨h1, he⟩
  have H1 := Lib.hid h1
  clear h1 KP
  cases r with
  | some u =>
    obtain rfl := he
    go_wp2_with fail
    go_ret
    exact ⟨by rw [HN.out]; rfl, H1.out⟩
  | none =>
    obtain ⟨y, t, p, rfl⟩ := he
    go_wp2_with fail
    go_ret
    exact ⟨by rw [HN.out]; rfl, H1.out⟩
end
end Go.Proofs.YtpjfmgifddoppaaDoor
