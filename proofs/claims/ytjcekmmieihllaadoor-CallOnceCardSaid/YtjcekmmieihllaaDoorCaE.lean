/- call: number, split: walks. call: Parse: walk. -/
import Derived.Test.YtjcekmmieihllaaDoorCallC
import Derived.Test.YtjcekmmieihllaaDoorRdA
import Derived.Deep.RegionWith
import Derived.Deep.RegionHeld3
import Derived.Deep.MidRow
namespace Go.Proofs.YtjcekmmieihllaaDoor
section
set_option linter.unusedVariables false
set_option linter.unusedSimpArgs false
set_option linter.unnecessarySimpa false
open Go.RowKit Go.Lib

theorem numI_range (x : List UInt8) : -1 ≤ numI x ∧ numI x ≤ 4611686018427387903 := by
  unfold numI
  cases h : pN 10 4611686018427387903 x with
  | none => simp
  | some u =>
    have := pN_le _ _ _ _ h
    simp only
    omega
theorem splR_ne (s : ByteArray) : ∀ (l : List Nat) (cur : List UInt8), splR s l cur ≠ []
  | [], cur => by simp [splR]
  | p :: ps, cur => by
    unfold splR
    split
    · simp
    · exact splR_ne s ps _
theorem splR_len (s : ByteArray) : ∀ (l : List Nat) (cur : List UInt8), (splR s l cur).length ≤ l.length + 1
  | [], cur => by simp [splR]
  | p :: ps, cur => by
    unfold splR
    split
    · have := splR_len s ps []
      simp
      omega
    · have := splR_len s ps (cur ++ Lib.encodeRune ((Utf8.decode s p).1 : Int))
      simp
      omega
theorem splR_size (s : ByteArray) : ∀ (l : List Nat) (cur : List UInt8), ∀ x ∈ splR s l cur, x.length ≤ cur.length + 4 * l.length
  | [], cur, x, h => by
    simp [splR] at h
    subst h
    simp
  | p :: ps, cur, x, h => by
    have he := (Lib.encodeRuneZ_length ((Utf8.decode s p).1 : Int)).2
    have he2 : (Lib.encodeRune ((Utf8.decode s p).1 : Int)).length ≤ 4 := by unfold Lib.encodeRune; rw [List.length_map]; omega
    unfold splR at h
    split at h
    · rcases List.mem_cons.1 h with rfl | h
      · simp
      · have := splR_size s ps [] x h
        simp at this ⊢
        omega
    · have := splR_size s ps _ x h
      rw [List.length_append] at this
      simp only [List.length_cons]
      omega
theorem one_strs (l : List (List UInt8)) : ∀ u ∈ l.map (fun z => Value.string ⟨z.toArray⟩), u.oneCell' = true := by
  intro u hu
  obtain ⟨b, _, rfl⟩ := List.mem_map.1 hu
  rfl
section
variable {W w : World} {I : Nat → Option Obj} {F : List (Nat × Obj)} {sb : Nat} {bs : List UInt8}
set_option maxRecDepth 100000 in
theorem call_number (ev : ErrV W I) (x : List UInt8) (hx : x.length ≤ 1000000000) (h : St W w I F) :
    Calls Tryd.prog 39 #[.string ⟨x.toArray⟩] w fun e w' => e = .returned (.int .i64 (numI x)) ∧ St W w' I F := by
  have kP := pu_d62 ev ⟨x.toArray⟩ (by rw [ba_size]; exact hx) h
  rw [show (⟨x.toArray⟩ : ByteArray).data.toList = x by simp] at kP
  have hn := numI.eq_1 x
  have hle := pN_le 10 4611686018427387903 x
  generalize numI x = n at *
  generalize pN 10 4611686018427387903 x = r at *
  generalize (⟨x.toArray⟩ : ByteArray) = bx at *
  have KP := Lib.hid kP; have HN := Lib.hid hn; have HLE := Lib.hid hle
  clear kP h hn ev hle
  go_enter Tryd.func39, Tryd.ntmps39
  go_wp2_with fail
  refine KP.out.mono ?_
  rintro e w1 ⟨h1, he⟩
  have H1 := Lib.hid h1
  clear h1 KP
  cases r with
  | some u =>
    obtain rfl := he
    have hu := HLE.out u rfl
    have hui : (u : Int) ≤ 4611686018427387903 := by omega
    have hn : n = (u : Int) := HN.out
    subst hn
    go_wp2_with fail
    go_ret
    exact ⟨rfl, H1.out⟩
  | none =>
    obtain ⟨y, t, p, rfl⟩ := he
    have hn : n = -1 := HN.out
    subst hn
    go_wp2_with fail
    go_ret
    exact ⟨rfl, H1.out⟩
/-- A builder: nothing in it, or something. -/
def BS (W w : World) (I : Nat → Option Obj) (sb : Nat) (bs : List UInt8) (F : List (Nat × Obj)) : Prop :=
  (bs = [] ∧ St W w I ((sb, .cells #[.pointer none, .slice none 0 0] 106 (0, 0)) :: F)) ∨ (bs ≠ [] ∧ BldSt W w I sb bs F)
/-- A builder that was read. -/
def RS (W w : World) (I : Nat → Option Obj) (sb : Nat) (F : List (Nat × Obj)) : Prop :=
  ∃ A0 sl L, St W w I (((sb, .cells #[A0, sl] 106 (0, 0)) :: L) ++ F)
theorem BS.bld (h : BS W w I sb bs F) : BldSt W w I sb bs F := by
  rcases h with ⟨rfl, h⟩ | ⟨_, h⟩
  · exact ⟨_, none, 0, [], .inl rfl, Row.nil _ _, Off0.nil, h⟩
  · exact h
theorem BS.frame (h : BS W w I sb bs F) : St W w I F := h.bld.frame
theorem BS.iter {it : Nat} {s : ByteArray} {pos : Nat} (pos' : Nat) (h : BS W w I sb bs ((it, .stringIter s pos) :: F)) : BS W (w.iterAt it s pos') I sb bs ((it, .stringIter s pos') :: F) := by
  rcases h with ⟨rfl, h⟩ | ⟨hn, h⟩
  · exact .inl ⟨rfl, ((h.perm (List.Perm.swap _ _ _)).iter pos').perm (List.Perm.swap _ _ _)⟩
  · exact .inr ⟨hn, h.iter pos'⟩
theorem BS.perm {F' : List (Nat × Obj)} (hp : F.Perm F') (h : BS W w I sb bs F) : BS W w I sb bs F' := by
  rcases h with ⟨rfl, h⟩ | ⟨hn, A0, A, c, Lr, h1, h2, h3, h⟩
  · exact .inl ⟨rfl, h.perm (List.Perm.cons _ hp)⟩
  · exact .inr ⟨hn, A0, A, c, Lr, h1, h2, h3, h.perm (List.Perm.cons _ (List.Perm.append_left _ hp))⟩
theorem enc_ne (r : Int) : Lib.encodeRune r ≠ [] := by
  intro h
  have := (Lib.encodeRuneZ_length r).1
  have h2 : (Lib.encodeRune r).length = 0 := by rw [h]; rfl
  unfold Lib.encodeRune at h2
  rw [List.length_map] at h2
  omega
theorem bS_rune (r : Int) (hr0 : -2147483648 ≤ r) (hr1 : r ≤ 2147483647) (h : BS W w I sb bs F) (hlen : bs.length + 4 ≤ 140737488355328) :
    Calls Tryd.prog 56 #[.pointer (some ⟨sb, 0, none⟩), .int .i32 r] w fun e w' => ∃ v, e = .returned v ∧ BS W w' I sb (bs ++ Lib.encodeRune r) F :=
  (bldRune r hr0 hr1 h.bld hlen).mono fun e w' ⟨v, he, hb⟩ => ⟨v, he, .inr ⟨fun hn => enc_ne r (List.append_eq_nil_iff.1 hn).2, hb⟩⟩
theorem bS_string (h : BS W w I sb bs F) :
    Calls Tryd.prog 59 #[.pointer (some ⟨sb, 0, none⟩)] w fun e w' => e = .returned (.string ⟨bs.toArray⟩) ∧ RS W w' I sb F := by
  rcases h with ⟨rfl, h⟩ | ⟨hn, h⟩
  · exact (bldString0k h).mono fun e w' ⟨he, hs⟩ => ⟨he, _, _, [], hs⟩
  · exact (bldStringF (h.toF hn)).mono fun e w' ⟨he, A0, g, c, cur, fr, _, _, _, _, hs⟩ => ⟨he, A0, _, [(g, .cells cur 5 fr)], hs.perm (List.Perm.swap _ _ _)⟩
set_option maxRecDepth 100000 in
theorem bS_reset (h : RS W w I sb F) :
    Calls Tryd.prog 61 #[.pointer (some ⟨sb, 0, none⟩)] w fun e w' => e = .returned (.tuple #[]) ∧ BS W w' I sb [] F := by
  obtain ⟨A0, sl, L, hst⟩ := h
  have c0 : w.cell? ⟨sb, 0, none⟩ = some A0 := hst.cell (g := sb) (cs := #[A0, sl]) (t := 106) (fr := (0, 0)) (by simp) 0
  have c1 : w.cell? ⟨sb, 1, none⟩ = some sl := hst.cell (g := sb) (cs := #[A0, sl]) (t := 106) (fr := (0, 0)) (by simp) 1
  have f0 := hst.frozen (g := sb) (cs := #[A0, sl]) (t := 106) (by simp) 0
  have f1 := hst.frozen (g := sb) (cs := #[A0, sl]) (t := 106) (by simp) 1
  have h1 : St W (w.setCell ⟨sb, 0, none⟩ (.pointer none)) I ((sb, .cells #[.pointer none, sl] 106 (0, 0)) :: (L ++ F)) := St.set (A := []) hst 0 (.pointer none)
  have h2 : St W ((w.setCell ⟨sb, 0, none⟩ (.pointer none)).setCell ⟨sb, 1, none⟩ (.slice none 0 0)) I ((sb, .cells #[.pointer none, .slice none 0 0] 106 (0, 0)) :: (L ++ F)) := St.set (A := []) h1 1 (.slice none 0 0)
  have h3 := St.mid (A := [_]) (B := L) h2
  have H3 := Lib.hid h3
  clear hst h1 h2 h3
  go_enter Tryd.func61, Tryd.ntmps61
  go_wp2_with fail
  refine ⟨rfl, .tuple #[], by simp [results, Tryd.f61], ?_⟩
  exact ⟨rfl, .inl ⟨rfl, H3.out⟩⟩

/-- The words of a text in a row of the call's own. -/
def SpPost (W : World) (I : Nat → Option Obj) (F : List (Nat × Obj)) (l : List (List UInt8)) (e : Ending) (w' : World) : Prop :=
  ∃ A c L', e = .returned (.slice A l.length c) ∧ Row 9 1 (.slice A l.length c) l.length (l.map fun z => Value.string ⟨z.toArray⟩) L' ∧ St W w' I (L' ++ F)
set_option maxRecDepth 100000 in
set_option maxHeartbeats 4000000 in
theorem call_split (s : ByteArray) (hs : s.size ≤ 100000000) (h : St W w I F) :
    Calls Tryd.prog 38 #[.string s] w (SpPost W I F (wordsOf s)) := by
  obtain ⟨sb, hsb⟩ : ∃ sb, w.heap.size = sb := ⟨_, rfl⟩
  have h1 := (h.alloc (.cells #[.pointer none, .slice none 0 0] 106)).alloc (.stringIter s 0)
  rw [World.size_alloc, hsb] at h1
  have hnl := runesOf_len s
  have hr0 : BS W ((w.alloc (.cells #[.pointer none, .slice none 0 0] 106)).alloc (.stringIter s 0)) I sb [] ((sb + 1, .stringIter s 0) :: F) := .inl ⟨rfl, h1.perm (List.Perm.swap _ _ _)⟩
  obtain ⟨R, hR⟩ : ∃ R, wordsOf s = R := ⟨_, rfl⟩
  rw [hR]
  have hR2 : splR s (runesFrom s s.size 0) [] = R := hR
  have hRl : R.length ≤ s.size + 1 := by
    have := splR_len s (runesOf s) []
    rw [← hR]
    unfold wordsOf
    omega
  have HR := Lib.hid hR2; have H1 := Lib.hid hr0; have HRL := Lib.hid hRl
  clear hR hR2 h1 h hnl hr0 hRl
  go_enter Tryd.func38, Tryd.ntmps38
  go_wp2_with fail
  go_loopw [3] (fun o wr => ∃ (fuel pos : Nat) (cur : List UInt8) (don : List (List UInt8)) (A : Option Addr) (c : Nat) (L0 : List (Nat × Obj)), o = .slice A don.length c ∧ pos ≤ s.size ∧ cur.length ≤ 4 * pos ∧ s.size ≤ pos + fuel ∧ don ++ splR s (runesFrom s fuel pos) cur = R ∧ Row 9 1 (.slice A don.length c) don.length (don.map fun z => Value.string ⟨z.toArray⟩) L0 ∧ BS W wr I sb cur ((sb + 1, .stringIter s pos) :: (L0 ++ F))) (fun _ wr => s.size - wr.iterPos (sb + 1))
  case atStart => exact ⟨s.size, 0, [], [], none, 0, [], rfl, by omega, by simp, by omega, HR.out, Row.nil _ _, H1.out⟩
  case round =>
    obtain ⟨fuel, pos, cur, don, A, c, L0, rfl, hps, hcl, hfu, hro, hrow, hbs⟩ := hrel
    have hRl := HRL.out
    clear H1 HR
    have hiter : wr.heap[sb + 1]? = some (.stringIter s pos) := hbs.frame.own (sb + 1, _) (by simp)
    have hdl : don.length ≤ s.size + 1 := by
      rw [← hro, List.length_append] at hRl
      omega
    by_cases hp : pos < s.size
    · have hnx : ∀ ty, (Instr.next (.pointer (some ⟨sb + 1, 0, none⟩)) true ty).run Tryd.prog wr = _ := fun ty => Lib.run_next_any_at wr (sb + 1) s pos ty hiter hp
      have hwd := Lib.width_pos s pos
      have hrl := Lib.rune_le s pos
      have hwl := width_le s pos hp
      have h2 := hbs.iter (pos + (Utf8.decode s pos).2)
      obtain ⟨g, rfl⟩ : ∃ g, fuel = g + 1 := ⟨fuel - 1, by omega⟩
      rw [runesFrom_step s g pos hp] at hro
      have hh : (wr.iterAt (sb + 1) s (pos + (Utf8.decode s pos).2)).heap[sb + 1]? = some (.stringIter s (pos + (Utf8.decode s pos).2)) := h2.frame.own (sb + 1, _) (by simp)
      by_cases hc : (Utf8.decode s pos).1 = 32
      · have hro2 : (don ++ [cur]) ++ splR s (runesFrom s g (pos + (Utf8.decode s pos).2)) [] = R := by
          rw [← hro, splR, if_pos hc]
          simp
        have hcI : ((Utf8.decode s pos).1 : Int) = 32 := by omega
        rw [hcI] at hnx
        generalize (Utf8.decode s pos).2 = wd at *
        have HRO := Lib.hid hro2; have HI := Lib.hid hiter; have H2 := Lib.hid h2; have HROW := Lib.hid hrow
        clear hro hro2 h2 hbs hrow hiter hc hcI hrl hh
        go_wp2_with fail
        refine (bS_string H2.out).mono ?_
        rintro e w2 ⟨rfl, A0, sl, L, h3⟩
        obtain ⟨X, hX⟩ : ∃ X, X = ((sb, Obj.cells #[A0, sl] 106 (0, 0)) :: L) ++ [(sb + 1, Obj.stringIter s (pos + wd))] := ⟨_, rfl⟩
        have h4 : St W w2 I (X ++ (L0 ++ F)) := by
          rw [hX]
          simpa using h3
        have H4 := Lib.hid h4.swap; have HX := Lib.hid hX
        clear h3 h4 H2 hX
        go_wp2_with (at_builtin; refine Hid.out ?_)
        refine Lib.hid ?_
        refine wpList_append_row (F := X ++ F) rfl (.tmp 16) (.tmp 18) 79 rfl 9 (.string ⟨#[]⟩) 1 16 Tryd.underlying79 (by kernel_rfl) rfl (by omega) rfl HROW.out (St.alloc_ H4.out _) rfl (Src.one w2 (.string ⟨cur.toArray⟩) 9) (by intro u hu; simp at hu; subst hu; rfl) (don.length + 1) (by simp) ((don ++ [cur]).map fun z => Value.string ⟨z.toArray⟩) (by simp) (by unfold maxLen; omega) (by omega) ?_
        intro A5 c5 w5 L5 hr5 h5
        rw [show don.length + 1 = (don ++ [cur]).length by simp] at hr5
        have h6 : RS W w5 I sb ((sb + 1, .stringIter s (pos + wd)) :: (L5 ++ F)) := by
          have h7 := h5.swap
          rw [HX.out] at h7
          exact ⟨A0, sl, L, by simpa using h7⟩
        have H6 := Lib.hid h6; have HR5 := Lib.hid hr5
        clear h5 h6 hr5 H4 HROW
        go_wp2_with fail
        refine (bS_reset H6.out).mono ?_
        rintro e w6 ⟨rfl, h7⟩
        have H7 := Lib.hid h7
        have hh : w6.heap[sb + 1]? = some (.stringIter s (pos + wd)) := h7.frame.own (sb + 1, _) (by simp)
        have HH := Lib.hid hh
        clear h7 H6 hh
        go_wp2_with fail
        go_roundw
        case rel => exact ⟨g, pos + wd, [], don ++ [cur], A5, c5, L5, by simp, by omega, by simp, by omega, HRO.out, HR5.out, H7.out⟩
        case measure =>
          simp only [World.iterPos, HH.out, HI.out]
          omega
      · have hro2 : don ++ splR s (runesFrom s g (pos + (Utf8.decode s pos).2)) (cur ++ Lib.encodeRune ((Utf8.decode s pos).1 : Int)) = R := by
          rw [← hro, splR, if_neg hc]
        have he := (Lib.encodeRuneZ_length ((Utf8.decode s pos).1 : Int)).2
        have he2 : (Lib.encodeRune ((Utf8.decode s pos).1 : Int)).length ≤ 4 := by unfold Lib.encodeRune; rw [List.length_map]; omega
        have hcI : (((Utf8.decode s pos).1 : Int) != 32) = true := by simp; omega
        generalize (Utf8.decode s pos).1 = ch at *
        generalize (Utf8.decode s pos).2 = wd at *
        have HRO := Lib.hid hro2; have HI := Lib.hid hiter; have H2 := Lib.hid h2; have HROW := Lib.hid hrow
        clear hro hro2 h2 hbs hrow hiter hc hh he
        go_wp2_with fail
        refine (bS_rune (ch : Int) (by omega) (by omega) H2.out (by omega)).mono ?_
        rintro e w6 ⟨v, rfl, h7⟩
        have H7 := Lib.hid h7
        have hh : w6.heap[sb + 1]? = some (.stringIter s (pos + wd)) := h7.frame.own (sb + 1, _) (by simp)
        have HH := Lib.hid hh
        clear h7 H2 hh
        go_wp2_with fail
        go_roundw
        case rel => exact ⟨g, pos + wd, cur ++ Lib.encodeRune (ch : Int), don, A, c, L0, rfl, by omega, by rw [List.length_append]; omega, by omega, HRO.out, HROW.out, H7.out⟩
        case measure =>
          simp only [World.iterPos, HH.out, HI.out]
          omega
    · have hnx : ∀ ty, (Instr.next (.pointer (some ⟨sb + 1, 0, none⟩)) true ty).run Tryd.prog wr = _ := fun ty => Lib.run_next_end_at wr (sb + 1) s pos ty hiter hp
      rw [runesFrom_end s _ _ hp] at hro
      have hro2 : don ++ [cur] = R := hro
      have HRO := Lib.hid hro2; have H2 := Lib.hid hbs; have HROW := Lib.hid hrow
      clear hro hro2 hbs hrow hiter
      go_wp2_with fail
      refine (bS_string H2.out).mono ?_
      rintro e w2 ⟨rfl, A0, sl, L, h3⟩
      obtain ⟨X, hX⟩ : ∃ X, X = ((sb, Obj.cells #[A0, sl] 106 (0, 0)) :: L) ++ [(sb + 1, Obj.stringIter s pos)] := ⟨_, rfl⟩
      have h4 : St W w2 I (X ++ (L0 ++ F)) := by
        rw [hX]
        simpa using h3
      have H4 := Lib.hid h4.swap
      clear h3 h4 H2 hX
      go_wp2_with (at_builtin; refine Hid.out ?_)
      refine Lib.hid ?_
      refine wpList_append_row (F := X ++ F) rfl (.tmp 21) (.tmp 23) 79 rfl 9 (.string ⟨#[]⟩) 1 16 Tryd.underlying79 (by kernel_rfl) rfl (by omega) rfl HROW.out (St.alloc_ H4.out _) rfl (Src.one w2 (.string ⟨cur.toArray⟩) 9) (by intro u hu; simp at hu; subst hu; rfl) (don.length + 1) (by simp) ((don ++ [cur]).map fun z => Value.string ⟨z.toArray⟩) (by simp) (by unfold maxLen; omega) (by omega) ?_
      intro A5 c5 w5 L5 hr5 h5
      have h6 := St.mid (A := L5) (B := X) h5
      have HLN := Lib.hid (show don.length + 1 = (don ++ [cur]).length by simp)
      have H6 := Lib.hid h6; have HR5 := Lib.hid hr5
      clear h5 h6 hr5 H4 HROW
      go_wp2_with fail
      go_ret
      rw [← HRO.out]
      have hr5 := HR5.out
      rw [HLN.out] at hr5
      exact ⟨A5, c5, L5, by rw [← HLN.out]; rfl, hr5, H6.out⟩
end
end

section
set_option linter.unusedVariables false
set_option linter.unusedSimpArgs false
set_option linter.unnecessarySimpa false
open Go.RowKit Go.Lib

theorem rdO_len : ∀ (f : Nat) (acc l b : List UInt8), rdO f acc l = some b → b.length ≤ acc.length + 4 * l.length
  | 0, acc, l, b, h => by simp [rdO] at h
  | f + 1, acc, [], b, h => by
    simp only [rdO, Option.some.injEq] at h
    subst h
    simp
  | f + 1, acc, c :: r, b, h => by
    simp only [rdO] at h
    split at h
    · cases he : escO r with
      | none => rw [he] at h; cases h
      | some x =>
        obtain ⟨t, u⟩ := x
        rw [he] at h
        have hl := escO_len r t u he
        have := rdO_len f _ _ b h
        rw [List.length_append, List.length_drop] at this
        simp only [List.length_cons]
        omega
    · have := rdO_len f _ _ b h
      rw [List.length_append] at this
      simp only [List.length_cons, List.length_nil] at this ⊢
      omega
theorem readR_len (l : List UInt8) : (readR l).1.length ≤ 4 * l.length := by
  unfold readR
  cases h : readO l with
  | none => simp
  | some b =>
    have := rdO_len _ _ _ b h
    simp only
    split
    · simpa using this
    · simp
theorem getD_more (ws : List (List UInt8)) (i : Nat) : (ws ++ [[], []]).getD i [] = ws.getD i [] := by
  simp only [List.getD_eq_getElem?_getD]
  rw [List.getElem?_append]
  split
  · rfl
  · rename_i h
    rw [List.getElem?_eq_none (l := ws) (by omega)]
    match hh : i - ws.length with
    | 0 => rfl
    | 1 => rfl
    | k + 2 => rfl
section
variable {P : Program} {W w : World} {I : Nat → Option Obj} {F : List (Nat × Obj)}
/-- Blocks of ours turn no more. -/
theorem St.freezes : ∀ (L0 : List (Nat × Obj)) {I : Nat → Option Obj} {F : List (Nat × Obj)}, St W w I (L0 ++ F) → ∃ J, Le I J ∧ (∀ p ∈ L0, J p.1 = some p.2) ∧ St W w J F
  | [], I, F, h => ⟨I, Le.refl I, by simp, h⟩
  | p :: L0, I, F, h => by
    obtain ⟨J, h1, h2, h3⟩ := St.freeze (g := p.1) (o := p.2) (L := L0 ++ F) h
    obtain ⟨K, h4, h5, h6⟩ := St.freezes L0 h3
    refine ⟨K, h1.trans h4, fun q hq => ?_, h6⟩
    rcases List.mem_cons.1 hq with rfl | hq
    · exact h4 _ _ h2
    · exact h5 q hq
/-- A row of texts turns no more. -/
theorem strs_freeze {A : Option Addr} {c : Nat} {ws : List (List UInt8)} {L0 : List (Nat × Obj)} (hne : ws ≠ []) (hr : Row 9 1 (.slice A ws.length c) ws.length (ws.map fun z => Value.string ⟨z.toArray⟩) L0) (h : St W w I (L0 ++ F)) :
    ∃ J g off, Le I J ∧ A = some ⟨g, off, none⟩ ∧ St W w J F ∧ ∀ j x, ws[j]? = some x → roCell J ⟨g, off + j, none⟩ = some (.string ⟨x.toArray⟩) := by
  obtain ⟨J, h1, h2, h3⟩ := St.freezes L0 h
  cases ws with
  | nil => exact absurd rfl hne
  | cons w0 ws =>
    obtain ⟨g, off, cap, cur, hA, hL, hc⟩ := hr.cells (j := 0) (u := .string ⟨w0.toArray⟩) rfl
    injection hA with e1 e2 e3
    refine ⟨J, g, off, h1, e1, h3, fun j x hx => ?_⟩
    obtain ⟨g', off', cap', cur', hA', hL', hc'⟩ := hr.cells (j := j) (u := .string ⟨x.toArray⟩) (by rw [List.getElem?_map, hx]; rfl)
    injection hA' with e1' e2' e3'
    rw [e1] at e1'
    injection e1' with e1'
    injection e1' with eg eo
    subst eg; subst eo
    have hm := h2 (g, .cells cur' 9 (0, 0)) (by rw [hL']; simp)
    unfold roCell
    simp only at hm ⊢
    rw [hm]
    simpa using hc'
theorem step_store_st {ops : Array Oper} {o : Oper} {a : Act} {K : Act → World → Prop} {Q : Exit → Act → World → Prop} {E : Prop} (hgd : o.guard = none) (ty : TypeId) (x y : Operand) (ho : o.op = .store ty x y) {g off : Nat} (cells : Array Value) (hx : a.eval x = .pointer (some ⟨g, off, none⟩)) (hy : a.eval y = .agg cells)
    {cs : Array Value} {t : TypeId} (hst : St W w I ((g, .cells cs t (0, 0)) :: F)) (hfit : off + cells.size ≤ cs.size) (hi : (P.info? ty).map (·.size) = some cells.size) (h1 : cells.all (·.oneCell') = true)
    (h : ∀ w', St W w' I ((g, .cells (setMany cs off cells.toList) t (0, 0)) :: F) → K (a.put o.dst undef) w') : if Region.wanted o (yielded ops a.tmps) = true then o.wp P a w K Q else E := by
  rw [if_pos (by simp [Region.wanted, hgd])]
  exact wp_store_mid ty x y ho g off cells hx hy (fun j hj => ⟨by rw [hst.cell (g := g) (cs := cs) (t := t) (fr := (0, 0)) (by simp)]; simp; omega, hst.frozen (g := g) (cs := cs) (t := t) (by simp) _⟩) hi h1 (h _ (St.setCells _ _ _ _ hst))
theorem Src.two (w : World) (x y : Value) (t : TypeId) : Src (w.alloc (.cells #[x, y] t)) 1 (some ⟨w.heap.size, 0, none⟩) 2 [x, y] := by
  refine ⟨rfl, fun j u hj => ⟨_, rfl, ?_⟩⟩
  rw [show (⟨w.heap.size, 0, none⟩ : Addr).add j = ⟨w.heap.size, j, none⟩ by unfold Addr.add; split <;> simp_all, cell_of_row _ w.heap.size j #[x, y] t (0, 0) (heap_alloc_new w _)]
  simpa using hj
end
theorem idx_range (x : List UInt8) : -1 ≤ idxB cwordsB x ∧ idxB cwordsB x ≤ 6 := by
  unfold idxB cwordsB cwordsL Lib.idxOfS
  simp only [List.map_cons, List.map_nil, Lib.idxFromS]
  repeat' split
  all_goals omega
theorem pC_ok (l : List (List UInt8)) (hl : ∀ k, (l.getD k []).length ≤ 30000) : (pC l).Ok := by
  have h0 := numI_range (l.getD 0 [])
  have h1 := numI_range (l.getD 2 [])
  have h2 := idx_range (l.getD 1 [])
  have h3 := readR_len (l.getD 2 [])
  have h4 := hl 2
  unfold pC
  refine ⟨?_, ?_, ?_, ?_, ?_, ?_, ?_, ?_, ?_⟩ <;> simp only
  all_goals (try split)
  all_goals first | omega | (rw [ba_size]; omega) | (show (0 : Nat) ≤ _; omega)
section
variable {W w : World} {I : Nat → Option Obj} {F : List (Nat × Obj)}
theorem call_ret {fn : Func} {p q : Tmp} {w : World} {I : Nat → Option Obj} {L : List (Nat × Obj)} {W : World} {g : Nat} {t : Cl} {e : Int} {tmps : Array Value} (hst : St W w I ((g, .cells t.cells 23 (0, 0)) :: L))
    (h : fn.results = #[.cell p 23, .tmp q]) (hp : tmps.getD p undef = .pointer (some ⟨g, 0, none⟩)) (hq : tmps.getD q undef = .int .i64 e) :
    (results fn tmps).run Tryd.prog w = .ok (.tuple #[.agg t.cells, .int .i64 e]) w :=
  results_row_tmp h _ w g 23 t.cells (0, 0) _ _ hp hq (hst.own (g, .cells t.cells 23 (0, 0)) (by simp)) Tryd.underlying23 (by kernel_rfl) (call_info t)
/-- What is left by a function that makes a call. -/
def CPost (W : World) (I : Nat → Option Obj) (F : List (Nat × Obj)) (r : Cl × Int) (e : Ending) (w' : World) : Prop := e = .returned (.tuple #[.agg r.1.cells, .int .i64 r.2]) ∧ St W w' I F
set_option maxRecDepth 100000 in
set_option maxHeartbeats 16000000 in
theorem call_parse (cv : CV W I) (cvm : ∀ J, Le I J → CV W J) (t : ByteArray) (hs : t.size ≤ 5000) (h : St W w I F) :
    Calls Tryd.prog 14 #[.string t] w (CPost W I F (parseC t)) := by
  have h0 := h.alloc (.cells #[Value.int .i64 0, .int .i64 0, .int .i64 0, .int .i64 0, .string ⟨#[]⟩] 23)
  obtain ⟨b, hb⟩ : ∃ b, w.heap.size = b := ⟨_, rfl⟩
  rw [hb] at h0
  have kS := call_split t (by omega) h0
  have hsz := splR_size t (runesOf t) []
  have hlr := runesOf_len t
  have hpv := parseC.eq_1 t
  have hwl := splR_len t (runesOf t) []
  have hne := splR_ne t (runesOf t) []
  obtain ⟨ws, hws⟩ : ∃ ws, wordsOf t = ws := ⟨_, rfl⟩
  rw [show splR t (runesOf t) [] = wordsOf t from rfl, hws] at hsz hwl hne
  have hw2 : ws.length ≤ 5001 := by omega
  rw [hws] at kS hpv
  have hszk : ∀ k, (ws.getD k []).length ≤ 30000 := fun k => by
    rw [List.getD_eq_getElem?_getD]
    cases hk : ws[k]? with
    | none => exact Nat.zero_le _
    | some x =>
      have := hsz x (List.mem_of_getElem? hk)
      simp only [Option.getD_some]
      simp at this
      omega
  have okc := pC_ok ws hszk
  have hpc := pC.eq_1 ws
  have hrl := readR_len (ws.getD 2 [])
  have zl : zC.cells = #[Value.int .i64 0, .int .i64 0, .int .i64 0, .int .i64 0, .string ⟨#[]⟩] := rfl
  have fz := (call_fit zC zC).1
  have mz := (call_fit zC zC).2
  have iz := call_info zC
  have oz := Cl.one zC
  rw [zl] at fz mz iz oz
  have FZ := Lib.hid fz; have MZ := Lib.hid mz; have IZ := Lib.hid iz; have OZ := Lib.hid oz; have ZL := Lib.hid zl
  have HPV := Lib.hid hpv; have KS := Lib.hid kS; have CVM := Lib.hid cvm; have HSZ := Lib.hid hszk; have OKC := Lib.hid okc; have HPC := Lib.hid hpc; have HRL := Lib.hid hrl
  clear h0 h hws hpv kS cvm hsz hszk okc hpc hrl hlr fz mz iz oz zl cv
  go_enter Tryd.func14, Tryd.ntmps14
  go_wp2_with fail
  refine KS.out.mono ?_
  rintro e w1 ⟨A, c, L', rfl, hrow, h1⟩
  have H1 := Lib.hid h1; have HROW := Lib.hid hrow
  clear h1 hrow KS
  go_wp2_with (at_builtin; refine Hid.out ?_)
  refine Lib.hid ?_
  refine wpList_append_row (F := ((b, .cells #[Value.int .i64 0, .int .i64 0, .int .i64 0, .int .i64 0, .string ⟨#[]⟩] 23 (0, 0)) :: F)) rfl (.tmp 7) (.tmp 8) 79 rfl 9 (.string ⟨#[]⟩) 1 16 Tryd.underlying79 (by kernel_rfl) rfl (by omega) rfl HROW.out (St.alloc_ H1.out _) rfl (Src.two w1 (.string ⟨#[]⟩) (.string ⟨#[]⟩) 9) (by intro u hu; simp at hu; subst hu; rfl) (ws.length + 2) rfl ((ws ++ [[], []]).map fun z : List UInt8 => Value.string ⟨z.toArray⟩) (by rw [List.map_append]; rfl) (by unfold maxLen; omega) (by omega) ?_
  intro A2 c2 w2 L2 hr2 h2
  have hlen2 : ws.length + 2 = (ws ++ [[], []]).length := by simp
  rw [hlen2] at hr2
  obtain ⟨J, g, off, hle, rfl, h3, hcl⟩ := strs_freeze (by simp) hr2 h2
  have hcl2 : ∀ j, j < ws.length + 2 → roCell J ⟨g, off + j, none⟩ = some (.string ⟨(ws.getD j []).toArray⟩) := fun j hj => by
    rw [← getD_more]
    exact hcl j _ (by rw [List.getD_eq_getElem?_getD, List.getElem?_eq_getElem (by simp; omega)]; rfl)
  have hn1 : 1 ≤ ws.length := by
    cases ws with
    | nil => exact absurd rfl hne
    | cons x y => simp
  have cvJ := CVM.out J hle
  have HOK := Lib.hid (fun k => HSZ.out k)
  obtain ⟨x0, hx0⟩ : ∃ x, ws.getD 0 [] = x := ⟨_, rfl⟩
  obtain ⟨x1, hx1⟩ : ∃ x, ws.getD 1 [] = x := ⟨_, rfl⟩
  obtain ⟨x2, hx2⟩ : ∃ x, ws.getD 2 [] = x := ⟨_, rfl⟩
  have g0 := hcl2 0 (by omega)
  have g1 := hcl2 1 (by omega)
  have g2 := hcl2 2 (by omega)
  rw [hx0, Nat.add_zero] at g0
  rw [hx1] at g1
  rw [hx2] at g2
  have s0 := HSZ.out 0
  have s1 := HSZ.out 1
  have s2 := HSZ.out 2
  rw [hx0] at s0
  rw [hx1] at s1
  rw [hx2] at s2
  have hpc := HPC.out
  rw [hx0, hx1, hx2] at hpc
  have kN0 := fun (v : World) (F : List (Nat × Obj)) (hv : St W v J F) => call_number cvJ.ev x0 (by omega) hv
  have kN2 := fun (v : World) (F : List (Nat × Obj)) (hv : St W v J F) => call_number cvJ.ev x2 (by omega) hv
  have kG := fun (v : World) (F : List (Nat × Obj)) (hv : St W v J F) => glyph_read cvJ.t cvJ.ht cvJ.ev ⟨x2.toArray⟩ (by rw [ba_size]; omega) hv
  rw [show (⟨x2.toArray⟩ : ByteArray).data.toList = x2 by simp] at kG
  have kI : ∀ v F, St W v J F → Calls Tryd.prog 40 #[.slice (some ⟨0, 0, none⟩) 7 7, .string ⟨x1.toArray⟩] v fun e w' => e = .returned (.int .i64 (idxB cwordsB x1)) ∧ St W w' J F := fun v F hv => by
    refine (Tryd.slices_Index_string 0 0 7 7 cwordsB ⟨x1.toArray⟩ v (by decide) (by decide) (fun j hj => ?_)).mono fun e w' ⟨he, hw⟩ => ⟨he, hw ▸ hv⟩
    rw [Nat.zero_add]
    have hj5 : j < 7 := hj
    have hwz : cwordsL[j]? = some (cwordsL[j]'hj5) := List.getElem?_eq_getElem hj5
    rw [hv.ro (cvJ.words j _ hwz)]
    unfold cwordsB
    rw [List.getD_eq_getElem?_getD, List.getElem?_map, hwz]
    rfl
  have hul : ∀ W', (Instr.sliceAt 77 (.pointer (some ⟨0, 0, none⟩)) none none none).run Tryd.prog W' = .ok (.slice (some ⟨0, 0, none⟩) 7 7) W' := fun W' => by
    kernel_rfl
  have ir := idx_range x1
  obtain ⟨ik, hik⟩ : ∃ k, idxB cwordsB x1 = k := ⟨_, rfl⟩
  obtain ⟨m0, hm0⟩ : ∃ k, numI x0 = k := ⟨_, rfl⟩
  obtain ⟨m2, hm2⟩ : ∃ k, numI x2 = k := ⟨_, rfl⟩
  rw [hik] at kI ir hpc
  rw [hm0] at kN0 hpc
  rw [hm2] at kN2 hpc
  obtain ⟨bx0, hbx0⟩ : ∃ x, (⟨x0.toArray⟩ : ByteArray) = x := ⟨_, rfl⟩
  obtain ⟨bx1, hbx1⟩ : ∃ x, (⟨x1.toArray⟩ : ByteArray) = x := ⟨_, rfl⟩
  obtain ⟨bx2, hbx2⟩ : ∃ x, (⟨x2.toArray⟩ : ByteArray) = x := ⟨_, rfl⟩
  obtain ⟨rn, hrn⟩ : ∃ x, readR x2 = x := ⟨_, rfl⟩
  rw [hbx0] at g0 kN0
  rw [hbx1] at g1 kI
  rw [hbx2] at g2 kN2 kG
  rw [hrn] at kG hpc
  have rl := HRL.out
  rw [hx2, hrn] at rl
  have rl2 : rn.1.length ≤ 130000 := by omega
  clear rl
  have f5 := (call_fit zC ⟨m0, ik, 0, 0, empB⟩).1
  have e5 := (call_fit zC ⟨m0, ik, 0, 0, empB⟩).2
  have i5 := call_info ⟨m0, ik, 0, 0, empB⟩
  have o5 := Cl.one ⟨m0, ik, 0, 0, empB⟩
  have F5 : Hid (0 + (#[Value.int .i64 m0, .int .i64 ik, .int .i64 0, .int .i64 0, .string ⟨#[]⟩]).size ≤ (#[Value.int .i64 0, .int .i64 0, .int .i64 0, .int .i64 0, .string ⟨#[]⟩]).size) := Lib.hid f5
  have E5 : Hid (setMany #[Value.int .i64 0, .int .i64 0, .int .i64 0, .int .i64 0, .string ⟨#[]⟩] 0 (#[Value.int .i64 m0, .int .i64 ik, .int .i64 0, .int .i64 0, .string ⟨#[]⟩]).toList = (⟨m0, ik, 0, 0, empB⟩ : Cl).cells) := Lib.hid e5
  have I5 : Hid ((Tryd.prog.info? 23).map (·.size) = some (#[Value.int .i64 m0, .int .i64 ik, .int .i64 0, .int .i64 0, .string ⟨#[]⟩]).size) := Lib.hid i5
  have O5 : Hid ((#[Value.int .i64 m0, .int .i64 ik, .int .i64 0, .int .i64 0, .string ⟨#[]⟩]).all (·.oneCell') = true) := Lib.hid o5
  have sx : ∀ v F, St W v J F → v.cell? ⟨g, off, none⟩ = some (.string bx0) ∧ v.cell? ⟨g, off + 1, none⟩ = some (.string bx1) := fun v F hv => ⟨hv.ro g0, hv.ro g1⟩
  have hlI : (2 : Int) < ((ws.length + 2 : Nat) : Int) := by omega
  obtain ⟨n, hn⟩ : ∃ n, ws.length + 2 = n := ⟨_, rfl⟩
  have hn3 : 3 ≤ n := by omega
  rw [← hlen2] at hr2
  rw [hn] at hlI ⊢
  have hlI0 : (0 : Int) < (n : Int) := by omega
  have hlI1 : (1 : Int) < (n : Int) := by omega
  have hlN0 : 0 < n := by omega
  have hlN1 : 1 < n := by omega
  have hlN2 : 2 < n := by omega
  have CVJ := Lib.hid cvJ; have SX := Lib.hid sx; have KN0 := Lib.hid kN0; have KN2 := Lib.hid kN2; have KG := Lib.hid kG; have KI := Lib.hid kI; have HPC2 := Lib.hid hpc; have G2 := Lib.hid g2; have HLE := Lib.hid hle
  have hx := h3.drew1
  have H3 := Lib.hid h3
  clear cvJ sx kN0 kN2 kG kI hpc g0 g1 g2 hle hcl hcl2 h2 h3 hr2 HROW H1 CVM f5 e5 i5 o5 s0 s1 s2 hx0 hx1 hx2 hik hm0 hm2 hbx0 hbx1 hbx2 hrn hlen2 hwl hne HPC HSZ HRL
  go_upto_region 2 with fail
  go_cut [5] (fun s5 wx => ∃ b5, s5 = .pointer (some ⟨b5, 0, none⟩) ∧ St W wx J ((b5, .cells (⟨m0, ik, 0, 0, empB⟩ : Cl).cells 23 (0, 0)) :: (b, .cells #[Value.int .i64 0, .int .i64 0, .int .i64 0, .int .i64 0, .string ⟨#[]⟩] 23 (0, 0)) :: F))
  case first =>
    refine wp_region_held_drew (S := fun v => v.cell? ⟨g, off, none⟩ = some (.string bx0) ∧ v.cell? ⟨g, off + 1, none⟩ = some (.string bx1)) (by kernel_rfl) (SX.out _ _ hx) (fun hHeld => ?_)
    refine wpAnyH_take (i := 0) (oi := ?_) (v := ?_) ?_ ?_ ?_ ?_ ?_ ?_ ?_ ?_
    rotate_left 2
    · (simp only [List.getElem?_toArray, List.getElem?_cons_succ, List.getElem?_cons_zero]; exact rfl)
    · kernel_rfl
    · kernel_rfl
    · kernel_rfl
    · exact fun _ _ _ h => h
    · first | (refine Or.inl ⟨by rfl, ?_⟩; intro w hSw; (try dsimp only at hSw); go_simp; try with_reducible rfl) | (refine Or.inr ⟨by rfl, ?_⟩; rfl)
    · assumption
    try simp only [Act.put, List.setIfInBounds_toArray, List.set_cons_zero, List.set_cons_succ]
    refine wpAnyH_take (i := 1) (oi := ?_) (v := ?_) ?_ ?_ ?_ ?_ ?_ ?_ ?_ ?_
    rotate_left 2
    · (simp only [List.getElem?_toArray, List.getElem?_cons_succ, List.getElem?_cons_zero]; exact rfl)
    · kernel_rfl
    · kernel_rfl
    · kernel_rfl
    · exact fun _ _ _ h => h
    · first | (refine Or.inl ⟨by rfl, ?_⟩; intro w hSw; (try dsimp only at hSw); go_simp; try with_reducible rfl) | (refine Or.inr ⟨by rfl, ?_⟩; rfl)
    · assumption
    try simp only [Act.put, List.setIfInBounds_toArray, List.set_cons_zero, List.set_cons_succ]
    refine wpAnyH_take (i := 2) (oi := ?_) (v := ?_) ?_ ?_ ?_ ?_ ?_ ?_ ?_ ?_
    rotate_left 2
    · (simp only [List.getElem?_toArray, List.getElem?_cons_succ, List.getElem?_cons_zero]; exact rfl)
    · kernel_rfl
    · kernel_rfl
    · kernel_rfl
    · exact fun _ _ _ h => h
    · first | ((refine Or.inl ⟨by rfl, ?_⟩; intro w hSw; obtain ⟨hS1, hS2⟩ := hSw; go_simp; try with_reducible rfl)) | (refine Or.inr ⟨by rfl, ?_⟩; rfl)
    · assumption
    try simp only [Act.put, List.setIfInBounds_toArray, List.set_cons_zero, List.set_cons_succ]
    refine wpAnyH_take (i := 4) (oi := ?_) (v := ?_) ?_ ?_ ?_ ?_ ?_ ?_ ?_ ?_
    rotate_left 2
    · (simp only [List.getElem?_toArray, List.getElem?_cons_succ, List.getElem?_cons_zero]; exact rfl)
    · kernel_rfl
    · kernel_rfl
    · kernel_rfl
    · exact fun _ _ _ h => h
    · first | (refine Or.inl ⟨by rfl, ?_⟩; intro w hSw; (try dsimp only at hSw); go_simp; try with_reducible rfl) | (refine Or.inr ⟨by rfl, ?_⟩; rfl)
    · assumption
    try simp only [Act.put, List.setIfInBounds_toArray, List.set_cons_zero, List.set_cons_succ]
    refine wpAnyH_take (i := 5) (oi := ?_) (v := ?_) ?_ ?_ ?_ ?_ ?_ ?_ ?_ ?_
    rotate_left 2
    · (simp only [List.getElem?_toArray, List.getElem?_cons_succ, List.getElem?_cons_zero]; exact rfl)
    · kernel_rfl
    · kernel_rfl
    · kernel_rfl
    · exact fun _ _ _ h => h
    · first | (refine Or.inl ⟨by rfl, ?_⟩; intro w hSw; (try dsimp only at hSw); go_simp; try with_reducible rfl) | (refine Or.inr ⟨by rfl, ?_⟩; rfl)
    · assumption
    try simp only [Act.put, List.setIfInBounds_toArray, List.set_cons_zero, List.set_cons_succ]
    refine wpAnyH_take (i := 6) (oi := ?_) (v := ?_) ?_ ?_ ?_ ?_ ?_ ?_ ?_ ?_
    rotate_left 2
    · (simp only [List.getElem?_toArray, List.getElem?_cons_succ, List.getElem?_cons_zero]; exact rfl)
    · kernel_rfl
    · kernel_rfl
    · kernel_rfl
    · exact fun _ _ _ h => h
    · first | (refine Or.inl ⟨by rfl, ?_⟩; intro w hSw; (try dsimp only at hSw); go_simp; try with_reducible rfl) | (refine Or.inr ⟨by rfl, ?_⟩; rfl)
    · assumption
    try simp only [Act.put, List.setIfInBounds_toArray, List.set_cons_zero, List.set_cons_succ]
    refine wpAnyH_take (i := 7) (oi := ?_) (v := ?_) ?_ ?_ ?_ ?_ ?_ ?_ ?_ ?_
    rotate_left 2
    · (simp only [List.getElem?_toArray, List.getElem?_cons_succ, List.getElem?_cons_zero]; exact rfl)
    · kernel_rfl
    · kernel_rfl
    · kernel_rfl
    · exact fun _ _ _ h => h
    · first | ((refine Or.inl ⟨by rfl, ?_⟩; intro w hSw; obtain ⟨hS1, hS2⟩ := hSw; go_simp; try with_reducible rfl)) | (refine Or.inr ⟨by rfl, ?_⟩; rfl)
    · assumption
    try simp only [Act.put, List.setIfInBounds_toArray, List.set_cons_zero, List.set_cons_succ]
    refine wpAnyH_ready (rs := [3, 10]) (by kernel_rfl) (by simp) ?_
    refine AllReadyH.cons (o := ?_) ?_ (fun K hK => ?_) ?_
    rotate_left 1
    · (simp only [List.getElem?_toArray, List.getElem?_cons_succ, List.getElem?_cons_zero]; exact rfl)
    · go_simp
      ((first | (go_at_call 39; (with_reducible refine (KN0.out _ _ (by first | exact hx | exact hx.alloc _ | exact (H3.out.alloc _).drew1)).mono ?_); rintro e wx ⟨rfl, hx⟩; dsimp only) | (go_at_call 40; (with_reducible refine (KI.out _ _ (by first | exact hx | exact hx.alloc _ | exact (H3.out.alloc _).drew1)).mono ?_); rintro e wx ⟨rfl, hx⟩; dsimp only) | (refine step_store_st rfl 23 (.tmp 5) (.tmp 19) rfl (off := 0) #[Value.int .i64 m0, .int .i64 ik, .int .i64 0, .int .i64 0, .string ⟨#[]⟩] rfl rfl (by first | exact hx | exact hx.alloc _ | exact (H3.out.alloc _).drew1) F5.out I5.out O5.out ?_; intro w9 h9; rw [E5.out] at h9; dsimp only)))
      refine hK.out _ _ ?_ (fun hHeld => ?_)
      · (try dsimp only) <;> (first | exact SX.out _ _ hx | exact SX.out _ _ (hx.alloc_ _) | exact SX.out _ _ h9)
      clear hK K
      try simp only [Act.put, List.setIfInBounds_toArray, List.set_cons_zero, List.set_cons_succ]
      refine wpAnyH_ready (rs := [8, 10]) (by kernel_rfl) (by simp) ?_
      refine AllReadyH.cons (o := ?_) ?_ (fun K hK => ?_) ?_
      rotate_left 1
      · (simp only [List.getElem?_toArray, List.getElem?_cons_succ, List.getElem?_cons_zero]; exact rfl)
      · go_simp
        ((first | (go_at_call 39; (with_reducible refine (KN0.out _ _ (by first | exact hx | exact hx.alloc _ | exact (H3.out.alloc _).drew1)).mono ?_); rintro e wx ⟨rfl, hx⟩; dsimp only) | (go_at_call 40; (with_reducible refine (KI.out _ _ (by first | exact hx | exact hx.alloc _ | exact (H3.out.alloc _).drew1)).mono ?_); rintro e wx ⟨rfl, hx⟩; dsimp only) | (refine step_store_st rfl 23 (.tmp 5) (.tmp 19) rfl (off := 0) #[Value.int .i64 m0, .int .i64 ik, .int .i64 0, .int .i64 0, .string ⟨#[]⟩] rfl rfl (by first | exact hx | exact hx.alloc _ | exact (H3.out.alloc _).drew1) F5.out I5.out O5.out ?_; intro w9 h9; rw [E5.out] at h9; dsimp only)))
        refine hK.out _ _ ?_ (fun hHeld => ?_)
        · (try dsimp only) <;> (first | exact SX.out _ _ hx | exact SX.out _ _ (hx.alloc_ _) | exact SX.out _ _ h9)
        clear hK K
        try simp only [Act.put, List.setIfInBounds_toArray, List.set_cons_zero, List.set_cons_succ]
        refine wpAnyH_take (i := 9) (oi := ?_) (v := ?_) ?_ ?_ ?_ ?_ ?_ ?_ ?_ ?_
        rotate_left 2
        · (simp only [List.getElem?_toArray, List.getElem?_cons_succ, List.getElem?_cons_zero]; exact rfl)
        · kernel_rfl
        · kernel_rfl
        · kernel_rfl
        · exact fun _ _ _ h => h
        · first | (refine Or.inl ⟨by rfl, ?_⟩; intro w hSw; (try dsimp only at hSw); go_simp; try with_reducible rfl) | (refine Or.inr ⟨by rfl, ?_⟩; rfl)
        · assumption
        try simp only [Act.put, List.setIfInBounds_toArray, List.set_cons_zero, List.set_cons_succ]
        refine wpAnyH_ready (rs := [10]) (by kernel_rfl) (by simp) ?_
        refine AllReadyH.cons (o := ?_) ?_ (fun K hK => ?_) ?_
        rotate_left 1
        · (simp only [List.getElem?_toArray, List.getElem?_cons_succ, List.getElem?_cons_zero]; exact rfl)
        · go_simp
          refine hK.out _ _ ?_ (fun hHeld => ?_)
          · (try dsimp only) <;> (first | exact SX.out _ _ hx | exact SX.out _ _ (hx.alloc_ _) | exact SX.out _ _ h9)
          clear hK K
          try simp only [Act.put, List.setIfInBounds_toArray, List.set_cons_zero, List.set_cons_succ]
          refine wpAnyH_ready (rs := [11]) (by kernel_rfl) (by simp) ?_
          refine AllReadyH.cons (o := ?_) ?_ (fun K hK => ?_) ?_
          rotate_left 1
          · (simp only [List.getElem?_toArray, List.getElem?_cons_succ, List.getElem?_cons_zero]; exact rfl)
          · ((first | (go_at_call 39; (with_reducible refine (KN0.out _ _ (by first | exact hx | exact hx.alloc _ | exact (H3.out.alloc _).drew1)).mono ?_); rintro e wx ⟨rfl, hx⟩; dsimp only) | (go_at_call 40; (with_reducible refine (KI.out _ _ (by first | exact hx | exact hx.alloc _ | exact (H3.out.alloc _).drew1)).mono ?_); rintro e wx ⟨rfl, hx⟩; dsimp only) | (refine step_store_st rfl 23 (.tmp 5) (.tmp 19) rfl (off := 0) #[Value.int .i64 m0, .int .i64 ik, .int .i64 0, .int .i64 0, .string ⟨#[]⟩] rfl rfl (by first | exact hx | exact hx.alloc _ | exact (H3.out.alloc _).drew1) F5.out I5.out O5.out ?_; intro w9 h9; rw [E5.out] at h9; dsimp only)))
            refine hK.out _ _ ?_ (fun hHeld => ?_)
            · (try dsimp only) <;> (first | exact SX.out _ _ hx | exact SX.out _ _ (hx.alloc_ _) | exact SX.out _ _ h9)
            clear hK K
            try simp only [Act.put, List.setIfInBounds_toArray, List.set_cons_zero, List.set_cons_succ]
            refine wpAnyH_done (by kernel_rfl) ?_ _
            go_wp2_with fail
            go_meet
            exact ⟨_, rfl, h9⟩
          exact AllReadyH.nil
        exact AllReadyH.nil
      refine AllReadyH.cons (o := ?_) ?_ (fun K hK => ?_) ?_
      rotate_left 1
      · (simp only [List.getElem?_toArray, List.getElem?_cons_succ, List.getElem?_cons_zero]; exact rfl)
      · go_simp
        refine hK.out _ _ ?_ (fun hHeld => ?_)
        · (try dsimp only) <;> (first | exact SX.out _ _ hx | exact SX.out _ _ (hx.alloc_ _) | exact SX.out _ _ h9)
        clear hK K
        try simp only [Act.put, List.setIfInBounds_toArray, List.set_cons_zero, List.set_cons_succ]
        refine wpAnyH_ready (rs := [8]) (by kernel_rfl) (by simp) ?_
        refine AllReadyH.cons (o := ?_) ?_ (fun K hK => ?_) ?_
        rotate_left 1
        · (simp only [List.getElem?_toArray, List.getElem?_cons_succ, List.getElem?_cons_zero]; exact rfl)
        · go_simp
          ((first | (go_at_call 39; (with_reducible refine (KN0.out _ _ (by first | exact hx | exact hx.alloc _ | exact (H3.out.alloc _).drew1)).mono ?_); rintro e wx ⟨rfl, hx⟩; dsimp only) | (go_at_call 40; (with_reducible refine (KI.out _ _ (by first | exact hx | exact hx.alloc _ | exact (H3.out.alloc _).drew1)).mono ?_); rintro e wx ⟨rfl, hx⟩; dsimp only) | (refine step_store_st rfl 23 (.tmp 5) (.tmp 19) rfl (off := 0) #[Value.int .i64 m0, .int .i64 ik, .int .i64 0, .int .i64 0, .string ⟨#[]⟩] rfl rfl (by first | exact hx | exact hx.alloc _ | exact (H3.out.alloc _).drew1) F5.out I5.out O5.out ?_; intro w9 h9; rw [E5.out] at h9; dsimp only)))
          refine hK.out _ _ ?_ (fun hHeld => ?_)
          · (try dsimp only) <;> (first | exact SX.out _ _ hx | exact SX.out _ _ (hx.alloc_ _) | exact SX.out _ _ h9)
          clear hK K
          try simp only [Act.put, List.setIfInBounds_toArray, List.set_cons_zero, List.set_cons_succ]
          refine wpAnyH_take (i := 9) (oi := ?_) (v := ?_) ?_ ?_ ?_ ?_ ?_ ?_ ?_ ?_
          rotate_left 2
          · (simp only [List.getElem?_toArray, List.getElem?_cons_succ, List.getElem?_cons_zero]; exact rfl)
          · kernel_rfl
          · kernel_rfl
          · kernel_rfl
          · exact fun _ _ _ h => h
          · first | (refine Or.inl ⟨by rfl, ?_⟩; intro w hSw; (try dsimp only at hSw); go_simp; try with_reducible rfl) | (refine Or.inr ⟨by rfl, ?_⟩; rfl)
          · assumption
          try simp only [Act.put, List.setIfInBounds_toArray, List.set_cons_zero, List.set_cons_succ]
          refine wpAnyH_ready (rs := [11]) (by kernel_rfl) (by simp) ?_
          refine AllReadyH.cons (o := ?_) ?_ (fun K hK => ?_) ?_
          rotate_left 1
          · (simp only [List.getElem?_toArray, List.getElem?_cons_succ, List.getElem?_cons_zero]; exact rfl)
          · ((first | (go_at_call 39; (with_reducible refine (KN0.out _ _ (by first | exact hx | exact hx.alloc _ | exact (H3.out.alloc _).drew1)).mono ?_); rintro e wx ⟨rfl, hx⟩; dsimp only) | (go_at_call 40; (with_reducible refine (KI.out _ _ (by first | exact hx | exact hx.alloc _ | exact (H3.out.alloc _).drew1)).mono ?_); rintro e wx ⟨rfl, hx⟩; dsimp only) | (refine step_store_st rfl 23 (.tmp 5) (.tmp 19) rfl (off := 0) #[Value.int .i64 m0, .int .i64 ik, .int .i64 0, .int .i64 0, .string ⟨#[]⟩] rfl rfl (by first | exact hx | exact hx.alloc _ | exact (H3.out.alloc _).drew1) F5.out I5.out O5.out ?_; intro w9 h9; rw [E5.out] at h9; dsimp only)))
            refine hK.out _ _ ?_ (fun hHeld => ?_)
            · (try dsimp only) <;> (first | exact SX.out _ _ hx | exact SX.out _ _ (hx.alloc_ _) | exact SX.out _ _ h9)
            clear hK K
            try simp only [Act.put, List.setIfInBounds_toArray, List.set_cons_zero, List.set_cons_succ]
            refine wpAnyH_done (by kernel_rfl) ?_ _
            go_wp2_with fail
            go_meet
            exact ⟨_, rfl, h9⟩
          exact AllReadyH.nil
        exact AllReadyH.nil
      exact AllReadyH.nil
    refine AllReadyH.cons (o := ?_) ?_ (fun K hK => ?_) ?_
    rotate_left 1
    · (simp only [List.getElem?_toArray, List.getElem?_cons_succ, List.getElem?_cons_zero]; exact rfl)
    · go_simp
      refine hK.out _ _ ?_ (fun hHeld => ?_)
      · (try dsimp only) <;> (first | exact SX.out _ _ hx | exact SX.out _ _ (hx.alloc_ _) | exact SX.out _ _ h9)
      clear hK K
      try simp only [Act.put, List.setIfInBounds_toArray, List.set_cons_zero, List.set_cons_succ]
      refine wpAnyH_ready (rs := [3]) (by kernel_rfl) (by simp) ?_
      refine AllReadyH.cons (o := ?_) ?_ (fun K hK => ?_) ?_
      rotate_left 1
      · (simp only [List.getElem?_toArray, List.getElem?_cons_succ, List.getElem?_cons_zero]; exact rfl)
      · go_simp
        ((first | (go_at_call 39; (with_reducible refine (KN0.out _ _ (by first | exact hx | exact hx.alloc _ | exact (H3.out.alloc _).drew1)).mono ?_); rintro e wx ⟨rfl, hx⟩; dsimp only) | (go_at_call 40; (with_reducible refine (KI.out _ _ (by first | exact hx | exact hx.alloc _ | exact (H3.out.alloc _).drew1)).mono ?_); rintro e wx ⟨rfl, hx⟩; dsimp only) | (refine step_store_st rfl 23 (.tmp 5) (.tmp 19) rfl (off := 0) #[Value.int .i64 m0, .int .i64 ik, .int .i64 0, .int .i64 0, .string ⟨#[]⟩] rfl rfl (by first | exact hx | exact hx.alloc _ | exact (H3.out.alloc _).drew1) F5.out I5.out O5.out ?_; intro w9 h9; rw [E5.out] at h9; dsimp only)))
        refine hK.out _ _ ?_ (fun hHeld => ?_)
        · (try dsimp only) <;> (first | exact SX.out _ _ hx | exact SX.out _ _ (hx.alloc_ _) | exact SX.out _ _ h9)
        clear hK K
        try simp only [Act.put, List.setIfInBounds_toArray, List.set_cons_zero, List.set_cons_succ]
        refine wpAnyH_ready (rs := [8]) (by kernel_rfl) (by simp) ?_
        refine AllReadyH.cons (o := ?_) ?_ (fun K hK => ?_) ?_
        rotate_left 1
        · (simp only [List.getElem?_toArray, List.getElem?_cons_succ, List.getElem?_cons_zero]; exact rfl)
        · go_simp
          ((first | (go_at_call 39; (with_reducible refine (KN0.out _ _ (by first | exact hx | exact hx.alloc _ | exact (H3.out.alloc _).drew1)).mono ?_); rintro e wx ⟨rfl, hx⟩; dsimp only) | (go_at_call 40; (with_reducible refine (KI.out _ _ (by first | exact hx | exact hx.alloc _ | exact (H3.out.alloc _).drew1)).mono ?_); rintro e wx ⟨rfl, hx⟩; dsimp only) | (refine step_store_st rfl 23 (.tmp 5) (.tmp 19) rfl (off := 0) #[Value.int .i64 m0, .int .i64 ik, .int .i64 0, .int .i64 0, .string ⟨#[]⟩] rfl rfl (by first | exact hx | exact hx.alloc _ | exact (H3.out.alloc _).drew1) F5.out I5.out O5.out ?_; intro w9 h9; rw [E5.out] at h9; dsimp only)))
          refine hK.out _ _ ?_ (fun hHeld => ?_)
          · (try dsimp only) <;> (first | exact SX.out _ _ hx | exact SX.out _ _ (hx.alloc_ _) | exact SX.out _ _ h9)
          clear hK K
          try simp only [Act.put, List.setIfInBounds_toArray, List.set_cons_zero, List.set_cons_succ]
          refine wpAnyH_take (i := 9) (oi := ?_) (v := ?_) ?_ ?_ ?_ ?_ ?_ ?_ ?_ ?_
          rotate_left 2
          · (simp only [List.getElem?_toArray, List.getElem?_cons_succ, List.getElem?_cons_zero]; exact rfl)
          · kernel_rfl
          · kernel_rfl
          · kernel_rfl
          · exact fun _ _ _ h => h
          · first | (refine Or.inl ⟨by rfl, ?_⟩; intro w hSw; (try dsimp only at hSw); go_simp; try with_reducible rfl) | (refine Or.inr ⟨by rfl, ?_⟩; rfl)
          · assumption
          try simp only [Act.put, List.setIfInBounds_toArray, List.set_cons_zero, List.set_cons_succ]
          refine wpAnyH_ready (rs := [11]) (by kernel_rfl) (by simp) ?_
          refine AllReadyH.cons (o := ?_) ?_ (fun K hK => ?_) ?_
          rotate_left 1
          · (simp only [List.getElem?_toArray, List.getElem?_cons_succ, List.getElem?_cons_zero]; exact rfl)
          · ((first | (go_at_call 39; (with_reducible refine (KN0.out _ _ (by first | exact hx | exact hx.alloc _ | exact (H3.out.alloc _).drew1)).mono ?_); rintro e wx ⟨rfl, hx⟩; dsimp only) | (go_at_call 40; (with_reducible refine (KI.out _ _ (by first | exact hx | exact hx.alloc _ | exact (H3.out.alloc _).drew1)).mono ?_); rintro e wx ⟨rfl, hx⟩; dsimp only) | (refine step_store_st rfl 23 (.tmp 5) (.tmp 19) rfl (off := 0) #[Value.int .i64 m0, .int .i64 ik, .int .i64 0, .int .i64 0, .string ⟨#[]⟩] rfl rfl (by first | exact hx | exact hx.alloc _ | exact (H3.out.alloc _).drew1) F5.out I5.out O5.out ?_; intro w9 h9; rw [E5.out] at h9; dsimp only)))
            refine hK.out _ _ ?_ (fun hHeld => ?_)
            · (try dsimp only) <;> (first | exact SX.out _ _ hx | exact SX.out _ _ (hx.alloc_ _) | exact SX.out _ _ h9)
            clear hK K
            try simp only [Act.put, List.setIfInBounds_toArray, List.set_cons_zero, List.set_cons_succ]
            refine wpAnyH_done (by kernel_rfl) ?_ _
            go_wp2_with fail
            go_meet
            exact ⟨_, rfl, h9⟩
          exact AllReadyH.nil
        exact AllReadyH.nil
      exact AllReadyH.nil
    exact AllReadyH.nil
  case rest =>
    obtain ⟨b5, rfl, h5⟩ := hcut
    clear F5 E5 I5 O5 KI SX hul hx H3 KN0
    obtain ⟨PC, hPC⟩ : ∃ c, pC ws = c := ⟨_, rfl⟩
    have hpc := HPC2.out
    have okc := OKC.out
    have hpv := HPV.out
    rw [hPC] at hpc okc hpv
    have kR := fun (v : World) (F : List (Nat × Obj)) (hv : St W v J F) => call_right CVJ.out.t CVJ.out.t4 PC okc hv
    have hnm : PC.name.size ≤ 1000000 := by
      rw [hpc]
      simp only
      split
      · rw [ba_size]; omega
      · show (0 : Nat) ≤ _; omega
    have kT := fun (v : World) (F : List (Nat × Obj)) (hv : St W v J F) => call_text CVJ.out PC okc hnm hv
    unfold Cl.val at kR kT
    have fp := (call_fit zC PC).1
    have mp := (call_fit zC PC).2
    have ip := call_info PC
    have op := Cl.one PC
    rw [ZL.out] at fp mp
    have KR := Lib.hid kR; have KT := Lib.hid kT; have HPV2 := Lib.hid hpv; have FP := Lib.hid fp; have MP := Lib.hid mp; have IP := Lib.hid ip; have OP := Lib.hid op
    obtain ⟨y0, y1, y2, y3, y4⟩ := h5.clf (b := b5) (c := ⟨m0, ik, 0, 0, empB⟩) (by simp)
    have z2 := h5.ro G2.out
    clear kR kT hpv fp mp ip op okc hnm OKC HPV HPC2 CVJ HOK
    by_cases k1 : ik = 1
    · subst k1
      have hp2 : PC = ⟨m0, 1, 0, 0, ⟨rn.1.toArray⟩⟩ := by rw [hpc]; simp
      have H5 := Lib.hid h5
      clear hpc h5 KN2
      go_wp2_with fail
      refine (KG.out _ _ H5.out).mono ?_
      rintro e w6 ⟨rfl, h6⟩
      have e4 := (h6.clf (b := b5) (c := ⟨m0, 1, 0, 0, empB⟩) (by simp)).2.2.2.2
      have f4 := h6.frozen (g := b5) (cs := (⟨m0, 1, 0, 0, empB⟩ : Cl).cells) (t := 23) (by simp) 4
      have h7 := St.set (A := []) h6 4 (.string ⟨rn.1.toArray⟩)
      rw [Cl.set4, ← hp2] at h7
      have HX := Lib.hid h7
      clear h6 h7 H5 KG hp2 y0 y1 y2 y3 y4 z2 hPC
      go_wp2_with (first | (with_reducible refine wpList_load_st rfl 23 (.tmp 5) rfl (g := b5) (off := 0) rfl HX.out (cs := PC.cells) (t := 23) (fr := (0, 0)) (by simp) PC.cells (fun j hj => by rw [Nat.zero_add]) _ Tryd.underlying23 rfl IP.out ?_) | (refine wpList_load_g (by rfl) 23 (.tmp 5) rfl (g := b5) (off := 0) rfl HX.out (cs := PC.cells) (t := 23) (fr := (0, 0)) (by simp) PC.cells (fun j hj => by rw [Nat.zero_add]) _ Tryd.underlying23 rfl IP.out ?_))
      refine (KR.out _ _ HX.out).mono ?_
      rintro e w7 ⟨rfl, h7⟩
      obtain ⟨R, hR⟩ : ∃ R, rightC PC = R := ⟨_, rfl⟩
      have hpv := HPV2.out
      rw [hR] at hpv ⊢
      clear HX KR hR HPV2
      have HX := Lib.hid h7
      clear h7
      cases R with
      | false =>
        have HV : Hid (parseC t = (zC, 241)) := Lib.hid (by rw [hpv]; rfl)
        clear hpv KT
        have HY := HX
        clear HX
        have HP := Lib.hid (HY.out.perm (List.Perm.swap _ _ _))
        clear HY
        go_wp2_with (with_reducible refine wpList_store_st rfl 23 (.tmp 2) (.tmp 56) rfl (g := b) (off := 0) #[Value.int .i64 0, .int .i64 0, .int .i64 0, .int .i64 0, .string ⟨#[]⟩] rfl rfl HP.out FZ.out IZ.out OZ.out ?_; intro w9 h9; refine Hid.out ?_)
        refine Lib.hid ?_
        rw [MZ.out, ← ZL.out] at h9
        go_wp2_with fail
        refine bodyPost_ret (call_ret (t := zC) h9 rfl rfl rfl) rfl ?_
        exact ⟨by rw [HV.out], (St.weaken (A := [_, _]) h9).less HLE.out⟩
      | true =>
        have HPV3 := Lib.hid hpv
        clear hpv
        go_wp2_with (first | (with_reducible refine wpList_load_st rfl 23 (.tmp 5) rfl (g := b5) (off := 0) rfl HX.out (cs := PC.cells) (t := 23) (fr := (0, 0)) (by simp) PC.cells (fun j hj => by rw [Nat.zero_add]) _ Tryd.underlying23 rfl IP.out ?_) | (refine wpList_load_g (by rfl) 23 (.tmp 5) rfl (g := b5) (off := 0) rfl HX.out (cs := PC.cells) (t := 23) (fr := (0, 0)) (by simp) PC.cells (fun j hj => by rw [Nat.zero_add]) _ Tryd.underlying23 rfl IP.out ?_))
        refine (KT.out _ _ HX.out).mono ?_
        rintro e w8 ⟨rfl, h8⟩
        clear HX KT
        have HY := Lib.hid h8
        clear h8
        have hq : ((⟨(textC PC).toArray⟩ : ByteArray).toList == t.toList) = (textC PC == t.data.toList) := by rw [ByteArray.toList_eq, ByteArray.toList_eq]
        obtain ⟨E, hE⟩ : ∃ E, (textC PC == t.data.toList) = E := ⟨_, rfl⟩
        have hpv := HPV3.out
        clear HPV3
        rw [hE] at hq hpv
        generalize (⟨(textC PC).toArray⟩ : ByteArray) = tx at *
        clear hE
        cases E with
        | false =>
          have HV : Hid (parseC t = (zC, 241)) := Lib.hid (by rw [hpv]; rfl)
          clear hpv
          have HP := Lib.hid (HY.out.perm (List.Perm.swap _ _ _))
          clear HY
          go_wp2_with (with_reducible refine wpList_store_st rfl 23 (.tmp 2) (.tmp 56) rfl (g := b) (off := 0) #[Value.int .i64 0, .int .i64 0, .int .i64 0, .int .i64 0, .string ⟨#[]⟩] rfl rfl HP.out FZ.out IZ.out OZ.out ?_; intro w9 h9; refine Hid.out ?_)
          refine Lib.hid ?_
          rw [MZ.out, ← ZL.out] at h9
          go_wp2_with fail
          refine bodyPost_ret (call_ret (t := zC) h9 rfl rfl rfl) rfl ?_
          exact ⟨by rw [HV.out], (St.weaken (A := [_, _]) h9).less HLE.out⟩
        | true =>
          have HV : Hid (parseC t = (PC, 0)) := Lib.hid (by rw [hpv]; rfl)
          clear hpv
          have HP := Lib.hid (HY.out.perm (List.Perm.swap _ _ _))
          go_wp2_with (first | (with_reducible refine wpList_load_st rfl 23 (.tmp 5) rfl (g := b5) (off := 0) rfl HY.out (cs := PC.cells) (t := 23) (fr := (0, 0)) (by simp) PC.cells (fun j hj => by rw [Nat.zero_add]) _ Tryd.underlying23 rfl IP.out ?_) | (with_reducible refine wpList_store_st rfl 23 (.tmp 2) (.tmp 57) rfl (g := b) (off := 0) PC.cells rfl rfl HP.out FP.out IP.out OP.out ?_; intro w9 h9; refine Hid.out ?_))
          refine Lib.hid ?_
          rw [MP.out] at h9
          go_wp2_with fail
          refine bodyPost_ret (call_ret (t := PC) h9 rfl rfl rfl) rfl ?_
          exact ⟨by rw [HV.out], (St.weaken (A := [_, _]) h9).less HLE.out⟩
    by_cases k2 : ik = 2
    · subst k2
      have hp2 : PC = ⟨m0, 2, 0, m2, empB⟩ := by rw [hpc]; simp
      have H5 := Lib.hid h5
      clear hpc h5 KG
      go_wp2_with fail
      refine (KN2.out _ _ H5.out).mono ?_
      rintro e w6 ⟨rfl, h6⟩
      have e4 := (h6.clf (b := b5) (c := ⟨m0, 2, 0, 0, empB⟩) (by simp)).2.2.2.1
      have f4 := h6.frozen (g := b5) (cs := (⟨m0, 2, 0, 0, empB⟩ : Cl).cells) (t := 23) (by simp) 3
      have h7 := St.set (A := []) h6 3 (.int .i64 m2)
      rw [Cl.set3, ← hp2] at h7
      have HX := Lib.hid h7
      clear h6 h7 H5 KN2 hp2 y0 y1 y2 y3 y4 z2 hPC
      go_wp2_with (first | (with_reducible refine wpList_load_st rfl 23 (.tmp 5) rfl (g := b5) (off := 0) rfl HX.out (cs := PC.cells) (t := 23) (fr := (0, 0)) (by simp) PC.cells (fun j hj => by rw [Nat.zero_add]) _ Tryd.underlying23 rfl IP.out ?_) | (refine wpList_load_g (by rfl) 23 (.tmp 5) rfl (g := b5) (off := 0) rfl HX.out (cs := PC.cells) (t := 23) (fr := (0, 0)) (by simp) PC.cells (fun j hj => by rw [Nat.zero_add]) _ Tryd.underlying23 rfl IP.out ?_))
      refine (KR.out _ _ HX.out).mono ?_
      rintro e w7 ⟨rfl, h7⟩
      obtain ⟨R, hR⟩ : ∃ R, rightC PC = R := ⟨_, rfl⟩
      have hpv := HPV2.out
      rw [hR] at hpv ⊢
      clear HX KR hR HPV2
      have HX := Lib.hid h7
      clear h7
      cases R with
      | false =>
        have HV : Hid (parseC t = (zC, 241)) := Lib.hid (by rw [hpv]; rfl)
        clear hpv KT
        have HY := HX
        clear HX
        have HP := Lib.hid (HY.out.perm (List.Perm.swap _ _ _))
        clear HY
        go_wp2_with (with_reducible refine wpList_store_st rfl 23 (.tmp 2) (.tmp 56) rfl (g := b) (off := 0) #[Value.int .i64 0, .int .i64 0, .int .i64 0, .int .i64 0, .string ⟨#[]⟩] rfl rfl HP.out FZ.out IZ.out OZ.out ?_; intro w9 h9; refine Hid.out ?_)
        refine Lib.hid ?_
        rw [MZ.out, ← ZL.out] at h9
        go_wp2_with fail
        refine bodyPost_ret (call_ret (t := zC) h9 rfl rfl rfl) rfl ?_
        exact ⟨by rw [HV.out], (St.weaken (A := [_, _]) h9).less HLE.out⟩
      | true =>
        have HPV3 := Lib.hid hpv
        clear hpv
        go_wp2_with (first | (with_reducible refine wpList_load_st rfl 23 (.tmp 5) rfl (g := b5) (off := 0) rfl HX.out (cs := PC.cells) (t := 23) (fr := (0, 0)) (by simp) PC.cells (fun j hj => by rw [Nat.zero_add]) _ Tryd.underlying23 rfl IP.out ?_) | (refine wpList_load_g (by rfl) 23 (.tmp 5) rfl (g := b5) (off := 0) rfl HX.out (cs := PC.cells) (t := 23) (fr := (0, 0)) (by simp) PC.cells (fun j hj => by rw [Nat.zero_add]) _ Tryd.underlying23 rfl IP.out ?_))
        refine (KT.out _ _ HX.out).mono ?_
        rintro e w8 ⟨rfl, h8⟩
        clear HX KT
        have HY := Lib.hid h8
        clear h8
        have hq : ((⟨(textC PC).toArray⟩ : ByteArray).toList == t.toList) = (textC PC == t.data.toList) := by rw [ByteArray.toList_eq, ByteArray.toList_eq]
        obtain ⟨E, hE⟩ : ∃ E, (textC PC == t.data.toList) = E := ⟨_, rfl⟩
        have hpv := HPV3.out
        clear HPV3
        rw [hE] at hq hpv
        generalize (⟨(textC PC).toArray⟩ : ByteArray) = tx at *
        clear hE
        cases E with
        | false =>
          have HV : Hid (parseC t = (zC, 241)) := Lib.hid (by rw [hpv]; rfl)
          clear hpv
          have HP := Lib.hid (HY.out.perm (List.Perm.swap _ _ _))
          clear HY
          go_wp2_with (with_reducible refine wpList_store_st rfl 23 (.tmp 2) (.tmp 56) rfl (g := b) (off := 0) #[Value.int .i64 0, .int .i64 0, .int .i64 0, .int .i64 0, .string ⟨#[]⟩] rfl rfl HP.out FZ.out IZ.out OZ.out ?_; intro w9 h9; refine Hid.out ?_)
          refine Lib.hid ?_
          rw [MZ.out, ← ZL.out] at h9
          go_wp2_with fail
          refine bodyPost_ret (call_ret (t := zC) h9 rfl rfl rfl) rfl ?_
          exact ⟨by rw [HV.out], (St.weaken (A := [_, _]) h9).less HLE.out⟩
        | true =>
          have HV : Hid (parseC t = (PC, 0)) := Lib.hid (by rw [hpv]; rfl)
          clear hpv
          have HP := Lib.hid (HY.out.perm (List.Perm.swap _ _ _))
          go_wp2_with (first | (with_reducible refine wpList_load_st rfl 23 (.tmp 5) rfl (g := b5) (off := 0) rfl HY.out (cs := PC.cells) (t := 23) (fr := (0, 0)) (by simp) PC.cells (fun j hj => by rw [Nat.zero_add]) _ Tryd.underlying23 rfl IP.out ?_) | (with_reducible refine wpList_store_st rfl 23 (.tmp 2) (.tmp 57) rfl (g := b) (off := 0) PC.cells rfl rfl HP.out FP.out IP.out OP.out ?_; intro w9 h9; refine Hid.out ?_))
          refine Lib.hid ?_
          rw [MP.out] at h9
          go_wp2_with fail
          refine bodyPost_ret (call_ret (t := PC) h9 rfl rfl rfl) rfl ?_
          exact ⟨by rw [HV.out], (St.weaken (A := [_, _]) h9).less HLE.out⟩
    by_cases k4 : ik = 4
    · subst k4
      have hp2 : PC = ⟨m0, 4, m2, 0, empB⟩ := by rw [hpc]; simp
      have H5 := Lib.hid h5
      clear hpc h5 KG
      go_wp2_with fail
      refine (KN2.out _ _ H5.out).mono ?_
      rintro e w6 ⟨rfl, h6⟩
      have e4 := (h6.clf (b := b5) (c := ⟨m0, 4, 0, 0, empB⟩) (by simp)).2.2.1
      have f4 := h6.frozen (g := b5) (cs := (⟨m0, 4, 0, 0, empB⟩ : Cl).cells) (t := 23) (by simp) 2
      have h7 := St.set (A := []) h6 2 (.int .i64 m2)
      rw [Cl.set2, ← hp2] at h7
      have HX := Lib.hid h7
      clear h6 h7 H5 KN2 hp2 y0 y1 y2 y3 y4 z2 hPC
      go_wp2_with (first | (with_reducible refine wpList_load_st rfl 23 (.tmp 5) rfl (g := b5) (off := 0) rfl HX.out (cs := PC.cells) (t := 23) (fr := (0, 0)) (by simp) PC.cells (fun j hj => by rw [Nat.zero_add]) _ Tryd.underlying23 rfl IP.out ?_) | (refine wpList_load_g (by rfl) 23 (.tmp 5) rfl (g := b5) (off := 0) rfl HX.out (cs := PC.cells) (t := 23) (fr := (0, 0)) (by simp) PC.cells (fun j hj => by rw [Nat.zero_add]) _ Tryd.underlying23 rfl IP.out ?_))
      refine (KR.out _ _ HX.out).mono ?_
      rintro e w7 ⟨rfl, h7⟩
      obtain ⟨R, hR⟩ : ∃ R, rightC PC = R := ⟨_, rfl⟩
      have hpv := HPV2.out
      rw [hR] at hpv ⊢
      clear HX KR hR HPV2
      have HX := Lib.hid h7
      clear h7
      cases R with
      | false =>
        have HV : Hid (parseC t = (zC, 241)) := Lib.hid (by rw [hpv]; rfl)
        clear hpv KT
        have HY := HX
        clear HX
        have HP := Lib.hid (HY.out.perm (List.Perm.swap _ _ _))
        clear HY
        go_wp2_with (with_reducible refine wpList_store_st rfl 23 (.tmp 2) (.tmp 56) rfl (g := b) (off := 0) #[Value.int .i64 0, .int .i64 0, .int .i64 0, .int .i64 0, .string ⟨#[]⟩] rfl rfl HP.out FZ.out IZ.out OZ.out ?_; intro w9 h9; refine Hid.out ?_)
        refine Lib.hid ?_
        rw [MZ.out, ← ZL.out] at h9
        go_wp2_with fail
        refine bodyPost_ret (call_ret (t := zC) h9 rfl rfl rfl) rfl ?_
        exact ⟨by rw [HV.out], (St.weaken (A := [_, _]) h9).less HLE.out⟩
      | true =>
        have HPV3 := Lib.hid hpv
        clear hpv
        go_wp2_with (first | (with_reducible refine wpList_load_st rfl 23 (.tmp 5) rfl (g := b5) (off := 0) rfl HX.out (cs := PC.cells) (t := 23) (fr := (0, 0)) (by simp) PC.cells (fun j hj => by rw [Nat.zero_add]) _ Tryd.underlying23 rfl IP.out ?_) | (refine wpList_load_g (by rfl) 23 (.tmp 5) rfl (g := b5) (off := 0) rfl HX.out (cs := PC.cells) (t := 23) (fr := (0, 0)) (by simp) PC.cells (fun j hj => by rw [Nat.zero_add]) _ Tryd.underlying23 rfl IP.out ?_))
        refine (KT.out _ _ HX.out).mono ?_
        rintro e w8 ⟨rfl, h8⟩
        clear HX KT
        have HY := Lib.hid h8
        clear h8
        have hq : ((⟨(textC PC).toArray⟩ : ByteArray).toList == t.toList) = (textC PC == t.data.toList) := by rw [ByteArray.toList_eq, ByteArray.toList_eq]
        obtain ⟨E, hE⟩ : ∃ E, (textC PC == t.data.toList) = E := ⟨_, rfl⟩
        have hpv := HPV3.out
        clear HPV3
        rw [hE] at hq hpv
        generalize (⟨(textC PC).toArray⟩ : ByteArray) = tx at *
        clear hE
        cases E with
        | false =>
          have HV : Hid (parseC t = (zC, 241)) := Lib.hid (by rw [hpv]; rfl)
          clear hpv
          have HP := Lib.hid (HY.out.perm (List.Perm.swap _ _ _))
          clear HY
          go_wp2_with (with_reducible refine wpList_store_st rfl 23 (.tmp 2) (.tmp 56) rfl (g := b) (off := 0) #[Value.int .i64 0, .int .i64 0, .int .i64 0, .int .i64 0, .string ⟨#[]⟩] rfl rfl HP.out FZ.out IZ.out OZ.out ?_; intro w9 h9; refine Hid.out ?_)
          refine Lib.hid ?_
          rw [MZ.out, ← ZL.out] at h9
          go_wp2_with fail
          refine bodyPost_ret (call_ret (t := zC) h9 rfl rfl rfl) rfl ?_
          exact ⟨by rw [HV.out], (St.weaken (A := [_, _]) h9).less HLE.out⟩
        | true =>
          have HV : Hid (parseC t = (PC, 0)) := Lib.hid (by rw [hpv]; rfl)
          clear hpv
          have HP := Lib.hid (HY.out.perm (List.Perm.swap _ _ _))
          go_wp2_with (first | (with_reducible refine wpList_load_st rfl 23 (.tmp 5) rfl (g := b5) (off := 0) rfl HY.out (cs := PC.cells) (t := 23) (fr := (0, 0)) (by simp) PC.cells (fun j hj => by rw [Nat.zero_add]) _ Tryd.underlying23 rfl IP.out ?_) | (with_reducible refine wpList_store_st rfl 23 (.tmp 2) (.tmp 57) rfl (g := b) (off := 0) PC.cells rfl rfl HP.out FP.out IP.out OP.out ?_; intro w9 h9; refine Hid.out ?_))
          refine Lib.hid ?_
          rw [MP.out] at h9
          go_wp2_with fail
          refine bodyPost_ret (call_ret (t := PC) h9 rfl rfl rfl) rfl ?_
          exact ⟨by rw [HV.out], (St.weaken (A := [_, _]) h9).less HLE.out⟩
    by_cases k5 : ik = 5
    · subst k5
      have hp2 : PC = ⟨m0, 5, m2, 0, empB⟩ := by rw [hpc]; simp
      have H5 := Lib.hid h5
      clear hpc h5 KG
      go_wp2_with fail
      refine (KN2.out _ _ H5.out).mono ?_
      rintro e w6 ⟨rfl, h6⟩
      have e4 := (h6.clf (b := b5) (c := ⟨m0, 5, 0, 0, empB⟩) (by simp)).2.2.1
      have f4 := h6.frozen (g := b5) (cs := (⟨m0, 5, 0, 0, empB⟩ : Cl).cells) (t := 23) (by simp) 2
      have h7 := St.set (A := []) h6 2 (.int .i64 m2)
      rw [Cl.set2, ← hp2] at h7
      have HX := Lib.hid h7
      clear h6 h7 H5 KN2 hp2 y0 y1 y2 y3 y4 z2 hPC
      go_wp2_with (first | (with_reducible refine wpList_load_st rfl 23 (.tmp 5) rfl (g := b5) (off := 0) rfl HX.out (cs := PC.cells) (t := 23) (fr := (0, 0)) (by simp) PC.cells (fun j hj => by rw [Nat.zero_add]) _ Tryd.underlying23 rfl IP.out ?_) | (refine wpList_load_g (by rfl) 23 (.tmp 5) rfl (g := b5) (off := 0) rfl HX.out (cs := PC.cells) (t := 23) (fr := (0, 0)) (by simp) PC.cells (fun j hj => by rw [Nat.zero_add]) _ Tryd.underlying23 rfl IP.out ?_))
      refine (KR.out _ _ HX.out).mono ?_
      rintro e w7 ⟨rfl, h7⟩
      obtain ⟨R, hR⟩ : ∃ R, rightC PC = R := ⟨_, rfl⟩
      have hpv := HPV2.out
      rw [hR] at hpv ⊢
      clear HX KR hR HPV2
      have HX := Lib.hid h7
      clear h7
      cases R with
      | false =>
        have HV : Hid (parseC t = (zC, 241)) := Lib.hid (by rw [hpv]; rfl)
        clear hpv KT
        have HY := HX
        clear HX
        have HP := Lib.hid (HY.out.perm (List.Perm.swap _ _ _))
        clear HY
        go_wp2_with (with_reducible refine wpList_store_st rfl 23 (.tmp 2) (.tmp 56) rfl (g := b) (off := 0) #[Value.int .i64 0, .int .i64 0, .int .i64 0, .int .i64 0, .string ⟨#[]⟩] rfl rfl HP.out FZ.out IZ.out OZ.out ?_; intro w9 h9; refine Hid.out ?_)
        refine Lib.hid ?_
        rw [MZ.out, ← ZL.out] at h9
        go_wp2_with fail
        refine bodyPost_ret (call_ret (t := zC) h9 rfl rfl rfl) rfl ?_
        exact ⟨by rw [HV.out], (St.weaken (A := [_, _]) h9).less HLE.out⟩
      | true =>
        have HPV3 := Lib.hid hpv
        clear hpv
        go_wp2_with (first | (with_reducible refine wpList_load_st rfl 23 (.tmp 5) rfl (g := b5) (off := 0) rfl HX.out (cs := PC.cells) (t := 23) (fr := (0, 0)) (by simp) PC.cells (fun j hj => by rw [Nat.zero_add]) _ Tryd.underlying23 rfl IP.out ?_) | (refine wpList_load_g (by rfl) 23 (.tmp 5) rfl (g := b5) (off := 0) rfl HX.out (cs := PC.cells) (t := 23) (fr := (0, 0)) (by simp) PC.cells (fun j hj => by rw [Nat.zero_add]) _ Tryd.underlying23 rfl IP.out ?_))
        refine (KT.out _ _ HX.out).mono ?_
        rintro e w8 ⟨rfl, h8⟩
        clear HX KT
        have HY := Lib.hid h8
        clear h8
        have hq : ((⟨(textC PC).toArray⟩ : ByteArray).toList == t.toList) = (textC PC == t.data.toList) := by rw [ByteArray.toList_eq, ByteArray.toList_eq]
        obtain ⟨E, hE⟩ : ∃ E, (textC PC == t.data.toList) = E := ⟨_, rfl⟩
        have hpv := HPV3.out
        clear HPV3
        rw [hE] at hq hpv
        generalize (⟨(textC PC).toArray⟩ : ByteArray) = tx at *
        clear hE
        cases E with
        | false =>
          have HV : Hid (parseC t = (zC, 241)) := Lib.hid (by rw [hpv]; rfl)
          clear hpv
          have HP := Lib.hid (HY.out.perm (List.Perm.swap _ _ _))
          clear HY
          go_wp2_with (with_reducible refine wpList_store_st rfl 23 (.tmp 2) (.tmp 56) rfl (g := b) (off := 0) #[Value.int .i64 0, .int .i64 0, .int .i64 0, .int .i64 0, .string ⟨#[]⟩] rfl rfl HP.out FZ.out IZ.out OZ.out ?_; intro w9 h9; refine Hid.out ?_)
          refine Lib.hid ?_
          rw [MZ.out, ← ZL.out] at h9
          go_wp2_with fail
          refine bodyPost_ret (call_ret (t := zC) h9 rfl rfl rfl) rfl ?_
          exact ⟨by rw [HV.out], (St.weaken (A := [_, _]) h9).less HLE.out⟩
        | true =>
          have HV : Hid (parseC t = (PC, 0)) := Lib.hid (by rw [hpv]; rfl)
          clear hpv
          have HP := Lib.hid (HY.out.perm (List.Perm.swap _ _ _))
          go_wp2_with (first | (with_reducible refine wpList_load_st rfl 23 (.tmp 5) rfl (g := b5) (off := 0) rfl HY.out (cs := PC.cells) (t := 23) (fr := (0, 0)) (by simp) PC.cells (fun j hj => by rw [Nat.zero_add]) _ Tryd.underlying23 rfl IP.out ?_) | (with_reducible refine wpList_store_st rfl 23 (.tmp 2) (.tmp 57) rfl (g := b) (off := 0) PC.cells rfl rfl HP.out FP.out IP.out OP.out ?_; intro w9 h9; refine Hid.out ?_))
          refine Lib.hid ?_
          rw [MP.out] at h9
          go_wp2_with fail
          refine bodyPost_ret (call_ret (t := PC) h9 rfl rfl rfl) rfl ?_
          exact ⟨by rw [HV.out], (St.weaken (A := [_, _]) h9).less HLE.out⟩
    have hp2 : PC = ⟨m0, ik, 0, 0, empB⟩ := by rw [hpc]; simp [k1, k2, k4, k5]
    rw [← hp2] at h5
    have HX := Lib.hid h5
    have q1 : (ik == 1) = false := beq_eq_false_iff_ne.2 k1
    have q2 : (ik == 2) = false := beq_eq_false_iff_ne.2 k2
    have q4 : (ik == 4) = false := beq_eq_false_iff_ne.2 k4
    have q5 : (ik == 5) = false := beq_eq_false_iff_ne.2 k5
    clear hpc h5 KG KN2 hp2 y0 y2 y3 y4 z2 hPC
    go_wp2_with (first | (with_reducible refine wpList_load_st rfl 23 (.tmp 5) rfl (g := b5) (off := 0) rfl HX.out (cs := PC.cells) (t := 23) (fr := (0, 0)) (by simp) PC.cells (fun j hj => by rw [Nat.zero_add]) _ Tryd.underlying23 rfl IP.out ?_) | (refine wpList_load_g (by rfl) 23 (.tmp 5) rfl (g := b5) (off := 0) rfl HX.out (cs := PC.cells) (t := 23) (fr := (0, 0)) (by simp) PC.cells (fun j hj => by rw [Nat.zero_add]) _ Tryd.underlying23 rfl IP.out ?_))
    refine (KR.out _ _ HX.out).mono ?_
    rintro e w7 ⟨rfl, h7⟩
    obtain ⟨R, hR⟩ : ∃ R, rightC PC = R := ⟨_, rfl⟩
    have hpv := HPV2.out
    rw [hR] at hpv ⊢
    clear HX KR hR HPV2
    have HX := Lib.hid h7
    clear h7
    cases R with
    | false =>
      have HV : Hid (parseC t = (zC, 241)) := Lib.hid (by rw [hpv]; rfl)
      clear hpv KT
      have HY := HX
      clear HX
      have HP := Lib.hid (HY.out.perm (List.Perm.swap _ _ _))
      clear HY
      go_wp2_with (with_reducible refine wpList_store_st rfl 23 (.tmp 2) (.tmp 56) rfl (g := b) (off := 0) #[Value.int .i64 0, .int .i64 0, .int .i64 0, .int .i64 0, .string ⟨#[]⟩] rfl rfl HP.out FZ.out IZ.out OZ.out ?_; intro w9 h9; refine Hid.out ?_)
      refine Lib.hid ?_
      rw [MZ.out, ← ZL.out] at h9
      go_wp2_with fail
      refine bodyPost_ret (call_ret (t := zC) h9 rfl rfl rfl) rfl ?_
      exact ⟨by rw [HV.out], (St.weaken (A := [_, _]) h9).less HLE.out⟩
    | true =>
      have HPV3 := Lib.hid hpv
      clear hpv
      go_wp2_with (first | (with_reducible refine wpList_load_st rfl 23 (.tmp 5) rfl (g := b5) (off := 0) rfl HX.out (cs := PC.cells) (t := 23) (fr := (0, 0)) (by simp) PC.cells (fun j hj => by rw [Nat.zero_add]) _ Tryd.underlying23 rfl IP.out ?_) | (refine wpList_load_g (by rfl) 23 (.tmp 5) rfl (g := b5) (off := 0) rfl HX.out (cs := PC.cells) (t := 23) (fr := (0, 0)) (by simp) PC.cells (fun j hj => by rw [Nat.zero_add]) _ Tryd.underlying23 rfl IP.out ?_))
      refine (KT.out _ _ HX.out).mono ?_
      rintro e w8 ⟨rfl, h8⟩
      clear HX KT
      have HY := Lib.hid h8
      clear h8
      have hq : ((⟨(textC PC).toArray⟩ : ByteArray).toList == t.toList) = (textC PC == t.data.toList) := by rw [ByteArray.toList_eq, ByteArray.toList_eq]
      obtain ⟨E, hE⟩ : ∃ E, (textC PC == t.data.toList) = E := ⟨_, rfl⟩
      have hpv := HPV3.out
      clear HPV3
      rw [hE] at hq hpv
      generalize (⟨(textC PC).toArray⟩ : ByteArray) = tx at *
      clear hE
      cases E with
      | false =>
        have HV : Hid (parseC t = (zC, 241)) := Lib.hid (by rw [hpv]; rfl)
        clear hpv
        have HP := Lib.hid (HY.out.perm (List.Perm.swap _ _ _))
        clear HY
        go_wp2_with (with_reducible refine wpList_store_st rfl 23 (.tmp 2) (.tmp 56) rfl (g := b) (off := 0) #[Value.int .i64 0, .int .i64 0, .int .i64 0, .int .i64 0, .string ⟨#[]⟩] rfl rfl HP.out FZ.out IZ.out OZ.out ?_; intro w9 h9; refine Hid.out ?_)
        refine Lib.hid ?_
        rw [MZ.out, ← ZL.out] at h9
        go_wp2_with fail
        refine bodyPost_ret (call_ret (t := zC) h9 rfl rfl rfl) rfl ?_
        exact ⟨by rw [HV.out], (St.weaken (A := [_, _]) h9).less HLE.out⟩
      | true =>
        have HV : Hid (parseC t = (PC, 0)) := Lib.hid (by rw [hpv]; rfl)
        clear hpv
        have HP := Lib.hid (HY.out.perm (List.Perm.swap _ _ _))
        go_wp2_with (first | (with_reducible refine wpList_load_st rfl 23 (.tmp 5) rfl (g := b5) (off := 0) rfl HY.out (cs := PC.cells) (t := 23) (fr := (0, 0)) (by simp) PC.cells (fun j hj => by rw [Nat.zero_add]) _ Tryd.underlying23 rfl IP.out ?_) | (with_reducible refine wpList_store_st rfl 23 (.tmp 2) (.tmp 57) rfl (g := b) (off := 0) PC.cells rfl rfl HP.out FP.out IP.out OP.out ?_; intro w9 h9; refine Hid.out ?_))
        refine Lib.hid ?_
        rw [MP.out] at h9
        go_wp2_with fail
        refine bodyPost_ret (call_ret (t := PC) h9 rfl rfl rfl) rfl ?_
        exact ⟨by rw [HV.out], (St.weaken (A := [_, _]) h9).less HLE.out⟩
end
end
end Go.Proofs.YtjcekmmieihllaaDoor
