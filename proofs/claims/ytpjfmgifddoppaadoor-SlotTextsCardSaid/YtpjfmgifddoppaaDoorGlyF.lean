/- glyph: Len, Cut, Same; the document's Cut: walks. -/
import Derived.Test.YtpjfmgifddoppaaDoorTxB
import Derived.Test.YtpjfmgifddoppaaDoorGlyphC2
import Derived.Test.YtpjfmgifddoppaaDoorRfold
import Derived.Test.YtpjfmgifddoppaaDoorRdA
namespace Go.Proofs.YtpjfmgifddoppaaDoor
set_option linter.unusedVariables false
set_option linter.unusedSimpArgs false
open Go.RowKit Go.Lib

/-- The first so many runes. -/
def cutAt (s : ByteArray) (k : Nat) : Nat := match (runesOf s)[k]? with | some p => p | none => s.size
def cutOf (s : ByteArray) (n : Int) : ByteArray := s.extract 0 (cutAt s n.toNat)
theorem cutAt_le (s : ByteArray) (k : Nat) : cutAt s k ≤ s.size := by
  unfold cutAt
  cases h : (runesOf s)[k]? with
  | none => exact Nat.le_refl _
  | some p => exact Nat.le_of_lt (runesOf_lt s p (List.mem_of_getElem? h))
theorem whole (s : ByteArray) : s.extract 0 s.size = s := by
  apply ByteArray.ext
  simp
/-- Runes from a place on: what stands at the k-th is where those ahead of it end. -/
theorem runes_take (s : ByteArray) : ∀ (f pos : Nat), s.size - pos ≤ f → pos ≤ s.size → ∀ k p, (runesFrom s f pos)[k]? = some p → ((runesFrom s f pos).take k).flatMap (rbytes1 s) = (s.data.toList.drop pos).take (p - pos) ∧ pos ≤ p
  | 0, pos, h, hp, k, p, hk => by simp [runesFrom] at hk
  | f + 1, pos, h, hp, k, p, hk => by
    by_cases hps : pos < s.size
    · rw [runesFrom_step s f pos hps] at hk ⊢
      have hw := width_pos s pos
      have hwl := width_le s pos hps
      cases k with
      | zero =>
        simp at hk
        subst hk
        simp
      | succ k =>
        simp only [List.getElem?_cons_succ] at hk
        obtain ⟨h1, h2⟩ := runes_take s f _ (by omega) hwl k p hk
        refine ⟨?_, by omega⟩
        rw [List.take_succ_cons, List.flatMap_cons, h1, rbytes1]
        have e : p - pos = (Utf8.decode s pos).2 + (p - (pos + (Utf8.decode s pos).2)) := by omega
        rw [e, List.take_add, List.drop_drop]
    · rw [runesFrom_end s _ _ hps] at hk
      simp at hk
theorem cut_bytes (s : ByteArray) (k : Nat) : ((runesOf s).take k).flatMap (rbytes1 s) = (cutOf s k).data.toList := by
  unfold cutOf cutAt
  rw [Int.toNat_natCast]
  cases h : (runesOf s)[k]? with
  | none =>
    have hl : (runesOf s).length ≤ k := List.getElem?_eq_none_iff.1 h
    rw [List.take_of_length_le hl]
    unfold runesOf
    rw [runes_all s s.size 0 (by omega), whole]
    simp
  | some p =>
    have h1 := (runes_take s s.size 0 (by omega) (Nat.zero_le _) k p h).1
    have hp := runesOf_lt s p (List.mem_of_getElem? h)
    simp only
    rw [ext_list s 0 p (by omega)]
    exact h1
theorem ref_rbytes (s : ByteArray) (p : Nat) (hp : p < s.size) : (refBytes s p).data.toList = rbytes1 s p := by
  unfold refBytes rbytes1
  have := width_le s p hp
  rw [ext_list s p _ this, Nat.add_sub_cancel_left]
section
variable {W w : World} {I : Nat → Option Obj} {F : List (Nat × Obj)}
set_option maxRecDepth 100000 in
set_option maxHeartbeats 4000000 in
theorem glyph_len (s : ByteArray) (hs : s.size ≤ 1000000000) (h : St W w I F) :
    Calls Tryd.prog 35 #[.string s] w fun e w' => e = .returned (.int .i64 ((runesOf s).length : Nat)) ∧ St W w' I F := by
  obtain ⟨sb, hsb⟩ : ∃ sb, w.heap.size = sb := ⟨_, rfl⟩
  have h1 := h.alloc (.stringIter s 0)
  rw [hsb] at h1
  have hln := runesOf_len s
  obtain ⟨R, hR⟩ : ∃ R, runesOf s = R := ⟨_, rfl⟩
  have hR2 : runesFrom s s.size 0 = R := hR
  rw [hR] at hln ⊢
  have HR := Lib.hid hR2; have H1 := Lib.hid h1
  clear hR hR2 h1 h
  go_enter Tryd.func35, Tryd.ntmps35
  go_wp2_with fail
  go_loopw [3] (fun v wr => ∃ (fuel pos : Nat) (don : List Nat), v = .int .i64 (don.length : Nat) ∧ don ++ runesFrom s fuel pos = R ∧ s.size ≤ pos + fuel ∧ St W wr I ((sb, .stringIter s pos) :: F)) (fun _ wr => s.size - wr.iterPos sb)
  case atStart => exact ⟨s.size, 0, [], rfl, HR.out, by omega, H1.out⟩
  case round =>
    obtain ⟨fuel, pos, don, rfl, hro, hfu, hst⟩ := hrel
    clear H1 HR
    have hiter : wr.heap[sb]? = some (.stringIter s pos) := hst.own (sb, _) (by simp)
    have hdl : don.length ≤ s.size := by
      rw [← hro, List.length_append] at hln
      omega
    by_cases hp : pos < s.size
    · have hnx : ∀ ty, (Instr.next (.pointer (some ⟨sb, 0, none⟩)) true ty).run Tryd.prog wr = _ := fun ty => Lib.run_next_any_at wr sb s pos ty hiter hp
      have hwd := Lib.width_pos s pos
      have h2 := hst.iter (pos + (Utf8.decode s pos).2)
      obtain ⟨g, rfl⟩ : ∃ g, fuel = g + 1 := ⟨fuel - 1, by omega⟩
      rw [runesFrom_step s g pos hp] at hro
      have hro2 : (don ++ [pos]) ++ runesFrom s g (pos + (Utf8.decode s pos).2) = R := by rw [← hro]; simp
      have hh : (wr.iterAt sb s (pos + (Utf8.decode s pos).2)).heap[sb]? = some (.stringIter s (pos + (Utf8.decode s pos).2)) := h2.own (sb, _) (by simp)
      generalize (Utf8.decode s pos).2 = wd at *
      generalize (Utf8.decode s pos).1 = dc at *
      have HRO := Lib.hid hro2; have HI := Lib.hid hiter; have H3 := Lib.hid h2; have HH := Lib.hid hh
      clear hro hro2 h2 hst hiter hh
      go_wp2_with fail
      go_roundw
      case rel => exact ⟨g, pos + wd, don ++ [pos], by simp, HRO.out, by omega, H3.out⟩
      case measure =>
        simp only [World.iterPos, HH.out, HI.out]
        omega
    · have hnx : ∀ ty, (Instr.next (.pointer (some ⟨sb, 0, none⟩)) true ty).run Tryd.prog wr = _ := fun ty => Lib.run_next_end_at wr sb s pos ty hiter hp
      rw [runesFrom_end s _ _ hp, List.append_nil] at hro
      have H3 := Lib.hid (St.weaken (A := [_]) hst); have HRO := Lib.hid hro
      clear hro hst hiter
      go_wp2_with fail
      go_ret
      exact ⟨by rw [← HRO.out]; rfl, H3.out⟩
set_option maxRecDepth 100000 in
set_option maxHeartbeats 4000000 in
theorem glyph_cut (s : ByteArray) (hs : s.size ≤ 1000000000) (n : Int) (hn0 : -9223372036854775808 ≤ n) (hn1 : n ≤ 9223372036854775807) (h : St W w I F) :
    Calls Tryd.prog 34 #[.string s, .int .i64 n] w fun e w' => e = .returned (.string (cutOf s n)) ∧ St W w' I F := by
  obtain ⟨sb, hsb⟩ : ∃ sb, w.heap.size = sb := ⟨_, rfl⟩
  have h1 := h.alloc (.stringIter s 0)
  rw [hsb] at h1
  have hln := runesOf_len s
  have hcu : cutOf s n = s.extract 0 (match (runesOf s)[n.toNat]? with | some p => p | none => s.size) := rfl
  obtain ⟨C, hC⟩ : ∃ C, cutOf s n = C := ⟨_, rfl⟩
  obtain ⟨R, hR⟩ : ∃ R, runesOf s = R := ⟨_, rfl⟩
  have hR2 : runesFrom s s.size 0 = R := hR
  rw [hR] at hln hcu
  rw [hC] at hcu ⊢
  have HR := Lib.hid hR2; have H1 := Lib.hid h1; have HC := Lib.hid hcu
  clear hR hR2 h1 h hcu hC
  go_enter Tryd.func34, Tryd.ntmps34
  go_wp2_with fail
  go_loopw [5] (fun v wr => ∃ (fuel pos : Nat) (don : List Nat), v = .int .i64 (don.length : Nat) ∧ (don = [] ∨ (don.length : Int) ≤ n) ∧ don ++ runesFrom s fuel pos = R ∧ pos ≤ s.size ∧ s.size ≤ pos + fuel ∧ St W wr I ((sb, .stringIter s pos) :: F)) (fun _ wr => s.size - wr.iterPos sb)
  case atStart => exact ⟨s.size, 0, [], rfl, .inl rfl, HR.out, by omega, by omega, H1.out⟩
  case round =>
    obtain ⟨fuel, pos, don, rfl, hdn, hro, hps, hfu, hst⟩ := hrel
    clear H1 HR
    have hiter : wr.heap[sb]? = some (.stringIter s pos) := hst.own (sb, _) (by simp)
    have hdl : don.length ≤ s.size := by
      rw [← hro, List.length_append] at hln
      omega
    by_cases hp : pos < s.size
    · have hnx : ∀ ty, (Instr.next (.pointer (some ⟨sb, 0, none⟩)) true ty).run Tryd.prog wr = _ := fun ty => Lib.run_next_any_at wr sb s pos ty hiter hp
      have hwd := Lib.width_pos s pos
      have hwl := width_le s pos hp
      have h2 := hst.iter (pos + (Utf8.decode s pos).2)
      obtain ⟨g, rfl⟩ : ∃ g, fuel = g + 1 := ⟨fuel - 1, by omega⟩
      rw [runesFrom_step s g pos hp] at hro
      have hro2 : (don ++ [pos]) ++ runesFrom s g (pos + (Utf8.decode s pos).2) = R := by rw [← hro]; simp
      have hat : R[don.length]? = some pos := by rw [← hro]; simp
      have hh : (wr.iterAt sb s (pos + (Utf8.decode s pos).2)).heap[sb]? = some (.stringIter s (pos + (Utf8.decode s pos).2)) := h2.own (sb, _) (by simp)
      generalize (Utf8.decode s pos).2 = wd at *
      generalize (Utf8.decode s pos).1 = dc at *
      by_cases hge : n ≤ (don.length : Int)
      · have hk : n.toNat = don.length := by
          rcases hdn with rfl | hdn
          · simp at hge ⊢
            omega
          · omega
        have hCv : C = s.extract 0 pos := by rw [HC.out, hk, hat]
        have H3 := Lib.hid (St.weaken (A := [_]) h2); have HCV := Lib.hid hCv
        clear hro hro2 h2 hst hiter hh hat hdn hk hCv
        go_wp2_with fail
        go_ret
        exact ⟨by rw [HCV.out]; rfl, H3.out⟩
      · have HRO := Lib.hid hro2; have HI := Lib.hid hiter; have H3 := Lib.hid h2; have HH := Lib.hid hh
        clear hro hro2 h2 hst hiter hh hat
        go_wp2_with fail
        go_roundw
        case rel => exact ⟨g, pos + wd, don ++ [pos], by simp, .inr (by simp; omega), HRO.out, by omega, by omega, H3.out⟩
        case measure =>
          simp only [World.iterPos, HH.out, HI.out]
          omega
    · have hnx : ∀ ty, (Instr.next (.pointer (some ⟨sb, 0, none⟩)) true ty).run Tryd.prog wr = _ := fun ty => Lib.run_next_end_at wr sb s pos ty hiter hp
      rw [runesFrom_end s _ _ hp, List.append_nil] at hro
      have hCv : C = s := by
        rw [HC.out, ← hro]
        have hnone : don[n.toNat]? = none ∨ don = [] := by
          rcases hdn with hd | hd
          · exact .inr hd
          · exact .inl (List.getElem?_eq_none (by omega))
        rcases hnone with hn | hn
        · rw [hn]
          exact whole s
        · subst hn
          simp only [List.getElem?_nil]
          exact whole s
      have H3 := Lib.hid (St.weaken (A := [_]) hst); have HCV := Lib.hid hCv
      clear hro hst hiter hCv hdn
      go_wp2_with fail
      go_ret
      exact ⟨by rw [HCV.out]; rfl, H3.out⟩
set_option maxRecDepth 100000 in
set_option maxHeartbeats 4000000 in
theorem glyph_same (t : TB W I) (tc : TabC W) (a b : ByteArray) (ha : a.size ≤ 1000000000) (hb : b.size ≤ 1000000000) (h : St W w I F) :
    Calls Tryd.prog 46 #[.string a, .string b] w fun e w' => e = .returned (.bool (foldOf a == foldOf b)) ∧ St W w' I F := by
  have k1 := fun (v : World) (hv : St W v I F) => fold_any t tc a (by omega) hv
  have k2 := fun (v : World) (hv : St W v I F) => fold_any t tc b (by omega) hv
  have e1 : (foldOf a == foldOf b) = ((⟨(foldOf a).toArray⟩ : ByteArray).toList == (⟨(foldOf b).toArray⟩ : ByteArray).toList) := by rw [ByteArray.toList_eq, ByteArray.toList_eq]
  rw [e1]
  generalize (⟨(foldOf a).toArray⟩ : ByteArray) = x at *
  generalize (⟨(foldOf b).toArray⟩ : ByteArray) = y at *
  have K1 := Lib.hid k1; have K2 := Lib.hid k2; have H := Lib.hid h
  clear k1 k2 h e1 t tc
  go_enter Tryd.func46, Tryd.ntmps46
  go_wp2_with fail
  refine (K1.out _ H.out).mono ?_
  rintro e w1 ⟨rfl, h1⟩
  have H1 := Lib.hid h1
  clear h1 H
  go_wp2_with fail
  refine (K2.out _ H1.out).mono ?_
  rintro e w2 ⟨rfl, h2⟩
  have H2 := Lib.hid h2
  clear h2 H1
  go_wp2_with fail
  go_ret
  exact ⟨rfl, H2.out⟩
set_option maxRecDepth 100000 in
set_option maxHeartbeats 4000000 in
theorem ref_cut (s : ByteArray) (hm : s.size ≤ 1000000000) (n : Int) (hn0 : -9223372036854775808 ≤ n) (hn1 : n ≤ 9223372036854775807) (hle0 : Le (fun b => W.heap[b]?) I) (h : St W w I F) :
    Calls Tryd.prog 51 #[.string s, .int .i64 n] w fun e w' => e = .returned (.string (cutOf s n)) ∧ St W w' I F := by
  have cR := runes_any s hm h
  have hzl := runesOf_lt s
  have hln := runesOf_len s
  have hcb := cut_bytes s n.toNat
  have hcn : cutOf s (n.toNat : Nat) = cutOf s n := by unfold cutOf; rw [Int.toNat_natCast]
  rw [hcn] at hcb
  obtain ⟨R, hR⟩ : ∃ R : ByteArray, cutOf s n = R := ⟨_, rfl⟩
  rw [hR] at hcb ⊢
  generalize runesOf s = l at *
  have HR := Lib.hid hcb; have CR := Lib.hid cR
  clear hR cR h hcb hcn
  go_enter Tryd.func51, Tryd.ntmps51
  go_wp2_with fail
  refine CR.out.mono ?_
  rintro e w1 ⟨A, c, L', rfl, hrow, h1⟩
  obtain ⟨J, hle, h2, hrin⟩ := runes_freeze hrow h1
  have H2 := Lib.hid h2; have HRIN := Lib.hid hrin; have HLE := Lib.hid hle
  clear hrow h1 h2 CR hrin hle
  go_wp2_with fail
  go_loopw [5, 11] (fun v i wr => ∃ k : Nat, i = .int .i64 k ∧ v = .string ⟨((l.take (min k n.toNat)).flatMap (rbytes1 s)).toArray⟩ ∧ k ≤ l.length ∧ St W wr J F) (fun _ i _ => l.length - (intOf i).toNat)
  case atStart => exact ⟨0, rfl, by simp, by omega, H2.out⟩
  case round =>
    obtain ⟨k, rfl, rfl, hk, hst⟩ := hrel
    clear H2
    by_cases hkl : k < l.length
    · obtain ⟨p, hp⟩ : ∃ p, l[k]? = some p := ⟨_, List.getElem?_eq_getElem hkl⟩
      obtain ⟨b, off, rfl, r0, r1, r2⟩ := HRIN.out k p hp
      have hps := hzl p (List.mem_of_getElem? hp)
      have q0 := hst.ro r0
      have q1 := hst.ro r1
      have q2 := hst.ro r2
      have hrb := ref_rbytes s p hps
      have hrbs : (refBytes s p).size ≤ 1000000000 := by unfold refBytes; rw [ByteArray.size_extract]; omega
      by_cases hkn : (k : Int) < n
      · have hnext : (l.take (min (k + 1) n.toNat)).flatMap (rbytes1 s) = (l.take (min k n.toNat)).flatMap (rbytes1 s) ++ rbytes1 s p := by
          rw [Nat.min_eq_left (by omega), Nat.min_eq_left (by omega), List.take_add_one, hp]
          simp
        have hbl : ((l.take (min k n.toNat)).flatMap (rbytes1 s)).length ≤ 4000000000 := by
          have : ∀ m : List Nat, (m.flatMap (rbytes1 s)).length ≤ 4 * m.length := by
            intro m
            induction m with
            | nil => simp
            | cons x m ih =>
              have h4 : (rbytes1 s x).length ≤ 4 := by
                unfold rbytes1
                rw [List.length_take]
                have h5 : (Utf8.decode s x).2 ≤ 4 := by
                  rw [Lib.decode_at]
                  rcases Lib.decodeN_shape (s.size - x) (s.get! x).toNat (s.get! (x + 1)).toNat (s.get! (x + 2)).toNat (s.get! (x + 3)).toNat with ⟨_, e⟩ | ⟨_, _, _, _, e⟩ | ⟨_, _, _, _, _, _, e⟩ | ⟨_, _, _, _, _, _, _, e⟩ | e
                  all_goals
                    rw [e]
                    omega
                omega
              simp only [List.flatMap_cons, List.length_append, List.length_cons]
              omega
          have h9 := this (l.take (min k n.toNat))
          have h8 : (l.take (min k n.toNat)).length ≤ l.length := by rw [List.length_take]; omega
          omega
        obtain ⟨acc, hacc⟩ : ∃ acc, (l.take (min k n.toNat)).flatMap (rbytes1 s) = acc := ⟨_, rfl⟩
        rw [hacc] at hnext hbl ⊢
        rw [← hrb] at hnext
        generalize refBytes s p = rb at *
        generalize refNumber s p = rn at *
        have HN := Lib.hid hnext; have HST := Lib.hid hst
        have hcat : ¬ (9223372036854775807 < acc.length + rb.size) := by omega
        clear hst hnext r0 r1 r2 hp hacc hzl hrb
        go_wp2_with fail
        refine ⟨⟨k + 1, by go_num, ?_, by omega, St.alloc_ HST.out _⟩, ?_⟩
        · rw [HN.out]
          congr 1
        · (simp [intOf]; omega)
      · have hnext : (l.take (min (k + 1) n.toNat)).flatMap (rbytes1 s) = (l.take (min k n.toNat)).flatMap (rbytes1 s) := by
          rw [Nat.min_eq_right (by omega), Nat.min_eq_right (by omega)]
        obtain ⟨acc, hacc⟩ : ∃ acc, (l.take (min k n.toNat)).flatMap (rbytes1 s) = acc := ⟨_, rfl⟩
        rw [hacc] at hnext ⊢
        have hkd : decide ((k : Int) < n) = false := by simpa using hkn
        generalize refBytes s p = rb at *
        generalize refNumber s p = rn at *
        have HN := Lib.hid hnext; have HST := Lib.hid hst
        clear hst hnext r0 r1 r2 hp hacc hzl hrb
        go_wp2_with fail
        refine ⟨⟨k + 1, by go_num, by rw [HN.out], by omega, St.alloc_ HST.out _⟩, ?_⟩
        simp [intOf]; omega
    · have hfin : (⟨((l.take (min k n.toNat)).flatMap (rbytes1 s)).toArray⟩ : ByteArray) = R := by
        have hkk : k = l.length := by omega
        have e : l.take (min k n.toNat) = l.take n.toNat := by
          by_cases hx : n.toNat ≤ k
          · rw [Nat.min_eq_right hx]
          · rw [Nat.min_eq_left (by omega), List.take_of_length_le (by omega), List.take_of_length_le (by omega)]
        rw [e, HR.out]
      have HFI := Lib.hid hfin; have HST := Lib.hid (hst.less HLE.out)
      clear hst hfin hzl
      obtain ⟨acc, hacc⟩ : ∃ acc, (l.take (min k n.toNat)).flatMap (rbytes1 s) = acc := ⟨_, rfl⟩
      rw [hacc] at HFI ⊢
      clear hacc
      go_wp2_with fail
      go_ret
      exact ⟨by rw [← HFI.out]; rfl, HST.out⟩
end
end Go.Proofs.YtpjfmgifddoppaaDoor
