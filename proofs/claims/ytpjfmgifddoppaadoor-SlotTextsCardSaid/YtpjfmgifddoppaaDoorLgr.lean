/- GlyphReads: the walk of the law. -/
import Derived.Test.YtpjfmgifddoppaaDoorGlyL
import Derived.Test.YtpjfmgifddoppaaDoorRshow
namespace Go.Proofs.YtpjfmgifddoppaaDoor
set_option linter.unusedVariables false
set_option linter.unusedSimpArgs false
open Go.RowKit Go.Lib

theorem beq_list (a b : ByteArray) : (a.toList == b.toList) = decide (a.data.toList = b.data.toList) := by
  rw [ByteArray.toList_eq, ByteArray.toList_eq]
  by_cases h : a.data.toList = b.data.toList
  · rw [h]; simp
  · rw [decide_eq_false h]
    exact beq_eq_false_iff_ne.2 h
set_option maxRecDepth 100000 in
set_option maxHeartbeats 4000000 in
theorem walk_glyphReads (W : World) (gv : GV W) {H : Type} {enc : TypeId × Value → H} {v0 v1 : Value} (a0 : Arg enc Tryd.prog W 9 v0) (a1 : Arg enc Tryd.prog W 9 v1) :
    Calls Tryd.prog 5 #[v0, v1] W fun e w' => e = .returned (.bool true) ∧ Below W.heap.size W w' := by
  obtain ⟨a, rfl, ha⟩ := a0.text Tryd.underlying9
  obtain ⟨s, rfl, hs⟩ := a1.text Tryd.underlying9
  have t := TB.start gv.tabs
  have ht : roCell (fun b => W.heap[b]?) ⟨13, 15, none⟩ = some (.int .u8 4) := gv.b64
  have h0 := St.start W
  have kA := glyph_alive t ht gv.ev h0
  have kS := fun (x : ByteArray) (hx : x.size ≤ 1000000000) (v : World) (F : List (Nat × Obj)) (hv : St W v (fun b => W.heap[b]?) F) => show_any t ht x hx hv
  have kQ := fun (x : ByteArray) (hx : x.size ≤ 1000000000) (v : World) (F : List (Nat × Obj)) (hv : St W v (fun b => W.heap[b]?) F) => rshow_any t x hx hv
  have kR := fun (x : ByteArray) (hx : x.size ≤ 100000000) (v : World) (F : List (Nat × Obj)) (hv : St W v (fun b => W.heap[b]?) F) => glyph_read t ht gv.ev x hx hv
  have KA := Lib.hid kA; have KS := Lib.hid kS; have KQ := Lib.hid kQ; have KR := Lib.hid kR
  clear kA kS kQ kR t ht gv a0 a1 h0
  go_enter Tryd.func5, Tryd.ntmps5
  go_wp2_with fail
  refine KA.out.mono ?_
  rintro e w1 ⟨rfl, h1⟩
  have H1 := Lib.hid h1
  have HF : Hid (Below W.heap.size W w1) := Lib.hid (h1.below (Le.refl _))
  clear KA h1
  by_cases g1 : 500 < a.size
  · have g1' : (500 : Int) < (a.size : Int) := by omega
    clear g1
    go_wp2_with fail
    go_ret
    exact ⟨rfl, HF.out⟩
  by_cases g2 : 500 < s.size
  · have g1' : ¬ ((500 : Int) < (a.size : Int)) := by omega
    have g2' : (500 : Int) < (s.size : Int) := by omega
    clear g1 g2
    go_wp2_with fail
    go_ret
    exact ⟨rfl, HF.out⟩
  have g1' : ¬ ((500 : Int) < (a.size : Int)) := by omega
  have g2' : ¬ ((500 : Int) < (s.size : Int)) := by omega
  have kS1 := KS.out a (by omega)
  have hsl := showOf_len a
  have hsz : (⟨(showOf a).toArray⟩ : ByteArray).size = (showOf a).length := by simp [ByteArray.size]
  have kR1 := KR.out ⟨(showOf a).toArray⟩ (by rw [hsz]; omega)
  rw [show (⟨(showOf a).toArray⟩ : ByteArray).data.toList = showOf a by simp, readR_show a] at kR1
  have kR2 := KR.out s (by omega)
  have hma : (⟨a.data.toList.toArray⟩ : ByteArray) = a := by
    apply ByteArray.ext
    simp
  have kR1 : ∀ (v : World) (F : List (Nat × Obj)), St W v (fun b => W.heap[b]?) F → Calls Tryd.prog 25 #[.string ⟨(showOf a).toArray⟩] v fun e w' => e = .returned (.tuple #[.string a, .int .i64 0]) ∧ St W w' (fun b => W.heap[b]?) F := fun v F hv => (kR1 v F hv).mono fun e w' ⟨he, hw⟩ => ⟨by rw [he], hw⟩
  have hrs := readR.eq_1 s.data.toList
  obtain ⟨sa, hsa⟩ : ∃ x : ByteArray, (⟨(showOf a).toArray⟩ : ByteArray) = x := ⟨_, rfl⟩
  rw [hsa] at kS1 kR1
  obtain ⟨r, hr⟩ : ∃ r, readR s.data.toList = r := ⟨_, rfl⟩
  rw [hr] at kR2 hrs
  have hcase : (∃ b : ByteArray, r = (b.data.toList, 0) ∧ showOf b = s.data.toList ∧ b.size ≤ 1000000000) ∨ (r = ([], 41) ∧ s.size ≠ 0) := by
    cases hro : readO s.data.toList with
    | none =>
      rw [hro] at hrs
      refine .inr ⟨hrs, fun h0 => ?_⟩
      have hl0 : s.data.toList = [] := List.eq_nil_of_length_eq_zero (by rw [Array.length_toList]; exact h0)
      rw [hl0] at hro
      simp [readO, rdO] at hro
    | some b =>
      rw [hro] at hrs
      simp only at hrs
      by_cases he : showOf ⟨b.toArray⟩ = s.data.toList
      · rw [if_pos he] at hrs
        refine .inl ⟨⟨b.toArray⟩, by rw [hrs], he, ?_⟩
        have h1 := pieces_ge ⟨b.toArray⟩ (runesOf ⟨b.toArray⟩)
        have h2 : (showOf ⟨b.toArray⟩).length = s.size := by rw [he, Array.length_toList]; rfl
        have h3 : ((runesOf ⟨b.toArray⟩).flatMap (rbytes1 ⟨b.toArray⟩)).length ≤ 4 * (runesOf ⟨b.toArray⟩).length := by
          have : ∀ m : List Nat, (m.flatMap (rbytes1 ⟨b.toArray⟩)).length ≤ 4 * m.length := by
            intro m
            induction m with
            | nil => simp
            | cons x m ih =>
              have h4 : (rbytes1 ⟨b.toArray⟩ x).length ≤ 4 := by
                unfold rbytes1
                rw [List.length_take]
                have h5 : (Utf8.decode ⟨b.toArray⟩ x).2 ≤ 4 := by
                  rw [Lib.decode_at]
                  rcases Lib.decodeN_shape ((⟨b.toArray⟩ : ByteArray).size - x) ((⟨b.toArray⟩ : ByteArray).get! x).toNat ((⟨b.toArray⟩ : ByteArray).get! (x + 1)).toNat ((⟨b.toArray⟩ : ByteArray).get! (x + 2)).toNat ((⟨b.toArray⟩ : ByteArray).get! (x + 3)).toNat with ⟨_, e⟩ | ⟨_, _, _, _, e⟩ | ⟨_, _, _, _, _, _, e⟩ | ⟨_, _, _, _, _, _, _, e⟩ | e
                  all_goals
                    rw [e]
                    omega
                omega
              simp only [List.flatMap_cons, List.length_append, List.length_cons]
              omega
          exact this _
        have h6 : (runesOf ⟨b.toArray⟩).flatMap (rbytes1 ⟨b.toArray⟩) = b := by
          unfold runesOf
          rw [runes_all _ _ 0 (by omega)]
          simp
        rw [h6] at h3
        have h7 : (⟨b.toArray⟩ : ByteArray).size = b.length := by simp [ByteArray.size]
        unfold showOf at h2
        omega
      · rw [if_neg he] at hrs
        refine .inr ⟨hrs, fun h0 => ?_⟩
        have hl0 : s.data.toList = [] := List.eq_nil_of_length_eq_zero (by rw [Array.length_toList]; exact h0)
        rw [hl0] at hro
        simp [readO, rdO] at hro
        subst hro
        apply he
        rw [hl0]
        have := showOf_len (⟨([] : List UInt8).toArray⟩ : ByteArray)
        exact List.eq_nil_of_length_eq_zero (by have h2 : (⟨([] : List UInt8).toArray⟩ : ByteArray).size = 0 := rfl; omega)
  have haa : (a.toList == a.toList) = true := beq_self_eq_true _
  have KS1 := Lib.hid kS1; have KR1 := Lib.hid kR1
  clear kS1 kR1 hsa hsz hsl hma g1 g2 hrs hr KS KR
  rcases hcase with ⟨b, rfl, hb, hbs⟩ | ⟨rfl, hs0⟩
  · have hmb : (⟨b.data.toList.toArray⟩ : ByteArray) = b := by
      apply ByteArray.ext
      simp
    have kR2 : ∀ (v : World) (F : List (Nat × Obj)), St W v (fun b => W.heap[b]?) F → Calls Tryd.prog 25 #[.string s] v fun e w' => e = .returned (.tuple #[.string b, .int .i64 0]) ∧ St W w' (fun b => W.heap[b]?) F := fun v F hv => (kR2 v F hv).mono fun e w' ⟨he, hw⟩ => ⟨by rw [he], hw⟩
    have kQ1 := KQ.out b hbs
    have hms : (⟨(showOf b).toArray⟩ : ByteArray) = s := by
      rw [hb]
    rw [hms] at kQ1
    have hss : (s.toList == s.toList) = true := beq_self_eq_true _
    have KR2 := Lib.hid kR2; have KQ1 := Lib.hid kQ1
    clear kR2 kQ1 hms hmb hb hbs KQ
    go_wp2_with fail
    refine (KS1.out _ _ H1.out).mono ?_
    rintro e w2 ⟨rfl, h2⟩
    have H2 := Lib.hid h2
    clear h2 H1 HF
    go_wp2_with fail
    refine (KR1.out _ _ H2.out).mono ?_
    rintro e w3 ⟨rfl, h3⟩
    have H3 := Lib.hid h3
    clear h3 H2
    go_wp2_with fail
    refine (KR2.out _ _ H3.out).mono ?_
    rintro e w4 ⟨rfl, h4⟩
    have H4 := Lib.hid h4
    clear h4 H3
    go_wp2_with fail
    refine (KQ1.out _ _ H4.out).mono ?_
    rintro e w5 ⟨rfl, h5⟩
    have HF : Hid (Below W.heap.size W w5) := Lib.hid (h5.below (Le.refl _))
    clear h5 H4
    go_wp2_with fail
    go_ret
    exact ⟨rfl, HF.out⟩
  · have kR2 : ∀ (v : World) (F : List (Nat × Obj)), St W v (fun b => W.heap[b]?) F → Calls Tryd.prog 25 #[.string s] v fun e w' => e = .returned (.tuple #[.string ⟨#[]⟩, .int .i64 41]) ∧ St W w' (fun b => W.heap[b]?) F := fun v F hv => (kR2 v F hv).mono fun e w' ⟨he, hw⟩ => ⟨by rw [he], hw⟩
    have hne : (!s.toList.isEmpty) = true := by
      rw [← decide_eq_emptyBytes]
      simp
      intro h
      rw [h] at hs0
      simp at hs0
    have KR2 := Lib.hid kR2
    clear kR2 hs0 KQ
    go_wp2_with fail
    refine (KS1.out _ _ H1.out).mono ?_
    rintro e w2 ⟨rfl, h2⟩
    have H2 := Lib.hid h2
    clear h2 H1 HF
    go_wp2_with fail
    refine (KR1.out _ _ H2.out).mono ?_
    rintro e w3 ⟨rfl, h3⟩
    have H3 := Lib.hid h3
    clear h3 H2
    go_wp2_with fail
    refine (KR2.out _ _ H3.out).mono ?_
    rintro e w4 ⟨rfl, h4⟩
    have HF : Hid (Below W.heap.size W w4) := Lib.hid (h4.below (Le.refl _))
    clear h4 H3
    go_wp2_with fail
    go_ret
    exact ⟨rfl, HF.out⟩
end Go.Proofs.YtpjfmgifddoppaaDoor
