/- GlyphTells: the walk of the law. -/
import Derived.Test.YtpjfmgifddoppaaDoorLgr
import Derived.Test.YtpjfmgifddoppaaDoorGlyphN
namespace Go.Proofs.YtpjfmgifddoppaaDoor
set_option linter.unusedVariables false
set_option linter.unusedSimpArgs false
open Go.RowKit Go.Lib

/-- All of Go's tables that names want. -/
structure GW (W : World) : Prop where
  gv : GV W
  t4 : Tab4 W
  tc : TabC W
theorem gw_of_laid {l : List (String × DataW Unit)} {w : World} (h : laidMetH Tryd.prog l w) (hp : (l.all fun x => x.2.handleName?.isNone) = true)
    (h1 : ("unicode/utf8.first", Rows.laid_unicode_utf8_first) ∈ l) (h2 : ("unicode/utf8.acceptRanges", Rows.laid_unicode_utf8_acceptRanges) ∈ l)
    (h3 : ("math/bits.deBruijn64tab", Rows.laid_math_bits_deBruijn64tab) ∈ l) (h4 : ("strconv.ErrRange", Rows.laid_strconv_ErrRange) ∈ l) (h5 : ("strconv.ErrSyntax", Rows.laid_strconv_ErrSyntax) ∈ l)
    (h6 : ("unicode.properties", Rows.laid_unicode_properties) ∈ l) (h7 : ("unicode.Letter", Rows.laid_unicode_Letter) ∈ l) (h8 : ("unicode.Digit", Rows.laid_unicode_Digit) ∈ l) (h9 : ("unicode.CaseRanges", Rows.laid_unicode_CaseRanges) ∈ l) : GW w :=
  ⟨gv_of_laid h hp h1 h2 h3 h4 h5, tab4_of_laid h hp h6 h7 h8, tabC_of_laid h hp h9⟩

set_option maxRecDepth 100000 in
set_option maxHeartbeats 4000000 in
theorem walk_glyphTells (W : World) (gw : GW W) {H : Type} {enc : TypeId × Value → H} {v0 v1 v2 : Value} (a0 : Arg enc Tryd.prog W 9 v0) (a1 : Arg enc Tryd.prog W 9 v1) (a2 : Arg enc Tryd.prog W 3 v2) :
    Calls Tryd.prog 13 #[v0, v1, v2] W fun e w' => e = .returned (.bool true) ∧ Below W.heap.size W w' := by
  obtain ⟨a, rfl, ha⟩ := a0.text Tryd.underlying9
  obtain ⟨s, rfl, hs⟩ := a1.text Tryd.underlying9
  obtain ⟨n, rfl, hn⟩ := a2.int Tryd.underlying3
  obtain ⟨n0, n1⟩ := wf_i64 hn
  have t := TB.start gw.gv.tabs
  have ht : roCell (fun b => W.heap[b]?) ⟨13, 15, none⟩ = some (.int .u8 4) := gw.gv.b64
  have h0 := St.start W
  have kA := glyph_alive t ht gw.gv.ev h0
  have KA := Lib.hid kA; have T := Lib.hid t; have HT := Lib.hid ht; have GWW := Lib.hid gw
  clear kA t ht gw a0 a1 a2 h0 hn
  go_enter Tryd.func13, Tryd.ntmps13
  go_wp2_with fail
  refine KA.out.mono ?_
  rintro e w1 ⟨rfl, h1⟩
  have H1 := Lib.hid h1
  have HF : Hid (Below W.heap.size W w1) := Lib.hid (h1.below (Le.refl _))
  clear KA h1
  by_cases g1 : 500 < a.size
  · have g1' : (500 : Int) < (a.size : Int) := by omega
    clear g1
    go_wp2_with fail
    go_ret
    exact ⟨rfl, HF.out⟩
  by_cases g2 : 500 < s.size
  · have g1' : ¬ ((500 : Int) < (a.size : Int)) := by omega
    have g2' : (500 : Int) < (s.size : Int) := by omega
    clear g1 g2
    go_wp2_with fail
    go_ret
    exact ⟨rfl, HF.out⟩
  have g1' : ¬ ((500 : Int) < (a.size : Int)) := by omega
  have g2' : ¬ ((500 : Int) < (s.size : Int)) := by omega
  have kN := fun (v : World) (F : List (Nat × Obj)) (hv : St W v (fun b => W.heap[b]?) F) => name_any T.out GWW.out.t4 a (by omega) hv
  have kN' := fun (v : World) (F : List (Nat × Obj)) (hv : St W v (fun b => W.heap[b]?) F) => rname_any T.out GWW.out.t4 a (by omega) hv
  have kL := fun (v : World) (F : List (Nat × Obj)) (hv : St W v (fun b => W.heap[b]?) F) => glyph_len a (by omega) hv
  have kL' := fun (v : World) (F : List (Nat × Obj)) (hv : St W v (fun b => W.heap[b]?) F) => runes_any a (by omega) hv
  have kF := fun (v : World) (F : List (Nat × Obj)) (hv : St W v (fun b => W.heap[b]?) F) => fold_any T.out GWW.out.tc a (by omega) hv
  have kF' := fun (v : World) (F : List (Nat × Obj)) (hv : St W v (fun b => W.heap[b]?) F) => rfold_any T.out GWW.out.tc a (by omega) hv
  have kG' := fun (v : World) (F : List (Nat × Obj)) (hv : St W v (fun b => W.heap[b]?) F) => rfold_any T.out GWW.out.tc s (by omega) hv
  have kM := fun (v : World) (F : List (Nat × Obj)) (hv : St W v (fun b => W.heap[b]?) F) => glyph_same T.out GWW.out.tc a s (by omega) (by omega) hv
  have kC := fun (v : World) (F : List (Nat × Obj)) (hv : St W v (fun b => W.heap[b]?) F) => glyph_cut a (by omega) n n0 n1 hv
  have kC' := fun (v : World) (F : List (Nat × Obj)) (hv : St W v (fun b => W.heap[b]?) F) => ref_cut a (by omega) n n0 n1 (Le.refl _) hv
  have kS := fun (v : World) (F : List (Nat × Obj)) (hv : St W v (fun b => W.heap[b]?) F) => show_any T.out HT.out a (by omega) hv
  have kS' := fun (v : World) (F : List (Nat × Obj)) (hv : St W v (fun b => W.heap[b]?) F) => rshow_any T.out a (by omega) hv
  have e1 : (foldOf a == foldOf s) = ((⟨(foldOf a).toArray⟩ : ByteArray).toList == (⟨(foldOf s).toArray⟩ : ByteArray).toList) := by rw [ByteArray.toList_eq, ByteArray.toList_eq]
  rw [e1] at kM
  clear e1
  obtain ⟨NM, hNM⟩ : ∃ x, nameOk a = x := ⟨_, rfl⟩
  rw [hNM] at kN kN'
  generalize (⟨(foldOf a).toArray⟩ : ByteArray) = fa at *
  generalize (⟨(foldOf s).toArray⟩ : ByteArray) = fs at *
  generalize (⟨(showOf a).toArray⟩ : ByteArray) = sa at *
  generalize cutOf a n = ca at *
  obtain ⟨nv, hnv⟩ : ∃ x : Int, (if NM = true then (0 : Int) else 41) = x := ⟨_, rfl⟩
  rw [hnv] at kN kN'
  generalize rall a (runesOf a) = RA at kL'
  obtain ⟨L, hL⟩ : ∃ x : Nat, (runesOf a).length = x := ⟨_, rfl⟩
  rw [hL] at kL kL'
  have q1 : (nv == nv) = true := beq_self_eq_true _
  have q2 : ((L : Int) == (L : Int)) = true := beq_self_eq_true _
  have q3 : (fa.toList == fa.toList) = true := beq_self_eq_true _
  have q4 : ((fa.toList == fs.toList) == (fa.toList == fs.toList)) = true := beq_self_eq_true _
  have q5 : (ca.toList == ca.toList) = true := beq_self_eq_true _
  have q6 : (sa.toList == sa.toList) = true := beq_self_eq_true _
  have KN := Lib.hid kN; have KN' := Lib.hid kN'; have KL := Lib.hid kL; have KL' := Lib.hid kL'; have KF := Lib.hid kF; have KF' := Lib.hid kF'; have KG' := Lib.hid kG'
  have KM := Lib.hid kM; have KC := Lib.hid kC; have KC' := Lib.hid kC'; have KS := Lib.hid kS; have KS' := Lib.hid kS'
  clear kN kN' kL kL' kF kF' kG' kM kC kC' kS kS' hnv hL hNM T HT GWW n0 n1 ha hs g1 g2
  go_wp2_with fail
  refine (KN.out _ _ H1.out).mono ?_
  rintro e w2 ⟨rfl, h2⟩
  have H2 := Lib.hid h2
  clear h2 H1 HF
  go_wp2_with fail
  refine (KN'.out _ _ H2.out).mono ?_
  rintro e w3 ⟨rfl, h3⟩
  have H3 := Lib.hid h3
  clear h3 H2
  go_wp2_with fail
  refine (KL.out _ _ H3.out).mono ?_
  rintro e w4 ⟨rfl, h4⟩
  have H4 := Lib.hid h4
  clear h4 H3
  go_wp2_with fail
  refine (KL'.out _ _ H4.out).mono ?_
  rintro e w5 ⟨A, c, L', rfl, hrow, h5⟩
  clear hrow
  have H5 := Lib.hid h5
  clear h5 H4
  go_wp2_with fail
  refine (KF.out _ _ H5.out).mono ?_
  rintro e w6 ⟨rfl, h6⟩
  have H6 := Lib.hid h6
  clear h6 H5
  go_wp2_with fail
  refine (KF'.out _ _ H6.out).mono ?_
  rintro e w7 ⟨rfl, h7⟩
  have H7 := Lib.hid h7
  clear h7 H6
  go_wp2_with fail
  refine (KM.out _ _ H7.out).mono ?_
  rintro e w8 ⟨rfl, h8⟩
  have H8 := Lib.hid h8
  clear h8 H7
  go_wp2_with fail
  refine (KF'.out _ _ H8.out).mono ?_
  rintro e w9 ⟨rfl, h9⟩
  have H9 := Lib.hid h9
  clear h9 H8
  go_wp2_with fail
  refine (KG'.out _ _ H9.out).mono ?_
  rintro e w10 ⟨rfl, h10⟩
  have H10 := Lib.hid h10
  clear h10 H9
  go_wp2_with fail
  refine (KC.out _ _ H10.out).mono ?_
  rintro e w11 ⟨rfl, h11⟩
  have H11 := Lib.hid h11
  clear h11 H10
  go_wp2_with fail
  refine (KC'.out _ _ H11.out).mono ?_
  rintro e w12 ⟨rfl, h12⟩
  have H12 := Lib.hid h12
  clear h12 H11
  go_wp2_with fail
  refine (KS.out _ _ H12.out).mono ?_
  rintro e w13 ⟨rfl, h13⟩
  have H13 := Lib.hid h13
  clear h13 H12
  go_wp2_with fail
  refine (KS'.out _ _ H13.out).mono ?_
  rintro e w14 ⟨rfl, h14⟩
  have HF : Hid (Below W.heap.size W w14) := Lib.hid (h14.below (Le.refl _))
  have H14 := Lib.hid h14
  clear h14 H13
  go_wp2_with fail
  go_ret
  exact ⟨rfl, HF.out⟩
end Go.Proofs.YtpjfmgifddoppaaDoor
