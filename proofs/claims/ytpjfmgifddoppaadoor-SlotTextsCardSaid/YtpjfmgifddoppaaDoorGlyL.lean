/- glyph: the chapter's example; what is laid: walk. -/
import Derived.Test.YtpjfmgifddoppaaDoorGlyF
import Derived.Test.YtpjfmgifddoppaaDoorRdA
import Derived.Lib.TrailingZeros
namespace Go.Proofs.YtpjfmgifddoppaaDoor
set_option linter.unusedVariables false
set_option linter.unusedSimpArgs false
open Go.RowKit Go.Lib Go.Shelf

/-- Go's tables for what is shown and read. -/
structure GV (W : World) : Prop where
  tabs : Tabs W
  b64 : W.cell? ⟨13, 15, none⟩ = some (.int .u8 4)
  ev : ErrV W (fun b => W.heap[b]?)
def b64Tab : List Int := Lib.deBruijn64tab.map fun n : Nat => (n : Int)
theorem b64_eq : (Rows.laid_math_bits_deBruijn64tab : DataW Unit) = tabData .u8 b64Tab := by kernel_rfl
theorem gv_of_laid {l : List (String × DataW Unit)} {w : World} (h : laidMetH Tryd.prog l w) (hp : (l.all fun x => x.2.handleName?.isNone) = true)
    (h1 : ("unicode/utf8.first", Rows.laid_unicode_utf8_first) ∈ l) (h2 : ("unicode/utf8.acceptRanges", Rows.laid_unicode_utf8_acceptRanges) ∈ l)
    (h3 : ("math/bits.deBruijn64tab", Rows.laid_math_bits_deBruijn64tab) ∈ l) (h4 : ("strconv.ErrRange", Rows.laid_strconv_ErrRange) ∈ l) (h5 : ("strconv.ErrSyntax", Rows.laid_strconv_ErrSyntax) ∈ l) : GV w := by
  have T := tabs_of_laid h hp h1 h2
  rw [MakeChecks.laidMetH_plain _ _ _ hp] at h
  have p64 : Lib.TabIs Tryd.prog w "math/bits.deBruijn64tab" .u8 b64Tab := tabIs_of_reads (g := 13) (by kernel_rfl) (by kernel_rfl) Tryd.underlying180 Tryd.underlying5 (by kernel_rfl) (by kernel_rfl) (b64_eq ▸ Lib.laidMet.reads h h3)
  refine ⟨T, p64.cell (g := 13) (by kernel_rfl) 15 (by decide), ⟨?_, ?_⟩⟩
  · exact iface_of_reads (g := 9) (by kernel_rfl) (by kernel_rfl) Tryd.underlying68 (Lib.laidMet.reads h h5)
  · exact iface_of_reads (g := 10) (by kernel_rfl) (by kernel_rfl) Tryd.underlying68 (Lib.laidMet.reads h h4)
theorem hex223 : hexD 223 = [100, 102] := by
  rw [hexD_ge (by decide), hexD_lt (by decide)]
  rfl
def strasse : ByteArray := ⟨#[83, 116, 114, 97, 195, 159, 101]⟩
theorem strasse_runes : runesOf strasse = [0, 1, 2, 3, 4, 6] := by decide +kernel
theorem strasse_show : showOf strasse = [83, 116, 114, 97, 92, 117, 123, 100, 102, 125, 101] := by
  unfold showOf
  rw [strasse_runes]
  have e4 : showPiece strasse 4 = [92, 117, 123, 100, 102, 125] := by
    unfold showPiece
    rw [if_neg (by decide +kernel), if_neg (by decide +kernel), show (Utf8.decode strasse 4).1 = 223 by decide +kernel, hex223]
    rfl
  have e0 : showPiece strasse 0 = [83] := by
    unfold showPiece
    rw [if_neg (by decide +kernel), if_pos (by decide +kernel)]
    decide +kernel
  have e1 : showPiece strasse 1 = [116] := by
    unfold showPiece
    rw [if_neg (by decide +kernel), if_pos (by decide +kernel)]
    decide +kernel
  have e2 : showPiece strasse 2 = [114] := by
    unfold showPiece
    rw [if_neg (by decide +kernel), if_pos (by decide +kernel)]
    decide +kernel
  have e3 : showPiece strasse 3 = [97] := by
    unfold showPiece
    rw [if_neg (by decide +kernel), if_pos (by decide +kernel)]
    decide +kernel
  have e6 : showPiece strasse 6 = [101] := by
    unfold showPiece
    rw [if_neg (by decide +kernel), if_pos (by decide +kernel)]
    decide +kernel
  simp only [List.flatMap_cons, List.flatMap_nil, e0, e1, e2, e3, e4, e6]
  rfl
/-- What is shown reads as it was. -/
theorem readR_show (s : ByteArray) : readR (showOf s) = (s.data.toList, 0) := by
  unfold readR
  rw [read_show]
  have e : (⟨s.data.toList.toArray⟩ : ByteArray) = s := by
    apply ByteArray.ext
    simp
  show (if showOf ⟨s.data.toList.toArray⟩ = showOf s then (s.data.toList, (0 : Int)) else ([], 41)) = (s.data.toList, 0)
  rw [e, if_pos rfl]
theorem strasse_read : readR [83, 116, 114, 97, 92, 117, 123, 100, 102, 125, 101] = (strasse.data.toList, 0) := by
  rw [← strasse_show]
  exact readR_show strasse
section
variable {W w : World} {I : Nat → Option Obj} {F : List (Nat × Obj)}
set_option maxRecDepth 100000 in
set_option maxHeartbeats 4000000 in
theorem glyph_alive (t : TB W I) (ht : roCell I ⟨13, 15, none⟩ = some (.int .u8 4)) (ev : ErrV W I) (h : St W w I F) :
    Calls Tryd.prog 24 #[] w fun e w' => e = .returned (.bool true) ∧ St W w' I F := by
  have kR := glyph_read t ht ev ⟨#[83, 116, 114, 97, 92, 117, 123, 100, 102, 125, 101]⟩ (by decide) h
  rw [show (⟨#[83, 116, 114, 97, 92, 117, 123, 100, 102, 125, 101]⟩ : ByteArray).data.toList = [83, 116, 114, 97, 92, 117, 123, 100, 102, 125, 101] from rfl, strasse_read] at kR
  have kL := fun (v : World) (F : List (Nat × Obj)) (hv : St W v I F) => glyph_len strasse (by decide) hv
  rw [strasse_runes] at kL
  have kS := fun (v : World) (F : List (Nat × Obj)) (hv : St W v I F) => show_any t ht strasse (by decide) hv
  rw [strasse_show] at kS
  unfold strasse at kR kL kS
  have KR := Lib.hid kR; have KL := Lib.hid kL; have KS := Lib.hid kS
  clear kR kL kS h t ht ev
  go_enter Tryd.func24, Tryd.ntmps24
  go_wp2_with fail
  refine KR.out.mono ?_
  rintro e w1 ⟨rfl, h1⟩
  have H1 := Lib.hid h1
  clear h1 KR
  go_wp2_with fail
  refine (KL.out _ _ H1.out).mono ?_
  rintro e w2 ⟨rfl, h2⟩
  have H2 := Lib.hid h2
  clear h2 H1 KL
  go_wp2_with fail
  refine (KS.out _ _ H2.out).mono ?_
  rintro e w3 ⟨rfl, h3⟩
  have H3 := Lib.hid h3
  clear h3 H2 KS
  go_wp2_with fail
  go_ret
  exact ⟨rfl, H3.out⟩
end
/-- A text as an argument. -/
theorem Arg.text {H : Type} {enc : TypeId × Value → H} {P : Program} {W : World} {t : TypeId} {v : Value} (ht : P.underlying t = some .string) (h : Arg enc P W t v) : ∃ s : ByteArray, v = .string s ∧ s.size ≤ 9223372036854775807 := by
  obtain ⟨s, rfl, hs⟩ := h.string ht
  exact ⟨s, rfl, by unfold maxLen at hs; omega⟩
end Go.Proofs.YtpjfmgifddoppaaDoor
