/- glyph: the chapter's example; what is laid: walk. -/
import Derived.Test.YtjcekmmieihllaaDoorRdA
import Derived.Lib.TrailingZeros
namespace Go.Proofs.YtjcekmmieihllaaDoor
set_option linter.unusedVariables false
set_option linter.unusedSimpArgs false
open Go.RowKit Go.Lib Go.Shelf

/-- Go's tables for what is shown and read. -/
structure GV (W : World) : Prop where
  tabs : Tabs W
  b64 : W.cell? ⟨14, 15, none⟩ = some (.int .u8 4)
  ev : ErrV W (fun b => W.heap[b]?)
def b64Tab : List Int := Lib.deBruijn64tab.map fun n : Nat => (n : Int)
theorem b64_eq : (Rows.laid_math_bits_deBruijn64tab : DataW Unit) = tabData .u8 b64Tab := by kernel_rfl
theorem gv_of_laid {l : List (String × DataW Unit)} {w : World} (h : laidMetH Tryd.prog l w) (hp : (l.all fun x => x.2.handleName?.isNone) = true)
    (h1 : ("unicode/utf8.first", Rows.laid_unicode_utf8_first) ∈ l) (h2 : ("unicode/utf8.acceptRanges", Rows.laid_unicode_utf8_acceptRanges) ∈ l)
    (h3 : ("math/bits.deBruijn64tab", Rows.laid_math_bits_deBruijn64tab) ∈ l) (h4 : ("strconv.ErrRange", Rows.laid_strconv_ErrRange) ∈ l) (h5 : ("strconv.ErrSyntax", Rows.laid_strconv_ErrSyntax) ∈ l) : GV w := by
  have T := tabs_of_laid h hp h1 h2
  rw [MakeChecks.laidMetH_plain _ _ _ hp] at h
  have p64 : Lib.TabIs Tryd.prog w "math/bits.deBruijn64tab" .u8 b64Tab := tabIs_of_reads (g := 14) (by kernel_rfl) (by kernel_rfl) Tryd.underlying182 Tryd.underlying5 (by kernel_rfl) (by kernel_rfl) (b64_eq ▸ Lib.laidMet.reads h h3)
  refine ⟨T, p64.cell (g := 14) (by kernel_rfl) 15 (by decide), ⟨?_, ?_⟩⟩
  · exact iface_of_reads (g := 10) (by kernel_rfl) (by kernel_rfl) Tryd.underlying108 (Lib.laidMet.reads h h5)
  · exact iface_of_reads (g := 11) (by kernel_rfl) (by kernel_rfl) Tryd.underlying108 (Lib.laidMet.reads h h4)
/-- What is shown reads as it was. -/
theorem readR_show (s : ByteArray) : readR (showOf s) = (s.data.toList, 0) := by
  unfold readR
  rw [read_show]
  have e : (⟨s.data.toList.toArray⟩ : ByteArray) = s := by
    apply ByteArray.ext
    simp
  show (if showOf ⟨s.data.toList.toArray⟩ = showOf s then (s.data.toList, (0 : Int)) else ([], 41)) = (s.data.toList, 0)
  rw [e, if_pos rfl]
end Go.Proofs.YtjcekmmieihllaaDoor
