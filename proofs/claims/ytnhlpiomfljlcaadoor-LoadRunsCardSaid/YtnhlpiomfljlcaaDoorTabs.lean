/- Go's own tables, as the program's text lays them: what the walks read of them. -/
import Derived.Test.YtnhlpiomfljlcaaDoorShelf
import Derived.Test.YtnhlpiomfljlcaaDoorBase
import Derived.Test.YtnhlpiomfljlcaaDoorRows
import Derived.Lib.LaidRTab
import Derived.Lib.LaidCase
import Derived.Lib.LaidU8
import Derived.PinnedBridge
import Derived.Lay
import Derived.LaidByTextLater
namespace Go.Proofs.YtnhlpiomfljlcaaDoor
set_option linter.unusedVariables false
set_option linter.unusedSimpArgs false
open Go.RowKit Go.Shelf Go.Lib

structure Tabs (w : World) : Prop where
  props : Lib.TabIs Tryd.prog w "unicode.properties" .u8 Lib.propertiesTab
  letter : RVar 1 letterT w
  digit : RVar 2 digitT w
  case : CaseVar 3 caseA w
  utf8 : Lib.Utf8Tabs 4 5 w

theorem xR : RExtra Tryd.prog Tryd.lays261_ren := ⟨by kernel_rfl, by kernel_rfl, by kernel_rfl, by kernel_rfl, by kernel_rfl, by kernel_rfl, by kernel_rfl, by kernel_rfl⟩
theorem xC : CaseExtra Tryd.prog Tryd.lays204_ren := ⟨by kernel_rfl, by kernel_rfl, by kernel_rfl, by kernel_rfl, by kernel_rfl, by kernel_rfl⟩
theorem xU : U8Extra Tryd.prog Tryd.lays260_ren := ⟨by kernel_rfl, by kernel_rfl, by kernel_rfl, by kernel_rfl, by kernel_rfl, by kernel_rfl, by kernel_rfl⟩

theorem accept_eq : (Rows.laid_unicode_utf8_acceptRanges : DataW Unit) = acceptData := by kernel_rfl
theorem props_eq : (Rows.laid_unicode_properties : DataW Unit) = tabData .u8 Lib.propertiesTab := by kernel_rfl

theorem letter_eq : Rows.laid_unicode_Letter = rtabData letterT := Pinned.letter_eq
theorem digit_eq : Rows.laid_unicode_Digit = rtabData digitT := Pinned.digit_eq
theorem case_eq : Rows.laid_unicode_CaseRanges = caseData := Pinned.caseRanges_eq
theorem first_eq : Rows.laid_unicode_utf8_first = firstData := Pinned.utf8First_eq

theorem tabIs_of_reads {P : Program} {W : World} {name : String} {k : IntKind} {zs : List Int} {g : Nat} {t e : TypeId} {n : Nat}
    (hg : P.globalNamed name = some g) (hty : (P.globals[g]?).map (·.type) = some t) (ht : P.underlying t = some (.array n e)) (he : P.underlying e = some (.int k)) (hce : P.cellsOf e = 1) (hct : P.cellsOf t = n)
    (h : VarReads P W name (tabData k zs)) : TabIs P W name k zs := by
  obtain ⟨g', t', cs, fuel, p, hg', ht', hvar, hd⟩ := h
  obtain rfl := Option.some.inj (hg.symm.trans hg')
  obtain rfl := Option.some.inj (hty.symm.trans ht')
  unfold TabIs
  rw [hvar, ← cells_of_tab ht he hce hct hd]

theorem tabs_of_laid {l : List (String × DataW Unit)} {w : World} (h : laidMetH Tryd.prog l w) (hp : (l.all fun x => x.2.handleName?.isNone) = true)
    (h1 : ("unicode.properties", Rows.laid_unicode_properties) ∈ l) (h2 : ("unicode.Letter", Rows.laid_unicode_Letter) ∈ l) (h3 : ("unicode.Digit", Rows.laid_unicode_Digit) ∈ l)
    (h4 : ("unicode.CaseRanges", Rows.laid_unicode_CaseRanges) ∈ l) (h5 : ("unicode/utf8.first", Rows.laid_unicode_utf8_first) ∈ l) (h6 : ("unicode/utf8.acceptRanges", Rows.laid_unicode_utf8_acceptRanges) ∈ l) : Tabs w := by
  rw [MakeChecks.laidMetH_plain _ _ _ hp] at h
  exact ⟨tabIs_of_reads (g := 0) (by kernel_rfl) (by kernel_rfl) Tryd.underlying162 Tryd.underlying5 (by kernel_rfl) (by kernel_rfl) (props_eq ▸ Lib.laidMet.reads h h1),
    rvar_of_reads Tryd.lays261 xR (by kernel_rfl) (by kernel_rfl) (letter_eq ▸ Lib.laidMet.reads h h2),
    rvar_of_reads Tryd.lays261 xR (by kernel_rfl) (by kernel_rfl) (digit_eq ▸ Lib.laidMet.reads h h3),
    caseVar_of_reads (ρ := Tryd.lays204_ren) { Tryd.lays204 with } (by kernel_rfl) xC (case_eq ▸ Lib.laidMet.reads h h4),
    utf8Tabs_of_reads Tryd.lays260 xU (first_eq ▸ Lib.laidMet.reads h h5) (accept_eq ▸ Lib.laidMet.reads h h6)⟩

theorem caseVar_below {g : Nat} {T : Array CaseRow} {w w' : World} (h : CaseVar g T w) (hb : Below w.heap.size w w') : CaseVar g T w' := by
  obtain ⟨R, oR, c, h1, h2⟩ := h
  exact ⟨R, oR, c, cell_below hb h1, fun i hi => ⟨cell_below hb (h2 i hi).1, cell_below hb (h2 i hi).2.1, cell_below hb (h2 i hi).2.2.1, cell_below hb (h2 i hi).2.2.2.1, cell_below hb (h2 i hi).2.2.2.2⟩⟩
theorem utf8Tabs_below {g h : Nat} {w w' : World} (H : Lib.Utf8Tabs g h w) (hb : Below w.heap.size w w') : Lib.Utf8Tabs g h w' :=
  ⟨fun c hc => cell_below hb (H.1 c hc), fun i hi => ⟨cell_below hb (H.2 i hi).1, cell_below hb (H.2 i hi).2⟩⟩
theorem Tabs.below {w w' : World} (h : Tabs w) (hb : Below w.heap.size w w') : Tabs w' :=
  ⟨TabIs_below (g := 0) (by kernel_rfl) h.props hb, RVar_below h.letter hb, RVar_below h.digit hb, caseVar_below h.case hb, utf8Tabs_below h.utf8 hb⟩
end Go.Proofs.YtnhlpiomfljlcaaDoor
