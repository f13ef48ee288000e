/- Go's own tables, as the program's text lays them: what the walks read of them. -/
import Derived.Test.YtjcekmmieihllaaDoorShelf
import Derived.Test.YtjcekmmieihllaaDoorBase
import Derived.Test.YtjcekmmieihllaaDoorRows
import Derived.Lib.LaidRTab
import Derived.Lib.LaidU8
import Derived.LaidLaws
import Derived.PinnedBridge
import Derived.Lay
import Derived.LaidByTextLater
namespace Go.Proofs.YtjcekmmieihllaaDoor
set_option linter.unusedVariables false
set_option linter.unusedSimpArgs false
open Go.RowKit Go.Shelf Go.Lib

structure Tabs (w : World) : Prop where
  utf8 : Lib.Utf8Tabs 7 8 w
/-- The tables of letters and digits. -/
structure Tab4 (w : World) : Prop where
  props : Lib.TabIs Tryd.prog w "unicode.properties" .u8 Lib.propertiesTab
  letter : RVar 4 letterT w
  digit : RVar 5 digitT w

theorem xR : RExtra Tryd.prog Tryd.lays261_ren := ⟨by kernel_rfl, by kernel_rfl, by kernel_rfl, by kernel_rfl, by kernel_rfl, by kernel_rfl, by kernel_rfl, by kernel_rfl⟩
theorem xU : U8Extra Tryd.prog Tryd.lays260_ren := ⟨by kernel_rfl, by kernel_rfl, by kernel_rfl, by kernel_rfl, by kernel_rfl, by kernel_rfl, by kernel_rfl⟩

theorem accept_eq : (Rows.laid_unicode_utf8_acceptRanges : DataW Unit) = acceptData := by kernel_rfl
theorem props_eq : (Rows.laid_unicode_properties : DataW Unit) = tabData .u8 Lib.propertiesTab := by kernel_rfl

theorem letter_eq : Rows.laid_unicode_Letter = rtabData letterT := Pinned.letter_eq
theorem digit_eq : Rows.laid_unicode_Digit = rtabData digitT := Pinned.digit_eq
theorem first_eq : Rows.laid_unicode_utf8_first = firstData := Pinned.utf8First_eq

theorem tabIs_of_reads {P : Program} {W : World} {name : String} {k : IntKind} {zs : List Int} {g : Nat} {t e : TypeId} {n : Nat}
    (hg : P.globalNamed name = some g) (hty : (P.globals[g]?).map (·.type) = some t) (ht : P.underlying t = some (.array n e)) (he : P.underlying e = some (.int k)) (hce : P.cellsOf e = 1) (hct : P.cellsOf t = n)
    (h : VarReads P W name (tabData k zs)) : TabIs P W name k zs := by
  obtain ⟨g', t', cs, fuel, p, hg', ht', hvar, hd⟩ := h
  obtain rfl := Option.some.inj (hg.symm.trans hg')
  obtain rfl := Option.some.inj (hty.symm.trans ht')
  unfold TabIs
  rw [hvar, ← cells_of_tab ht he hce hct hd]

theorem tabs_of_laid {l : List (String × DataW Unit)} {w : World} (h : laidMetH Tryd.prog l w) (hp : (l.all fun x => x.2.handleName?.isNone) = true)
    (h5 : ("unicode/utf8.first", Rows.laid_unicode_utf8_first) ∈ l) (h6 : ("unicode/utf8.acceptRanges", Rows.laid_unicode_utf8_acceptRanges) ∈ l) : Tabs w := by
  rw [MakeChecks.laidMetH_plain _ _ _ hp] at h
  exact ⟨utf8Tabs_of_reads Tryd.lays260 xU (first_eq ▸ Lib.laidMet.reads h h5) (accept_eq ▸ Lib.laidMet.reads h h6)⟩
theorem tab4_of_laid {l : List (String × DataW Unit)} {w : World} (h : laidMetH Tryd.prog l w) (hp : (l.all fun x => x.2.handleName?.isNone) = true)
    (h1 : ("unicode.properties", Rows.laid_unicode_properties) ∈ l) (h2 : ("unicode.Letter", Rows.laid_unicode_Letter) ∈ l) (h3 : ("unicode.Digit", Rows.laid_unicode_Digit) ∈ l) : Tab4 w := by
  rw [MakeChecks.laidMetH_plain _ _ _ hp] at h
  exact ⟨tabIs_of_reads (g := 3) (by kernel_rfl) (by kernel_rfl) Tryd.underlying131 Tryd.underlying5 (by kernel_rfl) (by kernel_rfl) (props_eq ▸ Lib.laidMet.reads h h1),
    rvar_of_reads Tryd.lays261 xR (by kernel_rfl) (by kernel_rfl) (letter_eq ▸ Lib.laidMet.reads h h2),
    rvar_of_reads Tryd.lays261 xR (by kernel_rfl) (by kernel_rfl) (digit_eq ▸ Lib.laidMet.reads h h3)⟩

theorem utf8Tabs_below {g h : Nat} {w w' : World} (H : Lib.Utf8Tabs g h w) (hb : Below w.heap.size w w') : Lib.Utf8Tabs g h w' :=
  ⟨fun c hc => cell_below hb (H.1 c hc), fun i hi => ⟨cell_below hb (H.2 i hi).1, cell_below hb (H.2 i hi).2⟩⟩
theorem Tabs.below {w w' : World} (h : Tabs w) (hb : Below w.heap.size w w') : Tabs w' := ⟨utf8Tabs_below h.utf8 hb⟩
theorem Tab4.below {w w' : World} (h : Tab4 w) (hb : Below w.heap.size w w') : Tab4 w' :=
  ⟨TabIs_below (g := 3) (by kernel_rfl) h.props hb, RVar_below h.letter hb, RVar_below h.digit hb⟩

/-- An array of texts that reads as the table holds just those texts. -/
theorem cells_of_strs {H : Type} {enc : TypeId × Value → H} {P : Program} {w : World} {base : Nat} {sp : Nat → Bool} {held : Bool} {fuel : Nat} {t e : TypeId} {n : Nat} {cs : List Value} {zs : List (List UInt8)} {p : List MemPlace}
    (ht : P.underlying t = some (.array n e)) (he : P.underlying e = some .string) (hce : P.cellsOf e = 1) (hct : P.cellsOf t = n)
    (h : DataW.trod enc P w base sp held fuel t cs = some (.agg (zs.map fun z => .lit (.string z)), p)) : cs = zs.map fun z => Value.string ⟨z.toArray⟩ := by
  cases fuel with
  | zero => simp [DataW.trod] at h
  | succ fuel =>
    simp only [DataW.trod, ht, hce, hct, Nat.mul_one] at h
    split at h
    · rename_i hl
      obtain ⟨xs, hm, hx⟩ := Option.map_eq_some_iff.1 h
      have hxs : xs.map (·.1) = zs.map fun z => (DataW.lit (.string z) : DataW H) := by
        have := congrArg Prod.fst hx
        simpa using this
      have hxl : xs.length = n := by simpa using Lib.mapM_length hm
      have hzl : zs.length = n := by
        have := congrArg List.length hxs
        simp at this
        omega
      apply List.ext_getElem?
      intro i
      by_cases hi : i < n
      · obtain ⟨b, hb, hf⟩ := Lib.mapM_at hm i i (by simp [hi])
        obtain ⟨z, hc, rfl, _⟩ := DataW.trod_string he hf
        have h1 : cs[i]? = some (.string z) := by
          have := congrArg (·[0]?) hc
          simpa [List.getElem?_take, List.getElem?_drop] using this
        have h2 : (xs.map (·.1))[i]? = some (DataW.lit (.string z.data.toList) : DataW H) := by simp [hb]
        rw [hxs] at h2
        simp only [List.getElem?_map, Option.map_eq_some_iff, DataW.lit.injEq, Lit.string.injEq] at h2
        obtain ⟨z', hz', rfl⟩ := h2
        simp [h1, hz']
      · rw [List.getElem?_eq_none (by omega), List.getElem?_eq_none (by simp; omega)]
    · cases h
theorem strs_of_reads {P : Program} {W : World} {name : String} {zs : List (List UInt8)} {g : Nat} {t e : TypeId} {n : Nat}
    (hg : P.globalNamed name = some g) (hty : (P.globals[g]?).map (·.type) = some t) (ht : P.underlying t = some (.array n e)) (he : P.underlying e = some .string) (hce : P.cellsOf e = 1) (hct : P.cellsOf t = n)
    (h : VarReads P W name (.agg (zs.map fun z => .lit (.string z)))) (i : Nat) (z : List UInt8) (hz : zs[i]? = some z) : W.cell? ⟨g, i, none⟩ = some (.string ⟨z.toArray⟩) := by
  obtain ⟨g', t', cs, fuel, p, hg', ht', hvar, hd⟩ := h
  obtain rfl := Option.some.inj (hg.symm.trans hg')
  obtain rfl := Option.some.inj (hty.symm.trans ht')
  have hc := cells_of_strs ht he hce hct hd
  rw [World.var?_cell hg hvar i, ← Array.getElem?_toList, hc]
  simp [hz]
theorem iface_of_reads {P : Program} {W : World} {name nm : String} {d : DataW Unit} {g : Nat} {t : TypeId} {ms : Array (String × TypeId)}
    (hg : P.globalNamed name = some g) (hty : (P.globals[g]?).map (·.type) = some t) (ht : P.underlying t = some (.interface ms))
    (h : VarReads P W name (.iface nm d)) : ∃ u v, W.cell? ⟨g, 0, none⟩ = some (.iface u v) := by
  obtain ⟨g', t', cs, fuel, p, hg', ht', hvar, hd⟩ := h
  obtain rfl := Option.some.inj (hg.symm.trans hg')
  obtain rfl := Option.some.inj (hty.symm.trans ht')
  obtain ⟨f1, u, v, hc, _, _⟩ := iface_of_trod ht hd
  refine ⟨u, v, ?_⟩
  rw [World.var?_cell hg hvar 0, ← Array.getElem?_toList, hc]
  rfl
end Go.Proofs.YtjcekmmieihllaaDoor
