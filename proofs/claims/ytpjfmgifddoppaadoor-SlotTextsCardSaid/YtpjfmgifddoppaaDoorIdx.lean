/- slot: Name, Index; the document's Index: walks. -/
import Derived.Test.YtpjfmgifddoppaaDoorSlX
import Derived.Test.YtpjfmgifddoppaaDoorLgt
namespace Go.Proofs.YtpjfmgifddoppaaDoor
set_option linter.unusedVariables false
set_option linter.unusedSimpArgs false
open Go.RowKit Go.Lib

/-- Go's tables for slots and their names. -/
structure NV (W : World) : Prop where
  sv : SV0 W
  tabs : Tabs W
  tc : TabC W
  n0 : roCell (fun b => W.heap[b]?) ⟨1, 0, none⟩ = some (.string ⟨#[97]⟩)
  n1 : roCell (fun b => W.heap[b]?) ⟨1, 1, none⟩ = some (.string ⟨#[98]⟩)
def namesL : List (List UInt8) := [[97], [98]]
theorem names_eq : (Rows.laid_bootjack_slot_names : DataW Unit) = .agg (namesL.map fun z => .lit (.string z)) := by rfl
theorem nv_of_laid {l : List (String × DataW Unit)} {w : World} (h : laidMetH Tryd.prog l w) (hp : (l.all fun x => x.2.handleName?.isNone) = true)
    (h1 : ("internal/strconv.uint64pow10", Rows.laid_internal_strconv_uint64pow10) ∈ l) (h2 : ("strconv.ErrRange", Rows.laid_strconv_ErrRange) ∈ l) (h3 : ("strconv.ErrSyntax", Rows.laid_strconv_ErrSyntax) ∈ l)
    (h4 : ("bootjack/slot.words", Rows.laid_bootjack_slot_words) ∈ l) (h5 : ("bootjack/slot.names", Rows.laid_bootjack_slot_names) ∈ l)
    (h6 : ("unicode/utf8.first", Rows.laid_unicode_utf8_first) ∈ l) (h7 : ("unicode/utf8.acceptRanges", Rows.laid_unicode_utf8_acceptRanges) ∈ l) (h8 : ("unicode.CaseRanges", Rows.laid_unicode_CaseRanges) ∈ l) : NV w := by
  have S := sv_of_laid h hp h1 h2 h3 h4
  have T := tabs_of_laid h hp h6 h7
  have C := tabC_of_laid h hp h8
  rw [MakeChecks.laidMetH_plain _ _ _ hp] at h
  have hn : ∀ i z, namesL[i]? = some z → w.cell? ⟨1, i, none⟩ = some (.string ⟨z.toArray⟩) := fun i z hz =>
    strs_of_reads (g := 1) (by kernel_rfl) (by kernel_rfl) Tryd.underlying101 Tryd.underlying9 (by kernel_rfl) (by kernel_rfl) (names_eq ▸ Lib.laidMet.reads h h5) i z hz
  exact ⟨S, T, C, hn 0 _ rfl, hn 1 _ rfl⟩
/-- Where a name stands. -/
def idxOf (s : ByteArray) : Int := if foldOf s = [97] then 0 else if foldOf s = [98] then 1 else -1
theorem fold_a : foldOf ⟨#[97]⟩ = [97] := by decide +kernel
theorem fold_b : foldOf ⟨#[98]⟩ = [98] := by decide +kernel
theorem beq_one (s : List UInt8) (c : UInt8) : ((⟨s.toArray⟩ : ByteArray).toList == [c]) = decide (s = [c]) := by
  rw [ByteArray.toList_eq]
  by_cases h : s = [c]
  · subst h; simp
  · rw [decide_eq_false h]
    exact beq_eq_false_iff_ne.2 (by simpa using h)
section
variable {W w : World} {I : Nat → Option Obj} {F : List (Nat × Obj)}
set_option maxRecDepth 100000 in
set_option maxHeartbeats 4000000 in
theorem ref_index (t : TB W I) (tc : TabC W) (s : ByteArray) (hs : s.size ≤ 1000000000) (h : St W w I F) :
    Calls Tryd.prog 43 #[.string s] w fun e w' => e = .returned (.int .i64 (idxOf s)) ∧ St W w' I F := by
  have kF := fun (v : World) (hv : St W v I F) => rfold_any t tc s (by omega) hv
  have q1 := beq_one (foldOf s) 97
  have q2 := beq_one (foldOf s) 98
  have hi := idxOf.eq_1 s
  obtain ⟨z, hz⟩ : ∃ z, idxOf s = z := ⟨_, rfl⟩
  rw [hz] at hi ⊢
  generalize (⟨(foldOf s).toArray⟩ : ByteArray) = x at *
  have KF := Lib.hid kF; have H0 := Lib.hid h; have HI := Lib.hid hi
  clear kF h t tc hz hi
  by_cases c1 : foldOf s = [97]
  · have hz : z = 0 := by rw [HI.out, if_pos c1]
    have q1' : (x.toList == [97]) = true := by rw [q1, decide_eq_true c1]
    subst hz
    clear q1 q2 c1
    go_enter Tryd.func43, Tryd.ntmps43
    go_wp2_with fail
    refine (KF.out _ H0.out).mono ?_
    rintro e w1 ⟨rfl, h1⟩
    have H1 := Lib.hid h1
    clear h1
    go_wp2_with fail
    go_ret
    exact ⟨rfl, H1.out⟩
  · by_cases c2 : foldOf s = [98]
    · have hz : z = 1 := by rw [HI.out, if_neg c1, if_pos c2]
      have q1' : (x.toList == [97]) = false := by rw [q1, decide_eq_false c1]
      have q2' : (x.toList == [98]) = true := by rw [q2, decide_eq_true c2]
      subst hz
      clear q1 q2 c1 c2
      go_enter Tryd.func43, Tryd.ntmps43
      go_wp2_with fail
      refine (KF.out _ H0.out).mono ?_
      rintro e w1 ⟨rfl, h1⟩
      have H1 := Lib.hid h1
      clear h1
      go_wp2_with fail
      refine (KF.out _ H1.out).mono ?_
      rintro e w2 ⟨rfl, h2⟩
      have H2 := Lib.hid h2
      clear h2
      go_wp2_with fail
      go_ret
      exact ⟨rfl, H2.out⟩
    · have hz : z = -1 := by rw [HI.out, if_neg c1, if_neg c2]
      have q1' : (x.toList == [97]) = false := by rw [q1, decide_eq_false c1]
      have q2' : (x.toList == [98]) = false := by rw [q2, decide_eq_false c2]
      subst hz
      clear q1 q2 c1 c2
      go_enter Tryd.func43, Tryd.ntmps43
      go_wp2_with fail
      refine (KF.out _ H0.out).mono ?_
      rintro e w1 ⟨rfl, h1⟩
      have H1 := Lib.hid h1
      clear h1
      go_wp2_with fail
      refine (KF.out _ H1.out).mono ?_
      rintro e w2 ⟨rfl, h2⟩
      have H2 := Lib.hid h2
      clear h2
      go_wp2_with fail
      go_ret
      exact ⟨rfl, H2.out⟩
set_option maxRecDepth 100000 in
set_option maxHeartbeats 4000000 in
/-- The closure: is a name the one that is sought? -/
theorem slot_index_in (t : TB W I) (tc : TabC W) (x s : ByteArray) (hx : x.size ≤ 1000000000) (hs : s.size ≤ 1000000000) (b : Nat) (h : St W w I ((b, .cells #[.string s] 9 (0, 0)) :: F)) :
    Calls Tryd.prog 79 #[.string x, .pointer (some ⟨b, 0, none⟩)] w fun e w' => e = .returned (.bool (foldOf x == foldOf s)) ∧ St W w' I ((b, .cells #[.string s] 9 (0, 0)) :: F) := by
  have kM := glyph_same t tc x s hx hs h
  have hc : w.cell? ⟨b, 0, none⟩ = some (.string s) := h.cell (g := b) (cs := #[.string s]) (t := 9) (fr := (0, 0)) (by simp) 0
  have KM := Lib.hid kM
  clear kM t tc h
  generalize (foldOf x == foldOf s) = z at *
  go_enter Tryd.func79, Tryd.ntmps79
  go_wp2_with fail
  refine KM.out.mono ?_
  rintro e w1 ⟨rfl, h1⟩
  have H1 := Lib.hid h1
  clear h1 KM
  go_wp2_with fail
  go_ret
  exact ⟨rfl, H1.out⟩
set_option maxRecDepth 100000 in
set_option maxHeartbeats 4000000 in
theorem slot_indexFunc (t : TB W I) (tc : TabC W) (n0 : roCell I ⟨1, 0, none⟩ = some (.string ⟨#[97]⟩)) (n1 : roCell I ⟨1, 1, none⟩ = some (.string ⟨#[98]⟩)) (s : ByteArray) (hs : s.size ≤ 1000000000) (b : Nat) (h : St W w I ((b, .cells #[.string s] 9 (0, 0)) :: F)) :
    Calls Tryd.prog 78 #[.slice (some ⟨1, 0, none⟩) 2 2, .func (.func 79) #[] #[.pointer (some ⟨b, 0, none⟩)]] w fun e w' => e = .returned (.int .i64 (idxOf s)) ∧ St W w' I ((b, .cells #[.string s] 9 (0, 0)) :: F) := by
  have kA := fun (v : World) (hv : St W v I ((b, .cells #[.string s] 9 (0, 0)) :: F)) => slot_index_in t tc ⟨#[97]⟩ s (by decide) hs b hv
  have kB := fun (v : World) (hv : St W v I ((b, .cells #[.string s] 9 (0, 0)) :: F)) => slot_index_in t tc ⟨#[98]⟩ s (by decide) hs b hv
  rw [fold_a] at kA
  rw [fold_b] at kB
  have hi := idxOf.eq_1 s
  obtain ⟨z, hz⟩ : ∃ z, idxOf s = z := ⟨_, rfl⟩
  rw [hz] at hi ⊢
  have KA := Lib.hid kA; have KB := Lib.hid kB; have H0 := Lib.hid h; have HI := Lib.hid hi; have N0 := Lib.hid n0; have N1 := Lib.hid n1
  clear kA kB h hi hz t tc n0 n1
  obtain ⟨fs, hfs⟩ : ∃ x, foldOf s = x := ⟨_, rfl⟩
  rw [hfs] at KA KB HI
  go_enter Tryd.func78, Tryd.ntmps78
  go_wp2_with fail
  go_loopw [8] (fun v wr => ∃ k : Nat, v = .int .i64 (k : Int) ∧ k ≤ 2 ∧ (0 < k → ¬ fs = [97]) ∧ (1 < k → ¬ fs = [98]) ∧ St W wr I ((b, .cells #[.string s] 9 (0, 0)) :: F)) (fun v _ => 2 - (intOf v).toNat)
  case atStart => exact ⟨0, rfl, by omega, by omega, by omega, H0.out⟩
  case round =>
    obtain ⟨k, rfl, hk, ha, hb, hst⟩ := hrel
    clear H0
    have hc0 : wr.cell? ⟨1, 0, none⟩ = some (.string ⟨#[97]⟩) := hst.ro N0.out
    have hc1 : wr.cell? ⟨1, 1, none⟩ = some (.string ⟨#[98]⟩) := hst.ro N1.out
    rcases (by omega : k = 0 ∨ k = 1 ∨ k = 2) with rfl | rfl | rfl
    · have H1 := Lib.hid hst
      clear hst
      by_cases c1 : fs = [97]
      · have hq : ([97] == fs) = true := by rw [c1]; rfl
        have kA := KA.out
        rw [hq] at kA
        have KA2 := Lib.hid kA
        have hz0 : z = 0 := by rw [HI.out, if_pos c1]
        subst hz0
        clear kA hq c1 ha hb
        go_wp2_with fail
        refine (KA2.out _ H1.out).mono ?_
        rintro e w1 ⟨rfl, h1⟩
        have H2 := Lib.hid h1
        clear h1
        go_wp2_with fail
        go_ret
        exact ⟨rfl, H2.out⟩
      · have hq : ([97] == fs) = false := beq_eq_false_iff_ne.2 fun h => c1 h.symm
        have kA := KA.out
        rw [hq] at kA
        have KA2 := Lib.hid kA
        clear kA hq ha hb
        go_wp2_with fail
        refine (KA2.out _ H1.out).mono ?_
        rintro e w1 ⟨rfl, h1⟩
        have H2 := Lib.hid h1
        clear h1
        go_wp2_with fail
        go_roundw
        case rel => exact ⟨1, rfl, by omega, fun _ => c1, by omega, H2.out⟩
        case measure => simp [intOf]
    · have H1 := Lib.hid hst
      have ha := ha (by omega)
      clear hst
      by_cases c1 : fs = [98]
      · have hq : ([98] == fs) = true := by rw [c1]; rfl
        have kA := KB.out
        rw [hq] at kA
        have KA2 := Lib.hid kA
        have hz0 : z = 1 := by rw [HI.out, if_neg ha, if_pos c1]
        subst hz0
        clear kA hq c1 ha hb
        go_wp2_with fail
        refine (KA2.out _ H1.out).mono ?_
        rintro e w1 ⟨rfl, h1⟩
        have H2 := Lib.hid h1
        clear h1
        go_wp2_with fail
        go_ret
        exact ⟨rfl, H2.out⟩
      · have hq : ([98] == fs) = false := beq_eq_false_iff_ne.2 fun h => c1 h.symm
        have kA := KB.out
        rw [hq] at kA
        have KA2 := Lib.hid kA
        clear kA hq hb
        go_wp2_with fail
        refine (KA2.out _ H1.out).mono ?_
        rintro e w1 ⟨rfl, h1⟩
        have H2 := Lib.hid h1
        clear h1
        go_wp2_with fail
        go_roundw
        case rel => exact ⟨2, rfl, by omega, fun _ => ha, fun _ => c1, H2.out⟩
        case measure => simp [intOf]
    · have H1 := Lib.hid hst
      have hz0 : z = -1 := by rw [HI.out, if_neg (ha (by omega)), if_neg (hb (by omega))]
      subst hz0
      clear hst ha hb
      go_wp2_with fail
      go_ret
      exact ⟨rfl, H1.out⟩
set_option maxRecDepth 100000 in
set_option maxHeartbeats 4000000 in
theorem slot_index (t : TB W I) (tc : TabC W) (n0 : roCell I ⟨1, 0, none⟩ = some (.string ⟨#[97]⟩)) (n1 : roCell I ⟨1, 1, none⟩ = some (.string ⟨#[98]⟩)) (s : ByteArray) (hs : s.size ≤ 1000000000) (h : St W w I F) :
    Calls Tryd.prog 42 #[.string s] w fun e w' => e = .returned (.int .i64 (idxOf s)) ∧ St W w' I F := by
  obtain ⟨b, hb⟩ : ∃ b, w.heap.size = b := ⟨_, rfl⟩
  have h1 := h.alloc (.cells #[.string s] 9)
  rw [hb] at h1
  have kI := fun (v : World) (hv : St W v I ((b, .cells #[.string s] 9 (0, 0)) :: F)) => slot_indexFunc t tc n0 n1 s hs b hv
  generalize idxOf s = z at *
  have KI := Lib.hid kI; have H1 := Lib.hid h1
  clear kI h1 h t tc n0 n1
  go_enter Tryd.func42, Tryd.ntmps42
  go_wp2_with fail
  refine (KI.out _ H1.out).mono ?_
  rintro e w1 ⟨rfl, h2⟩
  have H2 := Lib.hid (St.weaken (A := [_]) h2)
  clear h2 H1
  go_wp2_with fail
  go_ret
  exact ⟨rfl, H2.out⟩
def nameOf (i : Int) : List UInt8 := if i = 0 then [97] else if i = 1 then [98] else []
set_option maxRecDepth 100000 in
set_option maxHeartbeats 4000000 in
theorem slot_name (n0 : roCell I ⟨1, 0, none⟩ = some (.string ⟨#[97]⟩)) (n1 : roCell I ⟨1, 1, none⟩ = some (.string ⟨#[98]⟩)) (i : Int) (h : St W w I F) :
    Calls Tryd.prog 44 #[.int .i64 i] w fun e w' => e = .returned (.string ⟨(nameOf i).toArray⟩) ∧ St W w' I F := by
  have hc0 : w.cell? ⟨1, 0, none⟩ = some (.string ⟨#[97]⟩) := h.ro n0
  have hc1 : w.cell? ⟨1, 1, none⟩ = some (.string ⟨#[98]⟩) := h.ro n1
  have H0 := Lib.hid h
  clear h n0 n1
  by_cases c0 : i < 0
  · have hn : nameOf i = [] := by unfold nameOf; rw [if_neg (by omega), if_neg (by omega)]
    rw [hn]
    clear hn
    go_enter Tryd.func44, Tryd.ntmps44
    go_wp2_with fail
    go_ret
    exact ⟨rfl, H0.out⟩
  by_cases c1 : (2 : Int) ≤ i
  · have hn : nameOf i = [] := by unfold nameOf; rw [if_neg (by omega), if_neg (by omega)]
    rw [hn]
    clear hn
    go_enter Tryd.func44, Tryd.ntmps44
    go_wp2_with fail
    go_ret
    exact ⟨rfl, H0.out⟩
  rcases (by omega : i = 0 ∨ i = 1) with rfl | rfl
  · clear c0 c1
    go_enter Tryd.func44, Tryd.ntmps44
    go_wp2_with fail
    go_ret
    exact ⟨rfl, H0.out⟩
  · clear c0 c1
    go_enter Tryd.func44, Tryd.ntmps44
    go_wp2_with fail
    go_ret
    exact ⟨rfl, H0.out⟩
end
end Go.Proofs.YtpjfmgifddoppaaDoor
