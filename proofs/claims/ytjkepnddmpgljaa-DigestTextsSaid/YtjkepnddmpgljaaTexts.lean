/- DigestTexts: the walk of the law. -/
import Derived.Test.YtjkepnddmpgljaaDigAlive
import Derived.Test.YtjkepnddmpgljaaRText
import Derived.Test.YtjkepnddmpgljaaParse
import Derived.Outline
namespace Go.Proofs.Ytjkepnddmpgljaa
set_option linter.unusedVariables false
set_option linter.unusedSimpArgs false
open Go.RowKit

theorem textOf_get : ∀ (xs : List UInt8) (i : Nat), i < xs.length → (textOf xs).getD (2 * i) 0 = hexd ((xs.getD i 0).toNat / 16) ∧ (textOf xs).getD (2 * i + 1) 0 = hexd ((xs.getD i 0).toNat % 16)
  | [], i, h => by simp at h
  | b :: l, 0, _ => by simp [textOf]
  | b :: l, i + 1, h => by
    have ih := textOf_get l i (by simpa using h)
    have e : textOf (b :: l) = hexd (b.toNat / 16) :: hexd (b.toNat % 16) :: textOf l := by simp [textOf]
    rw [e, show 2 * (i + 1) = 2 * i + 1 + 1 by omega, show 2 * i + 1 + 1 + 1 = 2 * i + 1 + 1 + 1 from rfl]
    simpa using ih
theorem pgood_text (xs : List UInt8) (h : xs.length = 32) : pgood (textOf xs) = true := by
  rw [pgood_iff, textOf_len, h]
  refine ⟨rfl, fun i hi => ?_⟩
  obtain ⟨h1, h2⟩ := textOf_get xs i (by omega)
  have hb := (xs.getD i 0).toNat_lt
  unfold pdig
  rw [h1, h2, dig_hexd _ (by omega), dig_hexd _ (by omega)]
  omega
theorem pOut_text (xs : List UInt8) (h : xs.length = 32) : pOut (textOf xs) = xs := by
  rw [pOut, if_pos (pgood_text xs h)]
  apply List.ext_getElem
  · simp [pbytes, h]
  · intro i h1 h2
    obtain ⟨h3, h4⟩ := textOf_get xs i h2
    have hb := (xs.getD i 0).toNat_lt
    have e : pbyte (textOf xs) i = xs.getD i 0 := by
      unfold pbyte
      rw [h3, h4, dig_hexd _ (by omega), dig_hexd _ (by omega)]
      apply UInt8.toNat_inj.1
      rw [UInt8.toNat_ofNat']
      omega
    simp only [pbytes, List.getElem_map, List.getElem_range, e]
    rw [List.getD_eq_getElem?_getD, List.getElem?_eq_getElem h2]
    rfl
theorem text_pOut (l : List UInt8) (h : pgood l = true) : textOf (pOut l) = l := by
  obtain ⟨h1, h2⟩ := (pgood_iff l).1 h
  rw [pOut, if_pos h]
  have hlen : (pbytes l 32).length = 32 := by simp [pbytes]
  apply List.ext_getElem
  · rw [textOf_len, hlen, h1]
  · intro j h3 h4
    have hj : j / 2 < 32 := by omega
    obtain ⟨e1, e2⟩ := textOf_get (pbytes l 32) (j / 2) (by omega)
    obtain ⟨p1, p2⟩ := h2 (j / 2) hj
    obtain ⟨a1, a2, a3⟩ := dig_facts (l.getD (2 * (j / 2)) 0)
    obtain ⟨b1, b2, b3⟩ := dig_facts (l.getD (2 * (j / 2) + 1) 0)
    have ep : (pbytes l 32).getD (j / 2) 0 = pbyte l (j / 2) := by
      rw [List.getD_eq_getElem?_getD, List.getElem?_eq_getElem (by omega)]
      simp [pbytes]
    rw [ep] at e1 e2
    have ev : (pbyte l (j / 2)).toNat = (16 * dig (l.getD (2 * (j / 2)) 0) + dig (l.getD (2 * (j / 2) + 1) 0)).toNat := by
      unfold pbyte
      rw [UInt8.toNat_ofNat']
      omega
    rw [ev] at e1 e2
    rw [show (16 * dig (l.getD (2 * (j / 2)) 0) + dig (l.getD (2 * (j / 2) + 1) 0)).toNat / 16 = (dig (l.getD (2 * (j / 2)) 0)).toNat by omega, a3 p1] at e1
    rw [show (16 * dig (l.getD (2 * (j / 2)) 0) + dig (l.getD (2 * (j / 2) + 1) 0)).toNat % 16 = (dig (l.getD (2 * (j / 2) + 1) 0)).toNat by omega, b3 p2] at e2
    rcases (show j = 2 * (j / 2) ∨ j = 2 * (j / 2) + 1 by omega) with h5 | h5
    · rw [← h5] at e1
      rw [List.getD_eq_getElem?_getD, List.getElem?_eq_getElem h3, List.getD_eq_getElem?_getD, List.getElem?_eq_getElem h4] at e1
      exact e1
    · rw [← h5] at e2
      rw [List.getD_eq_getElem?_getD, List.getElem?_eq_getElem h3, List.getD_eq_getElem?_getD, List.getElem?_eq_getElem h4] at e2
      exact e2
theorem text_zeros (l : List UInt8) (h : pgood l = false) : textOf zeros32 ≠ l := by
  intro e
  have := pgood_text zeros32 rfl
  rw [e, h] at this
  cases this

set_option maxRecDepth 100000 in
set_option maxHeartbeats 2000000 in
theorem walk_digestTexts (W : World) {H : Type} {enc : TypeId × Value → H} {v0 v1 : Value} (a0 : Arg enc Try.prog W 26 v0) (a1 : Arg enc Try.prog W 9 v1) :
    Calls Try.prog 6 #[v0, v1] W fun e w' => e = .returned (.bool true) ∧ Below W.heap.size W w' := by
  obtain ⟨xs, hxl, rfl⟩ := a0.hash
  obtain ⟨s, rfl, hs⟩ := a1.string Try.underlying9
  unfold maxLen at hs
  have hl200 : s.data.toList.length = s.size := by simp
  have z0 : (bcells xs).size = 32 := by rw [bcells_size]; exact hxl
  have z2 : (bcells (pOut s.data.toList)).size = 32 := by rw [bcells_size]; exact pOut_len _
  have o0 : (bcells xs).all (·.oneCell') = true := bcells_one _
  have o2 : (bcells (pOut s.data.toList)).all (·.oneCell') = true := bcells_one _
  have k1 := fun w F (h : St W w (fun b => W.heap[b]?) F) => text_any xs hxl h
  have k2 := fun w F (h : St W w (fun b => W.heap[b]?) F) => rtext_any xs hxl h
  have k3 : ∀ w F, St W w (fun b => W.heap[b]?) F → Calls Try.prog 19 #[.string ⟨(textOf xs).toArray⟩] w fun e w' => e = .returned (.tuple #[.agg (bcells xs), .bool true]) ∧ St W w' (fun b => W.heap[b]?) F := fun w F h => by
    have h2 := parse_any ⟨(textOf xs).toArray⟩ (by simp [ByteArray.size, textOf_len, hxl]) h
    unfold ParsePost at h2
    simpa [pOut_text xs hxl, pgood_text xs hxl] using h2
  have k4 : ∀ w F, St W w (fun b => W.heap[b]?) F → Calls Try.prog 19 #[.string s] w fun e w' => e = .returned (.tuple #[.agg (bcells (pOut s.data.toList)), .bool (pgood s.data.toList)]) ∧ St W w' (fun b => W.heap[b]?) F := fun w F h => parse_any s hs h
  have k5 := fun w F (h : St W w (fun b => W.heap[b]?) F) => rtext_any (pOut s.data.toList) (pOut_len _) h
  have eq1 := eq_bcells xs xs hxl hxl
  rw [beq_self_eq_true] at eq1
  have eqz : pgood s.data.toList = false → ∀ w, (Op.equalIn 10000 26 (.agg (bcells (pOut s.data.toList))) (.agg #[.int .u8 0, .int .u8 0, .int .u8 0, .int .u8 0, .int .u8 0, .int .u8 0, .int .u8 0, .int .u8 0, .int .u8 0, .int .u8 0, .int .u8 0, .int .u8 0, .int .u8 0, .int .u8 0, .int .u8 0, .int .u8 0, .int .u8 0, .int .u8 0, .int .u8 0, .int .u8 0, .int .u8 0, .int .u8 0, .int .u8 0, .int .u8 0, .int .u8 0, .int .u8 0, .int .u8 0, .int .u8 0, .int .u8 0, .int .u8 0, .int .u8 0, .int .u8 0] )).run Try.prog w = .ok true w := fun h w => by
    have h2 := eq_bcells zeros32 zeros32 rfl rfl w
    rw [beq_self_eq_true] at h2
    rw [pOut_no _ h]
    have e3 : (.agg #[.int .u8 0, .int .u8 0, .int .u8 0, .int .u8 0, .int .u8 0, .int .u8 0, .int .u8 0, .int .u8 0, .int .u8 0, .int .u8 0, .int .u8 0, .int .u8 0, .int .u8 0, .int .u8 0, .int .u8 0, .int .u8 0, .int .u8 0, .int .u8 0, .int .u8 0, .int .u8 0, .int .u8 0, .int .u8 0, .int .u8 0, .int .u8 0, .int .u8 0, .int .u8 0, .int .u8 0, .int .u8 0, .int .u8 0, .int .u8 0, .int .u8 0, .int .u8 0] : Value) = .agg (bcells zeros32) := by rw [zeros_cells, zero32_cells]
    rw [e3]
    exact h2
  have hyes : pgood s.data.toList = true → (⟨(textOf (pOut s.data.toList)).toArray⟩ : ByteArray) = s := fun h => by rw [text_pOut _ h]
  have hno : pgood s.data.toList = false → ((⟨(textOf (pOut s.data.toList)).toArray⟩ : ByteArray).toList == s.toList) = false := fun h => by
    rw [pOut_no _ h, beq_eq_false_iff_ne]
    intro e
    refine text_zeros _ h ?_
    have e2 : textOf zeros32 = s.toList := by simpa using e
    rw [e2]
    exact ByteArray.toList_eq s
  generalize bcells xs = X at *
  generalize (⟨(textOf xs).toArray⟩ : ByteArray) = T at *
  generalize bcells (pOut s.data.toList) = Y at *
  generalize (⟨(textOf (pOut s.data.toList)).toArray⟩ : ByteArray) = U at *
  have hst1 : St W (W.alloc (.cells X 26)) (fun b => W.heap[b]?) [(W.heap.size, .cells X 26 (0, 0))] := (St.start W).alloc _
  have ix : (Try.prog.info? 26).map (·.size) = some X.size := by rw [z0]; kernel_rfl
  have iy : (Try.prog.info? 26).map (·.size) = some Y.size := by rw [z2]; kernel_rfl
  have yx : ∀ j, j < X.size → X[0 + j]? = X[j]? := fun j _ => by rw [Nat.zero_add]
  have yy : ∀ j, j < Y.size → Y[0 + j]? = Y[j]? := fun j _ => by rw [Nat.zero_add]
  have fx : 0 + X.size ≤ (#[.int .u8 0, .int .u8 0, .int .u8 0, .int .u8 0, .int .u8 0, .int .u8 0, .int .u8 0, .int .u8 0, .int .u8 0, .int .u8 0, .int .u8 0, .int .u8 0, .int .u8 0, .int .u8 0, .int .u8 0, .int .u8 0, .int .u8 0, .int .u8 0, .int .u8 0, .int .u8 0, .int .u8 0, .int .u8 0, .int .u8 0, .int .u8 0, .int .u8 0, .int .u8 0, .int .u8 0, .int .u8 0, .int .u8 0, .int .u8 0, .int .u8 0, .int .u8 0] : Array Value).size := by rw [z0]; decide
  have fy : 0 + Y.size ≤ (#[.int .u8 0, .int .u8 0, .int .u8 0, .int .u8 0, .int .u8 0, .int .u8 0, .int .u8 0, .int .u8 0, .int .u8 0, .int .u8 0, .int .u8 0, .int .u8 0, .int .u8 0, .int .u8 0, .int .u8 0, .int .u8 0, .int .u8 0, .int .u8 0, .int .u8 0, .int .u8 0, .int .u8 0, .int .u8 0, .int .u8 0, .int .u8 0, .int .u8 0, .int .u8 0, .int .u8 0, .int .u8 0, .int .u8 0, .int .u8 0, .int .u8 0, .int .u8 0] : Array Value).size := by rw [z2]; decide
  have ex : setMany #[.int .u8 0, .int .u8 0, .int .u8 0, .int .u8 0, .int .u8 0, .int .u8 0, .int .u8 0, .int .u8 0, .int .u8 0, .int .u8 0, .int .u8 0, .int .u8 0, .int .u8 0, .int .u8 0, .int .u8 0, .int .u8 0, .int .u8 0, .int .u8 0, .int .u8 0, .int .u8 0, .int .u8 0, .int .u8 0, .int .u8 0, .int .u8 0, .int .u8 0, .int .u8 0, .int .u8 0, .int .u8 0, .int .u8 0, .int .u8 0, .int .u8 0, .int .u8 0] 0 X.toList = X := by rw [setMany_whole _ _ (by simp [z0])]
  have ey : setMany #[.int .u8 0, .int .u8 0, .int .u8 0, .int .u8 0, .int .u8 0, .int .u8 0, .int .u8 0, .int .u8 0, .int .u8 0, .int .u8 0, .int .u8 0, .int .u8 0, .int .u8 0, .int .u8 0, .int .u8 0, .int .u8 0, .int .u8 0, .int .u8 0, .int .u8 0, .int .u8 0, .int .u8 0, .int .u8 0, .int .u8 0, .int .u8 0, .int .u8 0, .int .u8 0, .int .u8 0, .int .u8 0, .int .u8 0, .int .u8 0, .int .u8 0, .int .u8 0] 0 Y.toList = Y := by rw [setMany_whole _ _ (by simp [z2])]
  have IX := Lib.hid ix; have IY := Lib.hid iy; have YX := Lib.hid yx; have YY := Lib.hid yy; have FX := Lib.hid fx; have FY := Lib.hid fy; have EX := Lib.hid ex; have EY := Lib.hid ey; have OX := Lib.hid o0; have OY := Lib.hid o2
  have K1 := Lib.hid k1; have K2 := Lib.hid k2; have K3 := Lib.hid k3; have K4 := Lib.hid k4; have K5 := Lib.hid k5; have EQZ := Lib.hid eqz; have HYES := Lib.hid hyes; have HNO := Lib.hid hno
  clear ix iy yx yy fx fy ex ey o0 o2 k1 k2 k3 k4 k5 z0 z2 a0 a1 eqz hyes hno
  have H1 := Lib.hid hst1
  clear hst1
  go_enter Try.func6, Try.ntmps6
  go_wp2_with fail
  refine (digestAlive H1.out).mono ?_
  rintro e w1 ⟨rfl, h1⟩
  clear H1
  by_cases h200 : (200 : Int) < s.size
  · have hfin := h1.below (Le.refl _)
    clear h1
    go_wp2_with fail
    go_ret
    exact ⟨rfl, hfin⟩
  have H1 := Lib.hid h1
  clear h1
  go_wp2_with (with_reducible refine wpList_load_st rfl 26 (.tmp 2) rfl (g := W.heap.size) (off := 0) rfl H1.out (List.mem_singleton.2 rfl) X YX.out _ Try.underlying26 rfl IX.out ?_)
  refine (K1.out _ _ H1.out).mono ?_
  rintro e w2 ⟨rfl, h2⟩
  clear H1 K1
  have H2 := Lib.hid h2
  clear h2
  go_wp2_with fail
  refine (K3.out _ _ H2.out).mono ?_
  rintro e w3 ⟨rfl, h3⟩
  clear H2 K3
  have h3a := h3.alloc (.cells #[.int .u8 0, .int .u8 0, .int .u8 0, .int .u8 0, .int .u8 0, .int .u8 0, .int .u8 0, .int .u8 0, .int .u8 0, .int .u8 0, .int .u8 0, .int .u8 0, .int .u8 0, .int .u8 0, .int .u8 0, .int .u8 0, .int .u8 0, .int .u8 0, .int .u8 0, .int .u8 0, .int .u8 0, .int .u8 0, .int .u8 0, .int .u8 0, .int .u8 0, .int .u8 0, .int .u8 0, .int .u8 0, .int .u8 0, .int .u8 0, .int .u8 0, .int .u8 0] 26)
  have H3 := Lib.hid h3a
  clear h3 h3a
  go_wp2_with (with_reducible refine wpList_store_st rfl 26 (.tmp 6) (.tmp 20) rfl (g := w3.heap.size) (off := 0) X rfl rfl H3.out FX.out IX.out OX.out ?_; intro w4 h4; have H4 := Lib.hid h4; clear h4)
  have h4 := H4.out
  rw [EX.out] at h4
  clear H4 H3
  generalize w3.heap.size = g6 at *
  refine (K4.out _ _ h4).mono ?_
  rintro e w5 ⟨rfl, h5⟩
  clear h4 K4
  have h5a := h5.alloc (.cells #[.int .u8 0, .int .u8 0, .int .u8 0, .int .u8 0, .int .u8 0, .int .u8 0, .int .u8 0, .int .u8 0, .int .u8 0, .int .u8 0, .int .u8 0, .int .u8 0, .int .u8 0, .int .u8 0, .int .u8 0, .int .u8 0, .int .u8 0, .int .u8 0, .int .u8 0, .int .u8 0, .int .u8 0, .int .u8 0, .int .u8 0, .int .u8 0, .int .u8 0, .int .u8 0, .int .u8 0, .int .u8 0, .int .u8 0, .int .u8 0, .int .u8 0, .int .u8 0] 26)
  have H5 := Lib.hid h5a
  clear h5 h5a
  go_wp2_with (with_reducible refine wpList_store_st rfl 26 (.tmp 8) (.tmp 25) rfl (g := w5.heap.size) (off := 0) Y rfl rfl H5.out FY.out IY.out OY.out ?_; intro w6 h6; refine Hid.out ?_)
  refine Lib.hid ?_
  rw [EY.out] at h6
  clear H5
  generalize w5.heap.size = g8 at *
  have H6 := Lib.hid h6
  clear h6
  cases hg : pgood s.data.toList
  · have hyz := EQZ.out hg
    have hno := HNO.out hg
    clear EQZ HNO HYES hg
    have HYZ := Lib.hid hyz
    clear hyz
    go_wp2_with (with_reducible refine wpList_load_st rfl 26 (.tmp 2) rfl (g := W.heap.size) (off := 0) rfl H6.out (cs := X) (t := 26) (fr := (0, 0)) (by simp) X YX.out _ Try.underlying26 rfl IX.out ?_)
    refine (K2.out _ _ H6.out).mono ?_
    rintro e w7 ⟨rfl, h7⟩
    clear H6
    have H7 := Lib.hid h7
    clear h7
    go_wp2_with (first | (refine wpList_load_g (by rfl) 26 (.tmp 6) rfl (g := g6) (off := 0) rfl H7.out (cs := X) (t := 26) (fr := (0, 0)) (by simp) X YX.out _ Try.underlying26 rfl IX.out ?_) | (refine wpList_load_g (by rfl) 26 (.tmp 2) rfl (g := W.heap.size) (off := 0) rfl H7.out (cs := X) (t := 26) (fr := (0, 0)) (by simp) X YX.out _ Try.underlying26 rfl IX.out ?_) | (refine wpList_load_g (by rfl) 26 (.tmp 8) rfl (g := g8) (off := 0) rfl H7.out (cs := Y) (t := 26) (fr := (0, 0)) (by simp) Y YY.out _ Try.underlying26 rfl IY.out ?_))
    refine (K5.out _ _ H7.out).mono ?_
    rintro e w8 ⟨rfl, h8⟩
    clear H7
    have H8 := Lib.hid h8
    have eqz := HYZ.out
    clear h8
    go_wp2_with (first | (refine wpList_load_g (by rfl) 26 (.tmp 6) rfl (g := g6) (off := 0) rfl H8.out (cs := X) (t := 26) (fr := (0, 0)) (by simp) X YX.out _ Try.underlying26 rfl IX.out ?_) | (refine wpList_load_g (by rfl) 26 (.tmp 2) rfl (g := W.heap.size) (off := 0) rfl H8.out (cs := X) (t := 26) (fr := (0, 0)) (by simp) X YX.out _ Try.underlying26 rfl IX.out ?_) | (refine wpList_load_g (by rfl) 26 (.tmp 8) rfl (g := g8) (off := 0) rfl H8.out (cs := Y) (t := 26) (fr := (0, 0)) (by simp) Y YY.out _ Try.underlying26 rfl IY.out ?_))
    go_ret
    exact ⟨rfl, H8.out.below (Le.refl _)⟩
  · have k5 := K5.out
    rw [HYES.out hg] at k5
    have K6 := Lib.hid k5
    clear k5 K5 EQZ HNO HYES hg
    go_wp2_with (with_reducible refine wpList_load_st rfl 26 (.tmp 2) rfl (g := W.heap.size) (off := 0) rfl H6.out (cs := X) (t := 26) (fr := (0, 0)) (by simp) X YX.out _ Try.underlying26 rfl IX.out ?_)
    refine (K2.out _ _ H6.out).mono ?_
    rintro e w7 ⟨rfl, h7⟩
    clear H6
    have H7 := Lib.hid h7
    clear h7
    go_wp2_with (first | (refine wpList_load_g (by rfl) 26 (.tmp 6) rfl (g := g6) (off := 0) rfl H7.out (cs := X) (t := 26) (fr := (0, 0)) (by simp) X YX.out _ Try.underlying26 rfl IX.out ?_) | (refine wpList_load_g (by rfl) 26 (.tmp 2) rfl (g := W.heap.size) (off := 0) rfl H7.out (cs := X) (t := 26) (fr := (0, 0)) (by simp) X YX.out _ Try.underlying26 rfl IX.out ?_) | (refine wpList_load_g (by rfl) 26 (.tmp 8) rfl (g := g8) (off := 0) rfl H7.out (cs := Y) (t := 26) (fr := (0, 0)) (by simp) Y YY.out _ Try.underlying26 rfl IY.out ?_))
    refine (K6.out _ _ H7.out).mono ?_
    rintro e w8 ⟨rfl, h8⟩
    clear H7
    have H8 := Lib.hid h8
    clear h8
    go_wp2_with (first | (refine wpList_load_g (by rfl) 26 (.tmp 6) rfl (g := g6) (off := 0) rfl H8.out (cs := X) (t := 26) (fr := (0, 0)) (by simp) X YX.out _ Try.underlying26 rfl IX.out ?_) | (refine wpList_load_g (by rfl) 26 (.tmp 2) rfl (g := W.heap.size) (off := 0) rfl H8.out (cs := X) (t := 26) (fr := (0, 0)) (by simp) X YX.out _ Try.underlying26 rfl IX.out ?_) | (refine wpList_load_g (by rfl) 26 (.tmp 8) rfl (g := g8) (off := 0) rfl H8.out (cs := Y) (t := 26) (fr := (0, 0)) (by simp) Y YY.out _ Try.underlying26 rfl IY.out ?_))
    go_ret
    exact ⟨rfl, H8.out.below (Le.refl _)⟩
end Go.Proofs.Ytjkepnddmpgljaa
