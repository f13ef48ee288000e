/- GlyphNames: the walk of the law. -/
import Derived.Test.YtpjfmgifddoppaaDoorLgt
namespace Go.Proofs.YtpjfmgifddoppaaDoor
set_option linter.unusedVariables false
set_option linter.unusedSimpArgs false
open Go.RowKit Go.Lib

theorem upDF_readO : readO [92, 117, 123, 68, 70, 125] = some [195, 159] := by decide +kernel
theorem upDF_show : showOf ⟨#[195, 159]⟩ = [92, 117, 123, 100, 102, 125] := by
  unfold showOf
  rw [show runesOf ⟨#[195, 159]⟩ = [0] by decide +kernel]
  have e4 : showPiece ⟨#[195, 159]⟩ 0 = [92, 117, 123, 100, 102, 125] := by
    unfold showPiece
    rw [if_neg (by decide +kernel), if_neg (by decide +kernel), show (Utf8.decode ⟨#[195, 159]⟩ 0).1 = 223 by decide +kernel, hex223]
    rfl
  simp [e4]
theorem upDF_read : readR [92, 117, 123, 68, 70, 125] = ([], 41) := by
  unfold readR
  rw [upDF_readO]
  show (if showOf ⟨#[195, 159]⟩ = [92, 117, 123, 68, 70, 125] then _ else _) = _
  rw [upDF_show, if_neg (by decide)]
theorem nm_e0 : nameOk ⟨#[]⟩ = false := by decide +kernel
theorem nm_e1 : nameOk ⟨#[49, 97]⟩ = false := by decide +kernel
theorem nm_e2 : nameOk ⟨#[97, 32, 49]⟩ = false := by decide +kernel
theorem nm_e3 : nameOk ⟨#[195, 169, 99, 114, 97, 110, 45, 49, 46, 50, 95, 120]⟩ = true := by decide +kernel
theorem nm_e4 : nameOk ⟨#[97, 255]⟩ = false := by decide +kernel
theorem nm_e5 : nameOk ⟨#[97, 98, 99, 100, 101, 102, 103, 104, 105, 106, 107, 108, 109, 110, 111, 112, 113, 114, 115, 116, 117, 118, 119, 120, 121]⟩ = false := by decide +kernel
theorem same_ea : (foldOf ⟨#[195, 137, 65]⟩ == foldOf ⟨#[195, 169, 97]⟩) = true := by decide +kernel

set_option maxRecDepth 100000 in
set_option maxHeartbeats 4000000 in
theorem walk_glyphNames (W : World) (gw : GW W) :
    Calls Tryd.prog 12 #[] W fun e w' => e = .returned (.bool true) ∧ Below W.heap.size W w' := by
  have t := TB.start gw.gv.tabs
  have ht : roCell (fun b => W.heap[b]?) ⟨13, 15, none⟩ = some (.int .u8 4) := gw.gv.b64
  have h0 := St.start W
  have kR := glyph_read t ht gw.gv.ev ⟨#[92, 117, 123, 68, 70, 125]⟩ (by decide) h0
  rw [show (⟨#[92, 117, 123, 68, 70, 125]⟩ : ByteArray).data.toList = [92, 117, 123, 68, 70, 125] from rfl, upDF_read] at kR
  have kA := fun (v : World) (F : List (Nat × Obj)) (hv : St W v (fun b => W.heap[b]?) F) => glyph_alive t ht gw.gv.ev hv
  have ke0 := fun (v : World) (F : List (Nat × Obj)) (hv : St W v (fun b => W.heap[b]?) F) => name_any t gw.t4 ⟨#[]⟩ (by decide) hv
  rw [nm_e0, if_neg (by decide)] at ke0
  have ke1 := fun (v : World) (F : List (Nat × Obj)) (hv : St W v (fun b => W.heap[b]?) F) => name_any t gw.t4 ⟨#[49, 97]⟩ (by decide) hv
  rw [nm_e1, if_neg (by decide)] at ke1
  have ke2 := fun (v : World) (F : List (Nat × Obj)) (hv : St W v (fun b => W.heap[b]?) F) => name_any t gw.t4 ⟨#[97, 32, 49]⟩ (by decide) hv
  rw [nm_e2, if_neg (by decide)] at ke2
  have ke3 := fun (v : World) (F : List (Nat × Obj)) (hv : St W v (fun b => W.heap[b]?) F) => name_any t gw.t4 ⟨#[195, 169, 99, 114, 97, 110, 45, 49, 46, 50, 95, 120]⟩ (by decide) hv
  rw [nm_e3, if_pos rfl] at ke3
  have ke4 := fun (v : World) (F : List (Nat × Obj)) (hv : St W v (fun b => W.heap[b]?) F) => name_any t gw.t4 ⟨#[97, 255]⟩ (by decide) hv
  rw [nm_e4, if_neg (by decide)] at ke4
  have ke5 := fun (v : World) (F : List (Nat × Obj)) (hv : St W v (fun b => W.heap[b]?) F) => name_any t gw.t4 ⟨#[97, 98, 99, 100, 101, 102, 103, 104, 105, 106, 107, 108, 109, 110, 111, 112, 113, 114, 115, 116, 117, 118, 119, 120, 121]⟩ (by decide) hv
  rw [nm_e5, if_neg (by decide)] at ke5
  have kM := fun (v : World) (F : List (Nat × Obj)) (hv : St W v (fun b => W.heap[b]?) F) => glyph_same t gw.tc ⟨#[195, 137, 65]⟩ ⟨#[195, 169, 97]⟩ (by decide) (by decide) hv
  rw [same_ea] at kM
  have K_R := Lib.hid kR; have K_A := Lib.hid kA; have K_E0 := Lib.hid ke0; have K_E1 := Lib.hid ke1; have K_E2 := Lib.hid ke2; have K_E3 := Lib.hid ke3; have K_E4 := Lib.hid ke4; have K_E5 := Lib.hid ke5; have K_M := Lib.hid kM
  clear kR kA ke0 ke1 ke2 ke3 ke4 ke5 kM t ht gw h0
  go_enter Tryd.func12, Tryd.ntmps12
  go_wp2_with fail
  refine K_R.out.mono ?_
  rintro e w1 ⟨rfl, h1⟩
  have H1 := Lib.hid h1
  clear h1
  go_wp2_with fail
  refine (K_A.out _ _ H1.out).mono ?_
  rintro e w2 ⟨rfl, h2⟩
  have H2 := Lib.hid h2
  clear h2 H1
  go_wp2_with fail
  refine (K_E0.out _ _ H2.out).mono ?_
  rintro e w3 ⟨rfl, h3⟩
  have H3 := Lib.hid h3
  clear h3 H2
  go_wp2_with fail
  refine (K_E1.out _ _ H3.out).mono ?_
  rintro e w4 ⟨rfl, h4⟩
  have H4 := Lib.hid h4
  clear h4 H3
  go_wp2_with fail
  refine (K_E2.out _ _ H4.out).mono ?_
  rintro e w5 ⟨rfl, h5⟩
  have H5 := Lib.hid h5
  clear h5 H4
  go_wp2_with fail
  refine (K_E3.out _ _ H5.out).mono ?_
  rintro e w6 ⟨rfl, h6⟩
  have H6 := Lib.hid h6
  clear h6 H5
  go_wp2_with fail
  refine (K_E4.out _ _ H6.out).mono ?_
  rintro e w7 ⟨rfl, h7⟩
  have H7 := Lib.hid h7
  clear h7 H6
  go_wp2_with fail
  refine (K_E5.out _ _ H7.out).mono ?_
  rintro e w8 ⟨rfl, h8⟩
  have H8 := Lib.hid h8
  clear h8 H7
  go_wp2_with fail
  refine (K_M.out _ _ H8.out).mono ?_
  rintro e w9 ⟨rfl, h9⟩
  have HF : Hid (Below W.heap.size W w9) := Lib.hid (h9.below (Le.refl _))
  have H9 := Lib.hid h9
  clear h9 H8
  go_wp2_with fail
  go_ret
  exact ⟨rfl, HF.out⟩
end Go.Proofs.YtpjfmgifddoppaaDoor
