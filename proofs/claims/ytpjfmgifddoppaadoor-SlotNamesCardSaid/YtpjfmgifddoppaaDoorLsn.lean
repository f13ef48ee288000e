/- SlotNames: the walk of the law. -/
import Derived.Test.YtpjfmgifddoppaaDoorIdx
namespace Go.Proofs.YtpjfmgifddoppaaDoor
set_option linter.unusedVariables false
set_option linter.unusedSimpArgs false
open Go.RowKit Go.Lib

theorem good_parse : parseS ⟨#[103, 111, 111, 100]⟩ = (zS, 101) := by
  unfold parseS
  rw [show rightS (pS (splO ⟨#[103, 111, 111, 100]⟩)) = false by decide +kernel, Bool.false_and, if_neg (by decide)]
theorem idx_B : idxOf ⟨#[66]⟩ = 1 := by
  unfold idxOf
  rw [show foldOf ⟨#[66]⟩ = [98] by decide +kernel]
  rfl
theorem idx_a : idxOf ⟨#[97]⟩ = 0 := by
  unfold idxOf
  rw [fold_a]
  rfl
theorem idx_no : idxOf ⟨#[]⟩ = -1 := by
  unfold idxOf
  rw [show foldOf ⟨#[]⟩ = [] by decide +kernel]
  rfl
set_option maxRecDepth 100000 in
set_option maxHeartbeats 4000000 in
theorem walk_slotNames (W : World) (nv : NV W) :
    Calls Tryd.prog 11 #[] W fun e w' => e = .returned (.bool true) ∧ Below W.heap.size W w' := by
  have t := TB.start nv.tabs
  have h0 := St.start W
  have kP := slot_parse nv.sv ⟨#[103, 111, 111, 100]⟩ (by decide) h0
  rw [good_parse] at kP
  have kA := fun (v : World) (F : List (Nat × Obj)) (hv : St W v (fun b => W.heap[b]?) F) => slot_alive nv.sv hv
  have kN0 : ∀ (v : World) (F : List (Nat × Obj)), St W v (fun b => W.heap[b]?) F → Calls Tryd.prog 44 #[.int .i64 0] v fun e w' => e = .returned (.string ⟨#[97]⟩) ∧ St W w' (fun b => W.heap[b]?) F := fun v F hv => slot_name nv.n0 nv.n1 0 hv
  have kN1 : ∀ (v : World) (F : List (Nat × Obj)), St W v (fun b => W.heap[b]?) F → Calls Tryd.prog 44 #[.int .i64 1] v fun e w' => e = .returned (.string ⟨#[98]⟩) ∧ St W w' (fun b => W.heap[b]?) F := fun v F hv => slot_name nv.n0 nv.n1 1 hv
  have kN2 : ∀ (v : World) (F : List (Nat × Obj)), St W v (fun b => W.heap[b]?) F → Calls Tryd.prog 44 #[.int .i64 2] v fun e w' => e = .returned (.string ⟨#[]⟩) ∧ St W w' (fun b => W.heap[b]?) F := fun v F hv => slot_name nv.n0 nv.n1 2 hv
  have kN3 : ∀ (v : World) (F : List (Nat × Obj)), St W v (fun b => W.heap[b]?) F → Calls Tryd.prog 44 #[.int .i64 (-1)] v fun e w' => e = .returned (.string ⟨#[]⟩) ∧ St W w' (fun b => W.heap[b]?) F := fun v F hv => slot_name nv.n0 nv.n1 (-1) hv
  have kIB := fun (v : World) (F : List (Nat × Obj)) (hv : St W v (fun b => W.heap[b]?) F) => slot_index t nv.tc nv.n0 nv.n1 ⟨#[66]⟩ (by decide) hv
  rw [idx_B] at kIB
  have kIA := fun (v : World) (F : List (Nat × Obj)) (hv : St W v (fun b => W.heap[b]?) F) => slot_index t nv.tc nv.n0 nv.n1 ⟨#[97]⟩ (by decide) hv
  rw [idx_a] at kIA
  have kIN := fun (v : World) (F : List (Nat × Obj)) (hv : St W v (fun b => W.heap[b]?) F) => slot_index t nv.tc nv.n0 nv.n1 ⟨#[]⟩ (by decide) hv
  rw [idx_no] at kIN
  have hmi := slot_info (s := zS) zeros_len
  obtain ⟨hfit, hsm⟩ := slot_fit (s := zS) (t := zS) zeros_len zeros_len
  have hone := Slt.one zS
  have hzl : zS.cells = #[.int .i64 0, .int .i64 0, .int .u64 0, .int .i64 0, .int .u8 0, .int .u8 0, .int .u8 0, .int .u8 0, .int .u8 0, .int .u8 0, .int .u8 0, .int .u8 0, .int .u8 0, .int .u8 0, .int .u8 0, .int .u8 0, .int .u8 0, .int .u8 0, .int .u8 0, .int .u8 0, .int .u8 0, .int .u8 0, .int .u8 0, .int .u8 0, .int .u8 0, .int .u8 0, .int .u8 0, .int .u8 0, .int .u8 0, .int .u8 0, .int .u8 0, .int .u8 0, .int .u8 0, .int .u8 0, .int .u8 0, .int .u8 0] := bare_lit 0 ▸ rfl
  have hfit2 := hfit
  have HFIT := Lib.hid hfit; have HSM := Lib.hid hsm; have HMI := Lib.hid hmi; have HONE := Lib.hid hone; have HZ := Lib.hid hzl
  have KP := Lib.hid kP; have KA := Lib.hid kA
  have KN0 := Lib.hid kN0
  have KN1 := Lib.hid kN1
  have KN2 := Lib.hid kN2
  have KN3 := Lib.hid kN3
  have KIB := Lib.hid kIB
  have KIA := Lib.hid kIA
  have KIN := Lib.hid kIN
  clear kP kA kN0 kN1 kN2 kN3 kIB kIA kIN t h0 nv hfit hsm hmi hone hzl hfit2
  go_enter Tryd.func11, Tryd.ntmps11
  go_wp2_with fail
  refine KP.out.mono ?_
  rintro e w2 ⟨rfl, h2⟩
  have hA := h2.alloc (.cells #[.int .i64 0, .int .i64 0, .int .u64 0, .int .i64 0, .int .u8 0, .int .u8 0, .int .u8 0, .int .u8 0, .int .u8 0, .int .u8 0, .int .u8 0, .int .u8 0, .int .u8 0, .int .u8 0, .int .u8 0, .int .u8 0, .int .u8 0, .int .u8 0, .int .u8 0, .int .u8 0, .int .u8 0, .int .u8 0, .int .u8 0, .int .u8 0, .int .u8 0, .int .u8 0, .int .u8 0, .int .u8 0, .int .u8 0, .int .u8 0, .int .u8 0, .int .u8 0, .int .u8 0, .int .u8 0, .int .u8 0, .int .u8 0] 26)
  rw [← HZ.out] at hA
  have HA := Lib.hid hA
  clear KP h2 hA
  dsimp only
  go_wp2_with (with_reducible refine wpList_store_st rfl 26 (.tmp 1) (.tmp 5) rfl (g := w2.heap.size) (off := 0) zS.cells rfl rfl HA.out HFIT.out HMI.out HONE.out ?_; intro w3 h3; refine Hid.out ?_)
  refine Lib.hid ?_
  rw [HSM.out] at h3
  generalize w2.heap.size = b at *
  have H3 := Lib.hid (St.weaken (A := [_]) h3)
  clear h3 HA
  go_wp2_with fail
  refine (KA.out _ _ H3.out).mono ?_
  rintro e w4 ⟨rfl, h4⟩
  have H4 := Lib.hid h4
  clear h4 H3
  go_wp2_with fail
  refine (KN0.out _ _ H4.out).mono ?_
  rintro e w5 ⟨rfl, h5⟩
  have H5 := Lib.hid h5
  clear h5 H4
  go_wp2_with fail
  refine (KN1.out _ _ H5.out).mono ?_
  rintro e w6 ⟨rfl, h6⟩
  have H6 := Lib.hid h6
  clear h6 H5
  go_wp2_with fail
  refine (KN2.out _ _ H6.out).mono ?_
  rintro e w7 ⟨rfl, h7⟩
  have H7 := Lib.hid h7
  clear h7 H6
  go_wp2_with fail
  refine (KN3.out _ _ H7.out).mono ?_
  rintro e w8 ⟨rfl, h8⟩
  have H8 := Lib.hid h8
  clear h8 H7
  go_wp2_with fail
  refine (KIB.out _ _ H8.out).mono ?_
  rintro e w9 ⟨rfl, h9⟩
  have H9 := Lib.hid h9
  clear h9 H8
  go_wp2_with fail
  refine (KIA.out _ _ H9.out).mono ?_
  rintro e w10 ⟨rfl, h10⟩
  have H10 := Lib.hid h10
  clear h10 H9
  go_wp2_with fail
  refine (KIN.out _ _ H10.out).mono ?_
  rintro e w11 ⟨rfl, h11⟩
  have HF : Hid (Below W.heap.size W w11) := Lib.hid (h11.below (Le.refl _))
  have H11 := Lib.hid h11
  clear h11 H10
  go_wp2_with fail
  go_ret
  exact ⟨rfl, HF.out⟩
end Go.Proofs.YtpjfmgifddoppaaDoor
