/- slot: Bootable, Ready, the document's Bad: walks. -/
import Derived.Test.YtpjfmgifddoppaaDoorSlC
namespace Go.Proofs.YtpjfmgifddoppaaDoor
set_option linter.unusedVariables false
set_option linter.unusedSimpArgs false
open Go.RowKit Go.Lib

section
variable {W w : World} {I : Nat → Option Obj} {F : List (Nat × Obj)}
set_option maxRecDepth 100000 in
set_option maxHeartbeats 4000000 in
theorem ref_bad (s : Slt) (ok : s.Ok) (h : St W w I F) :
    Calls Tryd.prog 22 #[s.val] w (SPost W I F (badS s)) := by
  have h0 := (h.alloc (.cells s.cells 26)).alloc (.cells zS.cells 26)
  rw [World.size_alloc] at h0
  rw [show zS.cells = #[.int .i64 0, .int .i64 0, .int .u64 0, .int .i64 0, .int .u8 0, .int .u8 0, .int .u8 0, .int .u8 0, .int .u8 0, .int .u8 0, .int .u8 0, .int .u8 0, .int .u8 0, .int .u8 0, .int .u8 0, .int .u8 0, .int .u8 0, .int .u8 0, .int .u8 0, .int .u8 0, .int .u8 0, .int .u8 0, .int .u8 0, .int .u8 0, .int .u8 0, .int .u8 0, .int .u8 0, .int .u8 0, .int .u8 0, .int .u8 0, .int .u8 0, .int .u8 0, .int .u8 0, .int .u8 0, .int .u8 0, .int .u8 0] from bare_lit 0 ▸ rfl] at h0
  obtain ⟨b, hb⟩ : ∃ b, w.heap.size = b := ⟨_, rfl⟩
  rw [hb] at h0
  have kR := fun (v : World) (F : List (Nat × Obj)) (hv : St W v I F) => ref_right s ok hv
  cases hR : rightS s with
  | false =>
    have hv : badS s = (zS, 101) := by rw [badS, hR]; rfl
    rw [hR] at kR
    have HV := Lib.hid hv
    have HMI := Lib.hid (slot_info ok.dig)
    have H0 := Lib.hid h0; have KR := Lib.hid kR; have OK := Lib.hid ok
    clear h0 h kR ok hv
    unfold Slt.val at KR ⊢
    clear hR
    go_enter Tryd.func22, Tryd.ntmps22
    go_wp2_with (with_reducible refine wpList_load_st rfl 26 (.tmp 1) rfl (g := b) (off := 0) rfl H0.out (cs := s.cells) (t := 26) (fr := (0, 0)) (by simp) s.cells (fun j hj => by rw [Nat.zero_add]) _ Tryd.underlying26 rfl HMI.out ?_)
    refine (KR.out _ _ H0.out).mono ?_
    rintro e w2 ⟨rfl, h2⟩
    have H2 := Lib.hid h2
    clear h2 H0 KR hb
    obtain ⟨hfit, hsm⟩ := slot_fit (s := zS) (t := zS) zeros_len zeros_len
    have hix := slot_info (s := zS) zeros_len
    have hone := Slt.one zS
    have hzl : zS.cells = #[.int .i64 0, .int .i64 0, .int .u64 0, .int .i64 0, .int .u8 0, .int .u8 0, .int .u8 0, .int .u8 0, .int .u8 0, .int .u8 0, .int .u8 0, .int .u8 0, .int .u8 0, .int .u8 0, .int .u8 0, .int .u8 0, .int .u8 0, .int .u8 0, .int .u8 0, .int .u8 0, .int .u8 0, .int .u8 0, .int .u8 0, .int .u8 0, .int .u8 0, .int .u8 0, .int .u8 0, .int .u8 0, .int .u8 0, .int .u8 0, .int .u8 0, .int .u8 0, .int .u8 0, .int .u8 0, .int .u8 0, .int .u8 0] := bare_lit 0 ▸ rfl
    rw [hzl] at hfit hsm hix hone
    have HFIT := Lib.hid hfit; have HSM := Lib.hid hsm; have HIX := Lib.hid hix; have HONE := Lib.hid hone; have HZL := Lib.hid hzl
    clear hfit hsm hix hone hzl
    go_wp2_with (with_reducible refine wpList_store_st rfl 26 (.tmp 2) (.tmp 17) rfl (g := b + 1) (off := 0) #[.int .i64 0, .int .i64 0, .int .u64 0, .int .i64 0, .int .u8 0, .int .u8 0, .int .u8 0, .int .u8 0, .int .u8 0, .int .u8 0, .int .u8 0, .int .u8 0, .int .u8 0, .int .u8 0, .int .u8 0, .int .u8 0, .int .u8 0, .int .u8 0, .int .u8 0, .int .u8 0, .int .u8 0, .int .u8 0, .int .u8 0, .int .u8 0, .int .u8 0, .int .u8 0, .int .u8 0, .int .u8 0, .int .u8 0, .int .u8 0, .int .u8 0, .int .u8 0, .int .u8 0, .int .u8 0, .int .u8 0, .int .u8 0] rfl rfl H2.out HFIT.out HIX.out HONE.out ?_; intro w9 h9; refine Hid.out ?_)
    refine Lib.hid ?_
    rw [HSM.out, ← HZL.out] at h9
    go_wp2_with fail
    refine bodyPost_ret (slot_ret (F := F) h9 zeros_len rfl rfl rfl) rfl ?_
    exact ⟨by rw [HV.out], St.weaken (A := [_, _]) h9⟩
  | true =>
    by_cases k2 : s.st = 2
    · have hF : fullS s = true := by rw [fullS, k2]; rfl
      have hv : badS s = (bareS 4, 0) := by rw [badS, hR, hF]; rfl
      rw [hR] at kR
      have HV := Lib.hid hv
      have HMI := Lib.hid (slot_info ok.dig)
      have H0 := Lib.hid h0; have KR := Lib.hid kR; have OK := Lib.hid ok
      clear h0 h kR ok hv
      unfold Slt.val at KR ⊢
      clear hR hF
      have S2 := Lib.hid k2
      clear k2
      go_enter Tryd.func22, Tryd.ntmps22
      go_wp2_with (with_reducible refine wpList_load_st rfl 26 (.tmp 1) rfl (g := b) (off := 0) rfl H0.out (cs := s.cells) (t := 26) (fr := (0, 0)) (by simp) s.cells (fun j hj => by rw [Nat.zero_add]) _ Tryd.underlying26 rfl HMI.out ?_)
      refine (KR.out _ _ H0.out).mono ?_
      rintro e w2 ⟨rfl, h2⟩
      have H2 := Lib.hid h2
      clear h2 H0 KR hb
      have c0 := H2.out.cell (g := b) (cs := s.cells) (t := 26) (fr := (0, 0)) (by simp) 0
      have c1 := H2.out.cell (g := b) (cs := s.cells) (t := 26) (fr := (0, 0)) (by simp) 1
      have c2 := H2.out.cell (g := b) (cs := s.cells) (t := 26) (fr := (0, 0)) (by simp) 2
      have c3 := H2.out.cell (g := b) (cs := s.cells) (t := 26) (fr := (0, 0)) (by simp) 3
      rw [Slt.at0] at c0
      rw [Slt.at1] at c1
      rw [Slt.at2] at c2
      rw [Slt.at3] at c3
      have f0 := H2.out.frozen (g := b) (cs := s.cells) (t := 26) (by simp) 0
      have f1 := H2.out.frozen (g := b) (cs := s.cells) (t := 26) (by simp) 1
      rw [S2.out] at c0
      obtain ⟨hfit, hsm⟩ := slot_fit (s := zS) (t := (bareS 4)) zeros_len zeros_len
      have hone := Slt.one (bareS 4)
      have hix := slot_info (s := (bareS 4)) zeros_len
      rw [show zS.cells = #[.int .i64 0, .int .i64 0, .int .u64 0, .int .i64 0, .int .u8 0, .int .u8 0, .int .u8 0, .int .u8 0, .int .u8 0, .int .u8 0, .int .u8 0, .int .u8 0, .int .u8 0, .int .u8 0, .int .u8 0, .int .u8 0, .int .u8 0, .int .u8 0, .int .u8 0, .int .u8 0, .int .u8 0, .int .u8 0, .int .u8 0, .int .u8 0, .int .u8 0, .int .u8 0, .int .u8 0, .int .u8 0, .int .u8 0, .int .u8 0, .int .u8 0, .int .u8 0, .int .u8 0, .int .u8 0, .int .u8 0, .int .u8 0] from bare_lit 0 ▸ rfl] at hfit hsm
      have HFIT := Lib.hid hfit; have HSM := Lib.hid hsm; have HIX := Lib.hid hix; have HONE := Lib.hid hone
      clear hfit hsm hone hix
      rw [← bare_lit] at *
      go_wp2_with (with_reducible refine wpList_store_st rfl 26 (.tmp 2) (.tmp 18) rfl (g := b + 1) (off := 0) #[.int .i64 4, .int .i64 0, .int .u64 0, .int .i64 0, .int .u8 0, .int .u8 0, .int .u8 0, .int .u8 0, .int .u8 0, .int .u8 0, .int .u8 0, .int .u8 0, .int .u8 0, .int .u8 0, .int .u8 0, .int .u8 0, .int .u8 0, .int .u8 0, .int .u8 0, .int .u8 0, .int .u8 0, .int .u8 0, .int .u8 0, .int .u8 0, .int .u8 0, .int .u8 0, .int .u8 0, .int .u8 0, .int .u8 0, .int .u8 0, .int .u8 0, .int .u8 0, .int .u8 0, .int .u8 0, .int .u8 0, .int .u8 0] rfl rfl H2.out HFIT.out HIX.out HONE.out ?_; intro w9 h9; refine Hid.out ?_)
      refine Lib.hid ?_
      rw [HSM.out] at h9
      go_wp2_with fail
      refine bodyPost_ret (slot_ret (t := (bareS 4)) (F := F) h9 zeros_len rfl rfl rfl) rfl ?_
      exact ⟨by rw [HV.out], St.weaken (A := [_, _]) h9⟩
    · have k3 : (s.st == 2) = false := beq_eq_false_iff_ne.2 k2
      have k4 : (s.st != 2) = true := by rw [bne, k3]; rfl
      by_cases j2 : s.st = 3
      · have hF : fullS s = true := by rw [fullS, j2]; rfl
        have hv : badS s = (bareS 4, 0) := by rw [badS, hR, hF]; rfl
        rw [hR] at kR
        have HV := Lib.hid hv
        have HMI := Lib.hid (slot_info ok.dig)
        have H0 := Lib.hid h0; have KR := Lib.hid kR; have OK := Lib.hid ok
        clear h0 h kR ok hv
        unfold Slt.val at KR ⊢
        clear hR hF
        have S2 := Lib.hid j2
        clear k2 k3 k4 j2
        go_enter Tryd.func22, Tryd.ntmps22
        go_wp2_with (with_reducible refine wpList_load_st rfl 26 (.tmp 1) rfl (g := b) (off := 0) rfl H0.out (cs := s.cells) (t := 26) (fr := (0, 0)) (by simp) s.cells (fun j hj => by rw [Nat.zero_add]) _ Tryd.underlying26 rfl HMI.out ?_)
        refine (KR.out _ _ H0.out).mono ?_
        rintro e w2 ⟨rfl, h2⟩
        have H2 := Lib.hid h2
        clear h2 H0 KR hb
        have c0 := H2.out.cell (g := b) (cs := s.cells) (t := 26) (fr := (0, 0)) (by simp) 0
        have c1 := H2.out.cell (g := b) (cs := s.cells) (t := 26) (fr := (0, 0)) (by simp) 1
        have c2 := H2.out.cell (g := b) (cs := s.cells) (t := 26) (fr := (0, 0)) (by simp) 2
        have c3 := H2.out.cell (g := b) (cs := s.cells) (t := 26) (fr := (0, 0)) (by simp) 3
        rw [Slt.at0] at c0
        rw [Slt.at1] at c1
        rw [Slt.at2] at c2
        rw [Slt.at3] at c3
        have f0 := H2.out.frozen (g := b) (cs := s.cells) (t := 26) (by simp) 0
        have f1 := H2.out.frozen (g := b) (cs := s.cells) (t := 26) (by simp) 1
        rw [S2.out] at c0
        obtain ⟨hfit, hsm⟩ := slot_fit (s := zS) (t := (bareS 4)) zeros_len zeros_len
        have hone := Slt.one (bareS 4)
        have hix := slot_info (s := (bareS 4)) zeros_len
        rw [show zS.cells = #[.int .i64 0, .int .i64 0, .int .u64 0, .int .i64 0, .int .u8 0, .int .u8 0, .int .u8 0, .int .u8 0, .int .u8 0, .int .u8 0, .int .u8 0, .int .u8 0, .int .u8 0, .int .u8 0, .int .u8 0, .int .u8 0, .int .u8 0, .int .u8 0, .int .u8 0, .int .u8 0, .int .u8 0, .int .u8 0, .int .u8 0, .int .u8 0, .int .u8 0, .int .u8 0, .int .u8 0, .int .u8 0, .int .u8 0, .int .u8 0, .int .u8 0, .int .u8 0, .int .u8 0, .int .u8 0, .int .u8 0, .int .u8 0] from bare_lit 0 ▸ rfl] at hfit hsm
        have HFIT := Lib.hid hfit; have HSM := Lib.hid hsm; have HIX := Lib.hid hix; have HONE := Lib.hid hone
        clear hfit hsm hone hix
        rw [← bare_lit] at *
        go_wp2_with (with_reducible refine wpList_store_st rfl 26 (.tmp 2) (.tmp 18) rfl (g := b + 1) (off := 0) #[.int .i64 4, .int .i64 0, .int .u64 0, .int .i64 0, .int .u8 0, .int .u8 0, .int .u8 0, .int .u8 0, .int .u8 0, .int .u8 0, .int .u8 0, .int .u8 0, .int .u8 0, .int .u8 0, .int .u8 0, .int .u8 0, .int .u8 0, .int .u8 0, .int .u8 0, .int .u8 0, .int .u8 0, .int .u8 0, .int .u8 0, .int .u8 0, .int .u8 0, .int .u8 0, .int .u8 0, .int .u8 0, .int .u8 0, .int .u8 0, .int .u8 0, .int .u8 0, .int .u8 0, .int .u8 0, .int .u8 0, .int .u8 0] rfl rfl H2.out HFIT.out HIX.out HONE.out ?_; intro w9 h9; refine Hid.out ?_)
        refine Lib.hid ?_
        rw [HSM.out] at h9
        go_wp2_with fail
        refine bodyPost_ret (slot_ret (t := (bareS 4)) (F := F) h9 zeros_len rfl rfl rfl) rfl ?_
        exact ⟨by rw [HV.out], St.weaken (A := [_, _]) h9⟩
      · have j3 : (s.st == 3) = false := beq_eq_false_iff_ne.2 j2
        have j4 : (s.st != 3) = true := by rw [bne, j3]; rfl
        have hF : fullS s = false := by rw [fullS, k3, j3]; rfl
        have hv : badS s = (zS, 101) := by rw [badS, hR, hF]; rfl
        rw [hR] at kR
        have HV := Lib.hid hv
        have HMI := Lib.hid (slot_info ok.dig)
        have H0 := Lib.hid h0; have KR := Lib.hid kR; have OK := Lib.hid ok
        clear h0 h kR ok hv
        unfold Slt.val at KR ⊢
        clear hR hF
        clear k2 j2
        go_enter Tryd.func22, Tryd.ntmps22
        go_wp2_with (with_reducible refine wpList_load_st rfl 26 (.tmp 1) rfl (g := b) (off := 0) rfl H0.out (cs := s.cells) (t := 26) (fr := (0, 0)) (by simp) s.cells (fun j hj => by rw [Nat.zero_add]) _ Tryd.underlying26 rfl HMI.out ?_)
        refine (KR.out _ _ H0.out).mono ?_
        rintro e w2 ⟨rfl, h2⟩
        have H2 := Lib.hid h2
        clear h2 H0 KR hb
        have c0 := H2.out.cell (g := b) (cs := s.cells) (t := 26) (fr := (0, 0)) (by simp) 0
        have c1 := H2.out.cell (g := b) (cs := s.cells) (t := 26) (fr := (0, 0)) (by simp) 1
        have c2 := H2.out.cell (g := b) (cs := s.cells) (t := 26) (fr := (0, 0)) (by simp) 2
        have c3 := H2.out.cell (g := b) (cs := s.cells) (t := 26) (fr := (0, 0)) (by simp) 3
        rw [Slt.at0] at c0
        rw [Slt.at1] at c1
        rw [Slt.at2] at c2
        rw [Slt.at3] at c3
        have f0 := H2.out.frozen (g := b) (cs := s.cells) (t := 26) (by simp) 0
        have f1 := H2.out.frozen (g := b) (cs := s.cells) (t := 26) (by simp) 1
        obtain ⟨hfit, hsm⟩ := slot_fit (s := zS) (t := zS) zeros_len zeros_len
        have hix := slot_info (s := zS) zeros_len
        have hone := Slt.one zS
        have hzl : zS.cells = #[.int .i64 0, .int .i64 0, .int .u64 0, .int .i64 0, .int .u8 0, .int .u8 0, .int .u8 0, .int .u8 0, .int .u8 0, .int .u8 0, .int .u8 0, .int .u8 0, .int .u8 0, .int .u8 0, .int .u8 0, .int .u8 0, .int .u8 0, .int .u8 0, .int .u8 0, .int .u8 0, .int .u8 0, .int .u8 0, .int .u8 0, .int .u8 0, .int .u8 0, .int .u8 0, .int .u8 0, .int .u8 0, .int .u8 0, .int .u8 0, .int .u8 0, .int .u8 0, .int .u8 0, .int .u8 0, .int .u8 0, .int .u8 0] := bare_lit 0 ▸ rfl
        rw [hzl] at hfit hsm hix hone
        have HFIT := Lib.hid hfit; have HSM := Lib.hid hsm; have HIX := Lib.hid hix; have HONE := Lib.hid hone; have HZL := Lib.hid hzl
        clear hfit hsm hix hone hzl
        go_wp2_with (with_reducible refine wpList_store_st rfl 26 (.tmp 2) (.tmp 17) rfl (g := b + 1) (off := 0) #[.int .i64 0, .int .i64 0, .int .u64 0, .int .i64 0, .int .u8 0, .int .u8 0, .int .u8 0, .int .u8 0, .int .u8 0, .int .u8 0, .int .u8 0, .int .u8 0, .int .u8 0, .int .u8 0, .int .u8 0, .int .u8 0, .int .u8 0, .int .u8 0, .int .u8 0, .int .u8 0, .int .u8 0, .int .u8 0, .int .u8 0, .int .u8 0, .int .u8 0, .int .u8 0, .int .u8 0, .int .u8 0, .int .u8 0, .int .u8 0, .int .u8 0, .int .u8 0, .int .u8 0, .int .u8 0, .int .u8 0, .int .u8 0] rfl rfl H2.out HFIT.out HIX.out HONE.out ?_; intro w9 h9; refine Hid.out ?_)
        refine Lib.hid ?_
        rw [HSM.out, ← HZL.out] at h9
        go_wp2_with fail
        refine bodyPost_ret (slot_ret (F := F) h9 zeros_len rfl rfl rfl) rfl ?_
        exact ⟨by rw [HV.out], St.weaken (A := [_, _]) h9⟩
set_option maxRecDepth 100000 in
set_option maxHeartbeats 4000000 in
theorem slot_boot (s : Slt) (ok : s.Ok) (h : St W w I F) :
    Calls Tryd.prog 23 #[s.val] w fun e w' => e = .returned (.bool (bootS s)) ∧ St W w' I F := by
  have h0 := h.alloc (.cells s.cells 26)
  obtain ⟨b, hb⟩ : ∃ b, w.heap.size = b := ⟨_, rfl⟩
  rw [hb] at h0
  have kR := fun (v : World) (F : List (Nat × Obj)) (hv : St W v I F) => slot_right s ok hv
  have hr := bootS.eq_1 s
  generalize rightS s = R at *
  have HMI := Lib.hid (slot_info ok.dig)
  have H0 := Lib.hid h0; have KR := Lib.hid kR; have HR := Lib.hid hr
  clear h0 h kR ok hr
  unfold Slt.val at KR ⊢
  cases R with
  | false =>
    have hB : bootS s = false := by rw [HR.out]; rfl
    have HB := Lib.hid hB
    clear hB HR
    go_enter Tryd.func23, Tryd.ntmps23
    go_wp2_with (with_reducible refine wpList_load_st rfl 26 (.tmp 1) rfl (g := b) (off := 0) rfl H0.out (cs := s.cells) (t := 26) (fr := (0, 0)) (by simp) s.cells (fun j hj => by rw [Nat.zero_add]) _ Tryd.underlying26 rfl HMI.out ?_)
    refine (KR.out _ _ H0.out).mono ?_
    rintro e w2 ⟨rfl, h2⟩
    have H2 := Lib.hid h2
    clear h2 H0 KR hb
    go_wp2_with fail
    go_ret
    exact ⟨by rw [HB.out]; first | rfl | (simp; omega) | simp, St.weaken (A := [_]) H2.out⟩
  | true =>
    by_cases k3 : s.st = 3
    · have S3 := Lib.hid k3
      clear k3
      have hB : bootS s = true := by rw [HR.out]; simp [S3.out]
      have HB := Lib.hid hB
      clear hB HR 
      go_enter Tryd.func23, Tryd.ntmps23
      go_wp2_with (with_reducible refine wpList_load_st rfl 26 (.tmp 1) rfl (g := b) (off := 0) rfl H0.out (cs := s.cells) (t := 26) (fr := (0, 0)) (by simp) s.cells (fun j hj => by rw [Nat.zero_add]) _ Tryd.underlying26 rfl HMI.out ?_)
      refine (KR.out _ _ H0.out).mono ?_
      rintro e w2 ⟨rfl, h2⟩
      have c0 := h2.slt.1
      have c1 := h2.slt.2.1
      rw [S3.out] at c0
      have H2 := Lib.hid h2
      clear h2 H0 KR hb
      go_wp2_with fail
      go_ret
      exact ⟨by rw [HB.out]; first | rfl | (simp; omega) | simp, St.weaken (A := [_]) H2.out⟩
    · have j3 : (s.st == 3) = false := beq_eq_false_iff_ne.2 k3
      by_cases k2 : s.st = 2
      · have S2 := Lib.hid k2
        clear k2 k3 j3
        by_cases t0 : 0 < s.tr
        · have hB : bootS s = true := by rw [HR.out]; simp [S2.out, t0]
          have HB := Lib.hid hB
          clear hB HR 
          go_enter Tryd.func23, Tryd.ntmps23
          go_wp2_with (with_reducible refine wpList_load_st rfl 26 (.tmp 1) rfl (g := b) (off := 0) rfl H0.out (cs := s.cells) (t := 26) (fr := (0, 0)) (by simp) s.cells (fun j hj => by rw [Nat.zero_add]) _ Tryd.underlying26 rfl HMI.out ?_)
          refine (KR.out _ _ H0.out).mono ?_
          rintro e w2 ⟨rfl, h2⟩
          have c0 := h2.slt.1
          have c1 := h2.slt.2.1
          rw [S2.out] at c0
          have H2 := Lib.hid h2
          clear h2 H0 KR hb
          go_wp2_with fail
          go_ret
          exact ⟨by rw [HB.out]; first | rfl | (simp; omega) | simp, St.weaken (A := [_]) H2.out⟩
        · have hB : bootS s = false := by rw [HR.out]; simp [S2.out, t0]
          have HB := Lib.hid hB
          clear hB HR 
          go_enter Tryd.func23, Tryd.ntmps23
          go_wp2_with (with_reducible refine wpList_load_st rfl 26 (.tmp 1) rfl (g := b) (off := 0) rfl H0.out (cs := s.cells) (t := 26) (fr := (0, 0)) (by simp) s.cells (fun j hj => by rw [Nat.zero_add]) _ Tryd.underlying26 rfl HMI.out ?_)
          refine (KR.out _ _ H0.out).mono ?_
          rintro e w2 ⟨rfl, h2⟩
          have c0 := h2.slt.1
          have c1 := h2.slt.2.1
          rw [S2.out] at c0
          have H2 := Lib.hid h2
          clear h2 H0 KR hb
          go_wp2_with fail
          go_ret
          exact ⟨by rw [HB.out]; first | rfl | (simp; omega) | simp, St.weaken (A := [_]) H2.out⟩
      · have j2 : (s.st == 2) = false := beq_eq_false_iff_ne.2 k2
        have hB : bootS s = false := by rw [HR.out]; simp [j3, j2]
        have HB := Lib.hid hB
        clear hB HR k2 k3
        go_enter Tryd.func23, Tryd.ntmps23
        go_wp2_with (with_reducible refine wpList_load_st rfl 26 (.tmp 1) rfl (g := b) (off := 0) rfl H0.out (cs := s.cells) (t := 26) (fr := (0, 0)) (by simp) s.cells (fun j hj => by rw [Nat.zero_add]) _ Tryd.underlying26 rfl HMI.out ?_)
        refine (KR.out _ _ H0.out).mono ?_
        rintro e w2 ⟨rfl, h2⟩
        have c0 := h2.slt.1
        have c1 := h2.slt.2.1

        have H2 := Lib.hid h2
        clear h2 H0 KR hb
        go_wp2_with fail
        go_ret
        exact ⟨by rw [HB.out]; first | rfl | (simp; omega) | simp, St.weaken (A := [_]) H2.out⟩
set_option maxRecDepth 100000 in
set_option maxHeartbeats 4000000 in
theorem ref_boot (s : Slt) (ok : s.Ok) (h : St W w I F) :
    Calls Tryd.prog 29 #[s.val] w fun e w' => e = .returned (.bool (bootS s)) ∧ St W w' I F := by
  have h0 := h.alloc (.cells s.cells 26)
  obtain ⟨b, hb⟩ : ∃ b, w.heap.size = b := ⟨_, rfl⟩
  rw [hb] at h0
  have kR := fun (v : World) (F : List (Nat × Obj)) (hv : St W v I F) => ref_right s ok hv
  have hr := bootS.eq_1 s
  generalize rightS s = R at *
  have HMI := Lib.hid (slot_info ok.dig)
  have H0 := Lib.hid h0; have KR := Lib.hid kR; have HR := Lib.hid hr
  clear h0 h kR ok hr
  unfold Slt.val at KR ⊢
  cases R with
  | false =>
    have hB : bootS s = false := by rw [HR.out]; rfl
    have HB := Lib.hid hB
    clear hB HR
    go_enter Tryd.func29, Tryd.ntmps29
    go_wp2_with (with_reducible refine wpList_load_st rfl 26 (.tmp 1) rfl (g := b) (off := 0) rfl H0.out (cs := s.cells) (t := 26) (fr := (0, 0)) (by simp) s.cells (fun j hj => by rw [Nat.zero_add]) _ Tryd.underlying26 rfl HMI.out ?_)
    refine (KR.out _ _ H0.out).mono ?_
    rintro e w2 ⟨rfl, h2⟩
    have H2 := Lib.hid h2
    clear h2 H0 KR hb
    go_wp2_with fail
    go_ret
    exact ⟨by rw [HB.out]; first | rfl | (simp; omega) | simp, St.weaken (A := [_]) H2.out⟩
  | true =>
    by_cases k3 : s.st = 3
    · have S3 := Lib.hid k3
      clear k3
      have hB : bootS s = true := by rw [HR.out]; simp [S3.out]
      have HB := Lib.hid hB
      clear hB HR 
      go_enter Tryd.func29, Tryd.ntmps29
      go_wp2_with (with_reducible refine wpList_load_st rfl 26 (.tmp 1) rfl (g := b) (off := 0) rfl H0.out (cs := s.cells) (t := 26) (fr := (0, 0)) (by simp) s.cells (fun j hj => by rw [Nat.zero_add]) _ Tryd.underlying26 rfl HMI.out ?_)
      refine (KR.out _ _ H0.out).mono ?_
      rintro e w2 ⟨rfl, h2⟩
      have c0 := h2.slt.1
      have c1 := h2.slt.2.1
      rw [S3.out] at c0
      have H2 := Lib.hid h2
      clear h2 H0 KR hb
      go_wp2_with fail
      go_ret
      exact ⟨by rw [HB.out]; first | rfl | (simp; omega) | simp, St.weaken (A := [_]) H2.out⟩
    · have j3 : (s.st == 3) = false := beq_eq_false_iff_ne.2 k3
      by_cases k2 : s.st = 2
      · have S2 := Lib.hid k2
        clear k2 k3 j3
        by_cases t0 : 0 < s.tr
        · have hB : bootS s = true := by rw [HR.out]; simp [S2.out, t0]
          have HB := Lib.hid hB
          clear hB HR 
          go_enter Tryd.func29, Tryd.ntmps29
          go_wp2_with (with_reducible refine wpList_load_st rfl 26 (.tmp 1) rfl (g := b) (off := 0) rfl H0.out (cs := s.cells) (t := 26) (fr := (0, 0)) (by simp) s.cells (fun j hj => by rw [Nat.zero_add]) _ Tryd.underlying26 rfl HMI.out ?_)
          refine (KR.out _ _ H0.out).mono ?_
          rintro e w2 ⟨rfl, h2⟩
          have c0 := h2.slt.1
          have c1 := h2.slt.2.1
          rw [S2.out] at c0
          have H2 := Lib.hid h2
          clear h2 H0 KR hb
          go_wp2_with fail
          go_ret
          exact ⟨by rw [HB.out]; first | rfl | (simp; omega) | simp, St.weaken (A := [_]) H2.out⟩
        · have hB : bootS s = false := by rw [HR.out]; simp [S2.out, t0]
          have HB := Lib.hid hB
          clear hB HR 
          go_enter Tryd.func29, Tryd.ntmps29
          go_wp2_with (with_reducible refine wpList_load_st rfl 26 (.tmp 1) rfl (g := b) (off := 0) rfl H0.out (cs := s.cells) (t := 26) (fr := (0, 0)) (by simp) s.cells (fun j hj => by rw [Nat.zero_add]) _ Tryd.underlying26 rfl HMI.out ?_)
          refine (KR.out _ _ H0.out).mono ?_
          rintro e w2 ⟨rfl, h2⟩
          have c0 := h2.slt.1
          have c1 := h2.slt.2.1
          rw [S2.out] at c0
          have H2 := Lib.hid h2
          clear h2 H0 KR hb
          go_wp2_with fail
          go_ret
          exact ⟨by rw [HB.out]; first | rfl | (simp; omega) | simp, St.weaken (A := [_]) H2.out⟩
      · have j2 : (s.st == 2) = false := beq_eq_false_iff_ne.2 k2
        have hB : bootS s = false := by rw [HR.out]; simp [j3, j2]
        have HB := Lib.hid hB
        clear hB HR k2 k3
        go_enter Tryd.func29, Tryd.ntmps29
        go_wp2_with (with_reducible refine wpList_load_st rfl 26 (.tmp 1) rfl (g := b) (off := 0) rfl H0.out (cs := s.cells) (t := 26) (fr := (0, 0)) (by simp) s.cells (fun j hj => by rw [Nat.zero_add]) _ Tryd.underlying26 rfl HMI.out ?_)
        refine (KR.out _ _ H0.out).mono ?_
        rintro e w2 ⟨rfl, h2⟩
        have c0 := h2.slt.1
        have c1 := h2.slt.2.1

        have H2 := Lib.hid h2
        clear h2 H0 KR hb
        go_wp2_with fail
        go_ret
        exact ⟨by rw [HB.out]; first | rfl | (simp; omega) | simp, St.weaken (A := [_]) H2.out⟩
set_option maxRecDepth 100000 in
set_option maxHeartbeats 4000000 in
theorem slot_ready (ver sz tr : Int) (ds : List UInt8) (ok : (⟨2, tr, ver, sz, ds⟩ : Slt).Ok) (h : St W w I F) :
    Calls Tryd.prog 15 #[.int .u64 ver, .int .i64 sz, .agg (bcells ds), .int .i64 tr] w (SPost W I F (chkS ⟨2, tr, ver, sz, ds⟩)) := by
  have h0 := (h.alloc (.cells (bcells ds) 24)).alloc (.cells zS.cells 26)
  rw [World.size_alloc] at h0
  rw [show zS.cells = #[.int .i64 0, .int .i64 0, .int .u64 0, .int .i64 0, .int .u8 0, .int .u8 0, .int .u8 0, .int .u8 0, .int .u8 0, .int .u8 0, .int .u8 0, .int .u8 0, .int .u8 0, .int .u8 0, .int .u8 0, .int .u8 0, .int .u8 0, .int .u8 0, .int .u8 0, .int .u8 0, .int .u8 0, .int .u8 0, .int .u8 0, .int .u8 0, .int .u8 0, .int .u8 0, .int .u8 0, .int .u8 0, .int .u8 0, .int .u8 0, .int .u8 0, .int .u8 0, .int .u8 0, .int .u8 0, .int .u8 0, .int .u8 0] from bare_lit 0 ▸ rfl] at h0
  obtain ⟨b, hb⟩ : ∃ b, w.heap.size = b := ⟨_, rfl⟩
  rw [hb] at h0
  have hds : ds.length = 32 := ok.dig
  have hbu := fun w => run_build_slot5 2 tr ver sz ds hds w
  have hmd : (Tryd.prog.info? 24).map (·.size) = some (bcells ds).size := by rw [bcells_size, hds]; kernel_rfl
  have hg : ∀ j, j < (bcells ds).size → (bcells ds)[0 + j]? = (bcells ds)[j]? := fun j hj => by rw [Nat.zero_add]
  obtain ⟨s, hs⟩ : ∃ s : Slt, ⟨2, tr, ver, sz, ds⟩ = s := ⟨_, rfl⟩
  rw [hs] at ok
  simp only [hs] at hbu ⊢
  have kC := fun (v : World) (F : List (Nat × Obj)) (hv : St W v I F) => slot_checked s ok hv
  have hd' : (chkS s).1.dig.length = 32 := by
    unfold chkS
    split
    · exact ok.dig
    · exact zeros_len
  obtain ⟨r, hr⟩ : ∃ r, chkS s = r := ⟨_, rfl⟩
  rw [hr] at hd' ⊢
  simp only [hr] at kC
  obtain ⟨t, n⟩ := r
  simp only at hd'
  have HBU := Lib.hid hbu; have HMD := Lib.hid hmd; have HG := Lib.hid hg; have H0 := Lib.hid h0; have KC := Lib.hid kC
  have HD := Lib.hid hd'
  clear hbu hmd hg h0 h hs hr kC hd'
  unfold Slt.val at KC
  go_enter Tryd.func15, Tryd.ntmps15
  go_wp2_with (first
    | (with_reducible refine wpList_load_st rfl 24 (.tmp 6) rfl (g := b) (off := 0) rfl H0.out (cs := bcells ds) (t := 24) (fr := (0, 0)) (by simp) (bcells ds) HG.out _ Tryd.underlying24 rfl HMD.out ?_)
    | (with_reducible refine wpList_build_st rfl 26 _ rfl _ ?_ (HBU.out _) ?_; · go_simp))
  refine (KC.out _ _ H0.out).mono ?_
  rintro e w2 ⟨rfl, h2⟩
  have H2 := Lib.hid h2
  clear h2 H0 KC hb HG HMD HBU
  obtain ⟨hfit, hsm⟩ := slot_fit (s := zS) (t := t) zeros_len HD.out
  have hone := Slt.one t
  have hix := slot_info (s := t) HD.out
  rw [show zS.cells = #[.int .i64 0, .int .i64 0, .int .u64 0, .int .i64 0, .int .u8 0, .int .u8 0, .int .u8 0, .int .u8 0, .int .u8 0, .int .u8 0, .int .u8 0, .int .u8 0, .int .u8 0, .int .u8 0, .int .u8 0, .int .u8 0, .int .u8 0, .int .u8 0, .int .u8 0, .int .u8 0, .int .u8 0, .int .u8 0, .int .u8 0, .int .u8 0, .int .u8 0, .int .u8 0, .int .u8 0, .int .u8 0, .int .u8 0, .int .u8 0, .int .u8 0, .int .u8 0, .int .u8 0, .int .u8 0, .int .u8 0, .int .u8 0] from bare_lit 0 ▸ rfl] at hfit hsm
  have HFIT := Lib.hid hfit; have HSM := Lib.hid hsm; have HIX := Lib.hid hix; have HONE := Lib.hid hone
  clear hfit hsm hone hix
  dsimp only
  go_wp2_with (with_reducible refine wpList_store_st rfl 26 (.tmp 8) (.tmp 16) rfl (g := b + 1) (off := 0) t.cells rfl rfl H2.out HFIT.out HIX.out HONE.out ?_; intro w9 h9; refine Hid.out ?_)
  refine Lib.hid ?_
  rw [HSM.out] at h9
  go_wp2_with fail
  refine bodyPost_ret (slot_ret (t := t) (F := F) h9 HD.out rfl rfl rfl) rfl ?_
  exact ⟨rfl, St.weaken (A := [_, _]) h9⟩
end
end Go.Proofs.YtpjfmgifddoppaaDoor
