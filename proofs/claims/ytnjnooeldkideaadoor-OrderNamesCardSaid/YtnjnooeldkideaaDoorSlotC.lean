/- slot: what a slot becomes: walks. -/
import Derived.Test.YtnjnooeldkideaaDoorMSlotA
namespace Go.Proofs.YtnjnooeldkideaaDoor
set_option linter.unusedVariables false
set_option linter.unusedSimpArgs false
open Go.RowKit Go.Lib
theorem Slt.set0 (s : Slt) (x : Int) : s.cells.setIfInBounds 0 (.int .i64 x) = ({ s with st := x } : Slt).cells := by
 unfold Slt.cells
 simp
theorem Slt.set1 (s : Slt) (x : Int) : s.cells.setIfInBounds 1 (.int .i64 x) = ({ s with tr := x } : Slt).cells := by
 unfold Slt.cells
 simp
theorem slot_fit {s t : Slt} (hs : s.dig.length = 32) (ht : t.dig.length = 32) : 0 + t.cells.size ≤ s.cells.size ∧ setMany s.cells 0 t.cells.toList = t.cells := by
 refine ⟨by rw [Slt.size hs, Slt.size ht]; omega, ?_⟩
 rw [setMany_whole _ _ (by rw [Array.length_toList, Slt.size hs, Slt.size ht]), Array.toArray_toList]
theorem rightS_try (s : Slt) (h : rightS s = true) (h2 : s.st = 2) : 0 ≤ s.tr ∧ s.tr ≤ 7 := by
 unfold rightS at h
 rw [h2] at h
 simp at h
 omega
theorem slot_ret {fn : Func} {p q : Tmp} {w : World} {I : Nat → Option Obj} {L F : List (Nat × Obj)} {W : World} {g : Nat} {t : Slt} {e : Int} {tmps : Array Value} (hst : St W w I ((g, .cells t.cells 29 (0, 0)) :: L)) (ht : t.dig.length = 32)
  (h : fn.results = #[.cell p 29, .tmp q]) (hp : tmps.getD p undef = .pointer (some ⟨g, 0, none⟩)) (hq : tmps.getD q undef = .int .i64 e) :
  (results fn tmps).run Tryd.prog w = .ok (.tuple #[.agg t.cells, .int .i64 e]) w :=
 results_row_tmp h _ w g 29 t.cells (0, 0) _ _ hp hq (hst.own (g, .cells t.cells 29 (0, 0)) (by simp)) Tryd.underlying29 (by kernel_rfl) (slot_info ht)
section
variable {W w : World} {I : Nat → Option Obj} {F : List (Nat × Obj)}
def SPost (W : World) (I : Nat → Option Obj) (F : List (Nat × Obj)) (r : Slt × Int) (e : Ending) (w' : World) : Prop := e = .returned (.tuple #[.agg r.1.cells, .int .i64 r.2]) ∧ St W w' I F
set_option maxRecDepth 100000 in
set_option maxHeartbeats 4000000 in
theorem slot_full (s : Slt) (ok : s.Ok) (h : St W w I F) :
  Calls Tryd.prog 93 #[s.val] w fun e w' => e = .returned (.bool (fullS s)) ∧ St W w' I F := by
 have h0 := h.alloc (.cells s.cells 29)
 obtain ⟨b, hb⟩ : ∃ b, w.heap.size = b := ⟨_, rfl⟩
 rw [hb] at h0
 obtain ⟨c0, c1, c2, c3⟩ := h0.slt
 clear c1 c2 c3
 unfold Slt.val fullS
 obtain ⟨q1, q2, q3, q4, q5, q6, q7, q8, q9⟩ := ok
 clear q1
 generalize s.cells = C at *
 generalize s.st = st at *
 have H0 := Lib.hid h0
 clear h0 h q4 q5 q6 q7 q8 q9
 by_cases k : st = 2
 ·subst k
  go_enter Tryd.func93, Tryd.ntmps93
  go_wp2_with fail
  go_ret
  exact ⟨rfl, St.weaken (A := [_]) H0.out⟩
 ·have k2 : (st == 2) = false := beq_eq_false_iff_ne.2 k
  go_enter Tryd.func93, Tryd.ntmps93
  go_wp2_with fail
  go_ret
  exact ⟨by rw [k2]; rfl, St.weaken (A := [_]) H0.out⟩
set_option maxRecDepth 100000 in
set_option maxHeartbeats 4000000 in
theorem slot_try (s : Slt) (ok : s.Ok) (h : St W w I F) :
  Calls Tryd.prog 95 #[s.val] w (SPost W I F (tryS s)) := by
 have h0 := (h.alloc (.cells s.cells 29)).alloc (.cells zS.cells 29)
 rw [World.size_alloc] at h0
 rw [show zS.cells = #[.int .i64 0, .int .i64 0, .int .u64 0, .int .i64 0, .int .u8 0, .int .u8 0, .int .u8 0, .int .u8 0, .int .u8 0, .int .u8 0, .int .u8 0, .int .u8 0, .int .u8 0, .int .u8 0, .int .u8 0, .int .u8 0, .int .u8 0, .int .u8 0, .int .u8 0, .int .u8 0, .int .u8 0, .int .u8 0, .int .u8 0, .int .u8 0, .int .u8 0, .int .u8 0, .int .u8 0, .int .u8 0, .int .u8 0, .int .u8 0, .int .u8 0, .int .u8 0, .int .u8 0, .int .u8 0, .int .u8 0, .int .u8 0] from bare_lit 0 ▸ rfl] at h0
 obtain ⟨b, hb⟩ : ∃ b, w.heap.size = b := ⟨_, rfl⟩
 rw [hb] at h0
 have kR := fun (v : World) (F : List (Nat × Obj)) (hv : St W v I F) => slot_right s ok hv
 cases hR : rightS s with
 | false =>
  have hv : tryS s = (zS, 101) := by rw [tryS, hR]; rfl
  rw [hR] at kR
  have HV := Lib.hid hv
  have HMI := Lib.hid (slot_info ok.dig)
  have H0 := Lib.hid h0; have KR := Lib.hid kR; have OK := Lib.hid ok
  clear h0 h kR ok hv
  unfold Slt.val at KR ⊢
  clear hR
  go_enter Tryd.func95, Tryd.ntmps95
  go_wp2_with (with_reducible refine wpList_load_st rfl 29 (.tmp 1) rfl (g := b) (off := 0) rfl H0.out (cs := s.cells) (t := 29) (fr := (0, 0)) (by simp) s.cells (fun j hj => by rw [Nat.zero_add]) _ Tryd.underlying29 rfl HMI.out ?_)
  refine (KR.out _ _ H0.out).mono ?_
  rintro e w2 ⟨rfl, h2⟩
  have H2 := Lib.hid h2
  clear h2 H0 KR hb
  obtain ⟨hfit, hsm⟩ := slot_fit (s := zS) (t := zS) zeros_len zeros_len
  have hix := slot_info (s := zS) zeros_len
  have hone := Slt.one zS
  have hzl : zS.cells = #[.int .i64 0, .int .i64 0, .int .u64 0, .int .i64 0, .int .u8 0, .int .u8 0, .int .u8 0, .int .u8 0, .int .u8 0, .int .u8 0, .int .u8 0, .int .u8 0, .int .u8 0, .int .u8 0, .int .u8 0, .int .u8 0, .int .u8 0, .int .u8 0, .int .u8 0, .int .u8 0, .int .u8 0, .int .u8 0, .int .u8 0, .int .u8 0, .int .u8 0, .int .u8 0, .int .u8 0, .int .u8 0, .int .u8 0, .int .u8 0, .int .u8 0, .int .u8 0, .int .u8 0, .int .u8 0, .int .u8 0, .int .u8 0] := bare_lit 0 ▸ rfl
  rw [hzl] at hfit hsm hix hone
  have HFIT := Lib.hid hfit; have HSM := Lib.hid hsm; have HIX := Lib.hid hix; have HONE := Lib.hid hone; have HZL := Lib.hid hzl
  clear hfit hsm hix hone hzl
  go_wp2_with (with_reducible refine wpList_store_st rfl 29 (.tmp 2) (.tmp 17) rfl (g := b + 1) (off := 0) #[.int .i64 0, .int .i64 0, .int .u64 0, .int .i64 0, .int .u8 0, .int .u8 0, .int .u8 0, .int .u8 0, .int .u8 0, .int .u8 0, .int .u8 0, .int .u8 0, .int .u8 0, .int .u8 0, .int .u8 0, .int .u8 0, .int .u8 0, .int .u8 0, .int .u8 0, .int .u8 0, .int .u8 0, .int .u8 0, .int .u8 0, .int .u8 0, .int .u8 0, .int .u8 0, .int .u8 0, .int .u8 0, .int .u8 0, .int .u8 0, .int .u8 0, .int .u8 0, .int .u8 0, .int .u8 0, .int .u8 0, .int .u8 0] rfl rfl H2.out HFIT.out HIX.out HONE.out ?_; intro w9 h9; refine Hid.out ?_)
  refine Lib.hid ?_
  rw [HSM.out, ← HZL.out] at h9
  go_wp2_with fail
  refine bodyPost_ret (slot_ret (F := F) h9 zeros_len rfl rfl rfl) rfl ?_
  exact ⟨by rw [HV.out], St.weaken (A := [_, _]) h9⟩
 | true =>
  by_cases k2 : s.st = 2
  ·obtain ⟨t0, t7⟩ := rightS_try s hR k2
   by_cases k0 : s.tr = 0
   ·have hv : tryS s = (zS, 101) := by rw [tryS, hR, k2, k0]; rfl
    rw [hR] at kR
    have HV := Lib.hid hv
    have HMI := Lib.hid (slot_info ok.dig)
    have H0 := Lib.hid h0; have KR := Lib.hid kR; have OK := Lib.hid ok
    clear h0 h kR ok hv
    unfold Slt.val at KR ⊢
    have S2 := Lib.hid k2; have S0 := Lib.hid k0
    clear hR k2 k0 t0 t7
    go_enter Tryd.func95, Tryd.ntmps95
    go_wp2_with (with_reducible refine wpList_load_st rfl 29 (.tmp 1) rfl (g := b) (off := 0) rfl H0.out (cs := s.cells) (t := 29) (fr := (0, 0)) (by simp) s.cells (fun j hj => by rw [Nat.zero_add]) _ Tryd.underlying29 rfl HMI.out ?_)
    refine (KR.out _ _ H0.out).mono ?_
    rintro e w2 ⟨rfl, h2⟩
    have H2 := Lib.hid h2
    clear h2 H0 KR hb
    have c0 := H2.out.cell (g := b) (cs := s.cells) (t := 29) (fr := (0, 0)) (by simp) 0
    have c1 := H2.out.cell (g := b) (cs := s.cells) (t := 29) (fr := (0, 0)) (by simp) 1
    have c2 := H2.out.cell (g := b) (cs := s.cells) (t := 29) (fr := (0, 0)) (by simp) 2
    have c3 := H2.out.cell (g := b) (cs := s.cells) (t := 29) (fr := (0, 0)) (by simp) 3
    rw [Slt.at0] at c0
    rw [Slt.at1] at c1
    rw [Slt.at2] at c2
    rw [Slt.at3] at c3
    have f0 := H2.out.frozen (g := b) (cs := s.cells) (t := 29) (by simp) 0
    have f1 := H2.out.frozen (g := b) (cs := s.cells) (t := 29) (by simp) 1
    rw [S2.out] at c0
    rw [S0.out] at c1
    obtain ⟨hfit, hsm⟩ := slot_fit (s := zS) (t := zS) zeros_len zeros_len
    have hix := slot_info (s := zS) zeros_len
    have hone := Slt.one zS
    have hzl : zS.cells = #[.int .i64 0, .int .i64 0, .int .u64 0, .int .i64 0, .int .u8 0, .int .u8 0, .int .u8 0, .int .u8 0, .int .u8 0, .int .u8 0, .int .u8 0, .int .u8 0, .int .u8 0, .int .u8 0, .int .u8 0, .int .u8 0, .int .u8 0, .int .u8 0, .int .u8 0, .int .u8 0, .int .u8 0, .int .u8 0, .int .u8 0, .int .u8 0, .int .u8 0, .int .u8 0, .int .u8 0, .int .u8 0, .int .u8 0, .int .u8 0, .int .u8 0, .int .u8 0, .int .u8 0, .int .u8 0, .int .u8 0, .int .u8 0] := bare_lit 0 ▸ rfl
    rw [hzl] at hfit hsm hix hone
    have HFIT := Lib.hid hfit; have HSM := Lib.hid hsm; have HIX := Lib.hid hix; have HONE := Lib.hid hone; have HZL := Lib.hid hzl
    clear hfit hsm hix hone hzl
    go_wp2_with (with_reducible refine wpList_store_st rfl 29 (.tmp 2) (.tmp 17) rfl (g := b + 1) (off := 0) #[.int .i64 0, .int .i64 0, .int .u64 0, .int .i64 0, .int .u8 0, .int .u8 0, .int .u8 0, .int .u8 0, .int .u8 0, .int .u8 0, .int .u8 0, .int .u8 0, .int .u8 0, .int .u8 0, .int .u8 0, .int .u8 0, .int .u8 0, .int .u8 0, .int .u8 0, .int .u8 0, .int .u8 0, .int .u8 0, .int .u8 0, .int .u8 0, .int .u8 0, .int .u8 0, .int .u8 0, .int .u8 0, .int .u8 0, .int .u8 0, .int .u8 0, .int .u8 0, .int .u8 0, .int .u8 0, .int .u8 0, .int .u8 0] rfl rfl H2.out HFIT.out HIX.out HONE.out ?_; intro w9 h9; refine Hid.out ?_)
    refine Lib.hid ?_
    rw [HSM.out, ← HZL.out] at h9
    go_wp2_with fail
    refine bodyPost_ret (slot_ret (F := F) h9 zeros_len rfl rfl rfl) rfl ?_
    exact ⟨by rw [HV.out], St.weaken (A := [_, _]) h9⟩
   ·have hv : tryS s = ({ s with tr := s.tr - 1 }, 0) := by rw [tryS, hR, k2, beq_eq_false_iff_ne.2 k0]; rfl
    rw [hR] at kR
    have HV := Lib.hid hv
    have HMI := Lib.hid (slot_info ok.dig)
    have H0 := Lib.hid h0; have KR := Lib.hid kR; have OK := Lib.hid ok
    clear h0 h kR ok hv
    unfold Slt.val at KR ⊢
    have S2 := Lib.hid k2
    have t1 : 1 ≤ s.tr := by omega
    have t3 : (s.tr == 0) = false := beq_eq_false_iff_ne.2 k0
    clear hR k2 k0 t0
    go_enter Tryd.func95, Tryd.ntmps95
    go_wp2_with (with_reducible refine wpList_load_st rfl 29 (.tmp 1) rfl (g := b) (off := 0) rfl H0.out (cs := s.cells) (t := 29) (fr := (0, 0)) (by simp) s.cells (fun j hj => by rw [Nat.zero_add]) _ Tryd.underlying29 rfl HMI.out ?_)
    refine (KR.out _ _ H0.out).mono ?_
    rintro e w2 ⟨rfl, h2⟩
    have H2 := Lib.hid h2
    clear h2 H0 KR hb
    have c0 := H2.out.cell (g := b) (cs := s.cells) (t := 29) (fr := (0, 0)) (by simp) 0
    have c1 := H2.out.cell (g := b) (cs := s.cells) (t := 29) (fr := (0, 0)) (by simp) 1
    have c2 := H2.out.cell (g := b) (cs := s.cells) (t := 29) (fr := (0, 0)) (by simp) 2
    have c3 := H2.out.cell (g := b) (cs := s.cells) (t := 29) (fr := (0, 0)) (by simp) 3
    rw [Slt.at0] at c0
    rw [Slt.at1] at c1
    rw [Slt.at2] at c2
    rw [Slt.at3] at c3
    have f0 := H2.out.frozen (g := b) (cs := s.cells) (t := 29) (by simp) 0
    have f1 := H2.out.frozen (g := b) (cs := s.cells) (t := 29) (by simp) 1
    rw [S2.out] at c0
    have h3 := St.set (A := [(b + 1, _)]) H2.out 1 (.int .i64 (s.tr - 1))
    rw [Slt.set1] at h3
    have H3 := Lib.hid h3
    clear h3 c2 c3
    obtain ⟨s', hs'⟩ : ∃ s' : Slt, { s with tr := s.tr - 1 } = s' := ⟨_, rfl⟩
    have hd' : s'.dig.length = 32 := by rw [← hs']; exact OK.out.dig
    rw [hs'] at HV H3
    clear hs'
    obtain ⟨hfit, hsm⟩ := slot_fit (s := zS) (t := s') zeros_len hd'
    have hone := Slt.one s'
    have hix := slot_info (s := s') hd'
    rw [show zS.cells = #[.int .i64 0, .int .i64 0, .int .u64 0, .int .i64 0, .int .u8 0, .int .u8 0, .int .u8 0, .int .u8 0, .int .u8 0, .int .u8 0, .int .u8 0, .int .u8 0, .int .u8 0, .int .u8 0, .int .u8 0, .int .u8 0, .int .u8 0, .int .u8 0, .int .u8 0, .int .u8 0, .int .u8 0, .int .u8 0, .int .u8 0, .int .u8 0, .int .u8 0, .int .u8 0, .int .u8 0, .int .u8 0, .int .u8 0, .int .u8 0, .int .u8 0, .int .u8 0, .int .u8 0, .int .u8 0, .int .u8 0, .int .u8 0] from bare_lit 0 ▸ rfl] at hfit hsm
    have HFIT := Lib.hid hfit; have HSM := Lib.hid hsm; have HIX := Lib.hid hix; have HONE := Lib.hid hone
    clear hfit hsm hone hix
    have HMI := HIX
    go_wp2_with (first | (with_reducible refine wpList_load_st rfl 29 (.tmp 1) rfl (g := b) (off := 0) rfl H3.out (cs := s'.cells) (t := 29) (fr := (0, 0)) (by simp) s'.cells (fun j hj => by rw [Nat.zero_add]) _ Tryd.underlying29 rfl HMI.out ?_) | (with_reducible refine wpList_store_st rfl 29 (.tmp 2) (.tmp 22) rfl (g := b + 1) (off := 0) s'.cells rfl rfl H3.out HFIT.out HIX.out HONE.out ?_; intro w9 h9; refine Hid.out ?_))
    refine Lib.hid ?_
    rw [HSM.out] at h9
    go_wp2_with fail
    refine bodyPost_ret (slot_ret (t := s') (F := F) h9 hd' rfl rfl rfl) rfl ?_
    exact ⟨by rw [HV.out], St.weaken (A := [_, _]) h9⟩
  ·have k3 : (s.st == 2) = false := beq_eq_false_iff_ne.2 k2
   have k4 : (s.st != 2) = true := by rw [bne, k3]; rfl
   have hv : tryS s = (zS, 101) := by rw [tryS, hR, k3]; rfl
   rw [hR] at kR
   have HV := Lib.hid hv
   have HMI := Lib.hid (slot_info ok.dig)
   have H0 := Lib.hid h0; have KR := Lib.hid kR; have OK := Lib.hid ok
   clear h0 h kR ok hv
   unfold Slt.val at KR ⊢
   clear hR k2
   go_enter Tryd.func95, Tryd.ntmps95
   go_wp2_with (with_reducible refine wpList_load_st rfl 29 (.tmp 1) rfl (g := b) (off := 0) rfl H0.out (cs := s.cells) (t := 29) (fr := (0, 0)) (by simp) s.cells (fun j hj => by rw [Nat.zero_add]) _ Tryd.underlying29 rfl HMI.out ?_)
   refine (KR.out _ _ H0.out).mono ?_
   rintro e w2 ⟨rfl, h2⟩
   have H2 := Lib.hid h2
   clear h2 H0 KR hb
   have c0 := H2.out.cell (g := b) (cs := s.cells) (t := 29) (fr := (0, 0)) (by simp) 0
   have c1 := H2.out.cell (g := b) (cs := s.cells) (t := 29) (fr := (0, 0)) (by simp) 1
   have c2 := H2.out.cell (g := b) (cs := s.cells) (t := 29) (fr := (0, 0)) (by simp) 2
   have c3 := H2.out.cell (g := b) (cs := s.cells) (t := 29) (fr := (0, 0)) (by simp) 3
   rw [Slt.at0] at c0
   rw [Slt.at1] at c1
   rw [Slt.at2] at c2
   rw [Slt.at3] at c3
   have f0 := H2.out.frozen (g := b) (cs := s.cells) (t := 29) (by simp) 0
   have f1 := H2.out.frozen (g := b) (cs := s.cells) (t := 29) (by simp) 1
   obtain ⟨hfit, hsm⟩ := slot_fit (s := zS) (t := zS) zeros_len zeros_len
   have hix := slot_info (s := zS) zeros_len
   have hone := Slt.one zS
   have hzl : zS.cells = #[.int .i64 0, .int .i64 0, .int .u64 0, .int .i64 0, .int .u8 0, .int .u8 0, .int .u8 0, .int .u8 0, .int .u8 0, .int .u8 0, .int .u8 0, .int .u8 0, .int .u8 0, .int .u8 0, .int .u8 0, .int .u8 0, .int .u8 0, .int .u8 0, .int .u8 0, .int .u8 0, .int .u8 0, .int .u8 0, .int .u8 0, .int .u8 0, .int .u8 0, .int .u8 0, .int .u8 0, .int .u8 0, .int .u8 0, .int .u8 0, .int .u8 0, .int .u8 0, .int .u8 0, .int .u8 0, .int .u8 0, .int .u8 0] := bare_lit 0 ▸ rfl
   rw [hzl] at hfit hsm hix hone
   have HFIT := Lib.hid hfit; have HSM := Lib.hid hsm; have HIX := Lib.hid hix; have HONE := Lib.hid hone; have HZL := Lib.hid hzl
   clear hfit hsm hix hone hzl
   go_wp2_with (with_reducible refine wpList_store_st rfl 29 (.tmp 2) (.tmp 17) rfl (g := b + 1) (off := 0) #[.int .i64 0, .int .i64 0, .int .u64 0, .int .i64 0, .int .u8 0, .int .u8 0, .int .u8 0, .int .u8 0, .int .u8 0, .int .u8 0, .int .u8 0, .int .u8 0, .int .u8 0, .int .u8 0, .int .u8 0, .int .u8 0, .int .u8 0, .int .u8 0, .int .u8 0, .int .u8 0, .int .u8 0, .int .u8 0, .int .u8 0, .int .u8 0, .int .u8 0, .int .u8 0, .int .u8 0, .int .u8 0, .int .u8 0, .int .u8 0, .int .u8 0, .int .u8 0, .int .u8 0, .int .u8 0, .int .u8 0, .int .u8 0] rfl rfl H2.out HFIT.out HIX.out HONE.out ?_; intro w9 h9; refine Hid.out ?_)
   refine Lib.hid ?_
   rw [HSM.out, ← HZL.out] at h9
   go_wp2_with fail
   refine bodyPost_ret (slot_ret (F := F) h9 zeros_len rfl rfl rfl) rfl ?_
   exact ⟨by rw [HV.out], St.weaken (A := [_, _]) h9⟩
set_option maxRecDepth 100000 in
set_option maxHeartbeats 4000000 in
theorem slot_good (s : Slt) (ok : s.Ok) (h : St W w I F) :
  Calls Tryd.prog 75 #[s.val] w (SPost W I F (goodS s)) := by
 have h0 := (h.alloc (.cells s.cells 29)).alloc (.cells zS.cells 29)
 rw [World.size_alloc] at h0
 rw [show zS.cells = #[.int .i64 0, .int .i64 0, .int .u64 0, .int .i64 0, .int .u8 0, .int .u8 0, .int .u8 0, .int .u8 0, .int .u8 0, .int .u8 0, .int .u8 0, .int .u8 0, .int .u8 0, .int .u8 0, .int .u8 0, .int .u8 0, .int .u8 0, .int .u8 0, .int .u8 0, .int .u8 0, .int .u8 0, .int .u8 0, .int .u8 0, .int .u8 0, .int .u8 0, .int .u8 0, .int .u8 0, .int .u8 0, .int .u8 0, .int .u8 0, .int .u8 0, .int .u8 0, .int .u8 0, .int .u8 0, .int .u8 0, .int .u8 0] from bare_lit 0 ▸ rfl] at h0
 obtain ⟨b, hb⟩ : ∃ b, w.heap.size = b := ⟨_, rfl⟩
 rw [hb] at h0
 have kR := fun (v : World) (F : List (Nat × Obj)) (hv : St W v I F) => slot_right s ok hv
 cases hR : rightS s with
 | false =>
  have hv : goodS s = (zS, 101) := by rw [goodS, hR]; rfl
  rw [hR] at kR
  have HV := Lib.hid hv
  have HMI := Lib.hid (slot_info ok.dig)
  have H0 := Lib.hid h0; have KR := Lib.hid kR; have OK := Lib.hid ok
  clear h0 h kR ok hv
  unfold Slt.val at KR ⊢
  clear hR
  go_enter Tryd.func75, Tryd.ntmps75
  go_wp2_with (with_reducible refine wpList_load_st rfl 29 (.tmp 1) rfl (g := b) (off := 0) rfl H0.out (cs := s.cells) (t := 29) (fr := (0, 0)) (by simp) s.cells (fun j hj => by rw [Nat.zero_add]) _ Tryd.underlying29 rfl HMI.out ?_)
  refine (KR.out _ _ H0.out).mono ?_
  rintro e w2 ⟨rfl, h2⟩
  have H2 := Lib.hid h2
  clear h2 H0 KR hb
  obtain ⟨hfit, hsm⟩ := slot_fit (s := zS) (t := zS) zeros_len zeros_len
  have hix := slot_info (s := zS) zeros_len
  have hone := Slt.one zS
  have hzl : zS.cells = #[.int .i64 0, .int .i64 0, .int .u64 0, .int .i64 0, .int .u8 0, .int .u8 0, .int .u8 0, .int .u8 0, .int .u8 0, .int .u8 0, .int .u8 0, .int .u8 0, .int .u8 0, .int .u8 0, .int .u8 0, .int .u8 0, .int .u8 0, .int .u8 0, .int .u8 0, .int .u8 0, .int .u8 0, .int .u8 0, .int .u8 0, .int .u8 0, .int .u8 0, .int .u8 0, .int .u8 0, .int .u8 0, .int .u8 0, .int .u8 0, .int .u8 0, .int .u8 0, .int .u8 0, .int .u8 0, .int .u8 0, .int .u8 0] := bare_lit 0 ▸ rfl
  rw [hzl] at hfit hsm hix hone
  have HFIT := Lib.hid hfit; have HSM := Lib.hid hsm; have HIX := Lib.hid hix; have HONE := Lib.hid hone; have HZL := Lib.hid hzl
  clear hfit hsm hix hone hzl
  go_wp2_with (with_reducible refine wpList_store_st rfl 29 (.tmp 2) (.tmp 12) rfl (g := b + 1) (off := 0) #[.int .i64 0, .int .i64 0, .int .u64 0, .int .i64 0, .int .u8 0, .int .u8 0, .int .u8 0, .int .u8 0, .int .u8 0, .int .u8 0, .int .u8 0, .int .u8 0, .int .u8 0, .int .u8 0, .int .u8 0, .int .u8 0, .int .u8 0, .int .u8 0, .int .u8 0, .int .u8 0, .int .u8 0, .int .u8 0, .int .u8 0, .int .u8 0, .int .u8 0, .int .u8 0, .int .u8 0, .int .u8 0, .int .u8 0, .int .u8 0, .int .u8 0, .int .u8 0, .int .u8 0, .int .u8 0, .int .u8 0, .int .u8 0] rfl rfl H2.out HFIT.out HIX.out HONE.out ?_; intro w9 h9; refine Hid.out ?_)
  refine Lib.hid ?_
  rw [HSM.out, ← HZL.out] at h9
  go_wp2_with fail
  refine bodyPost_ret (slot_ret (F := F) h9 zeros_len rfl rfl rfl) rfl ?_
  exact ⟨by rw [HV.out], St.weaken (A := [_, _]) h9⟩
 | true =>
  have kF := fun (v : World) (F : List (Nat × Obj)) (hv : St W v I F) => slot_full s ok hv
  cases hF : fullS s with
  | false =>
   have hv : goodS s = (zS, 101) := by rw [goodS, hR, hF]; rfl
   rw [hF] at kF
   rw [hR] at kR
   have HV := Lib.hid hv
   have HMI := Lib.hid (slot_info ok.dig)
   have H0 := Lib.hid h0; have KR := Lib.hid kR; have OK := Lib.hid ok
   have KF := Lib.hid kF
   clear kF
   unfold Slt.val at KF
   clear h0 h kR ok hv
   unfold Slt.val at KR ⊢
   clear hR hF
   go_enter Tryd.func75, Tryd.ntmps75
   go_wp2_with (with_reducible refine wpList_load_st rfl 29 (.tmp 1) rfl (g := b) (off := 0) rfl H0.out (cs := s.cells) (t := 29) (fr := (0, 0)) (by simp) s.cells (fun j hj => by rw [Nat.zero_add]) _ Tryd.underlying29 rfl HMI.out ?_)
   refine (KR.out _ _ H0.out).mono ?_
   rintro e w2 ⟨rfl, h2⟩
   have H2 := Lib.hid h2
   clear h2 H0 KR hb
   have c0 := H2.out.cell (g := b) (cs := s.cells) (t := 29) (fr := (0, 0)) (by simp) 0
   have c1 := H2.out.cell (g := b) (cs := s.cells) (t := 29) (fr := (0, 0)) (by simp) 1
   have c2 := H2.out.cell (g := b) (cs := s.cells) (t := 29) (fr := (0, 0)) (by simp) 2
   have c3 := H2.out.cell (g := b) (cs := s.cells) (t := 29) (fr := (0, 0)) (by simp) 3
   rw [Slt.at0] at c0
   rw [Slt.at1] at c1
   rw [Slt.at2] at c2
   rw [Slt.at3] at c3
   have f0 := H2.out.frozen (g := b) (cs := s.cells) (t := 29) (by simp) 0
   have f1 := H2.out.frozen (g := b) (cs := s.cells) (t := 29) (by simp) 1
   go_wp2_with (refine wpList_load_g (by rfl) 29 (.tmp 1) rfl (g := b) (off := 0) rfl H2.out (cs := s.cells) (t := 29) (fr := (0, 0)) (by simp) s.cells (fun j hj => by rw [Nat.zero_add]) _ Tryd.underlying29 rfl HMI.out ?_)
   refine (KF.out _ _ H2.out).mono ?_
   rintro e w3 ⟨rfl, h3⟩
   clear H2 c0 c1 c2 c3 f0 f1
   have H2 := Lib.hid h3
   clear h3 KF
   have c0 := H2.out.cell (g := b) (cs := s.cells) (t := 29) (fr := (0, 0)) (by simp) 0
   have c1 := H2.out.cell (g := b) (cs := s.cells) (t := 29) (fr := (0, 0)) (by simp) 1
   have c2 := H2.out.cell (g := b) (cs := s.cells) (t := 29) (fr := (0, 0)) (by simp) 2
   have c3 := H2.out.cell (g := b) (cs := s.cells) (t := 29) (fr := (0, 0)) (by simp) 3
   rw [Slt.at0] at c0
   rw [Slt.at1] at c1
   rw [Slt.at2] at c2
   rw [Slt.at3] at c3
   have f0 := H2.out.frozen (g := b) (cs := s.cells) (t := 29) (by simp) 0
   have f1 := H2.out.frozen (g := b) (cs := s.cells) (t := 29) (by simp) 1
   obtain ⟨hfit, hsm⟩ := slot_fit (s := zS) (t := zS) zeros_len zeros_len
   have hix := slot_info (s := zS) zeros_len
   have hone := Slt.one zS
   have hzl : zS.cells = #[.int .i64 0, .int .i64 0, .int .u64 0, .int .i64 0, .int .u8 0, .int .u8 0, .int .u8 0, .int .u8 0, .int .u8 0, .int .u8 0, .int .u8 0, .int .u8 0, .int .u8 0, .int .u8 0, .int .u8 0, .int .u8 0, .int .u8 0, .int .u8 0, .int .u8 0, .int .u8 0, .int .u8 0, .int .u8 0, .int .u8 0, .int .u8 0, .int .u8 0, .int .u8 0, .int .u8 0, .int .u8 0, .int .u8 0, .int .u8 0, .int .u8 0, .int .u8 0, .int .u8 0, .int .u8 0, .int .u8 0, .int .u8 0] := bare_lit 0 ▸ rfl
   rw [hzl] at hfit hsm hix hone
   have HFIT := Lib.hid hfit; have HSM := Lib.hid hsm; have HIX := Lib.hid hix; have HONE := Lib.hid hone; have HZL := Lib.hid hzl
   clear hfit hsm hix hone hzl
   go_wp2_with (with_reducible refine wpList_store_st rfl 29 (.tmp 2) (.tmp 12) rfl (g := b + 1) (off := 0) #[.int .i64 0, .int .i64 0, .int .u64 0, .int .i64 0, .int .u8 0, .int .u8 0, .int .u8 0, .int .u8 0, .int .u8 0, .int .u8 0, .int .u8 0, .int .u8 0, .int .u8 0, .int .u8 0, .int .u8 0, .int .u8 0, .int .u8 0, .int .u8 0, .int .u8 0, .int .u8 0, .int .u8 0, .int .u8 0, .int .u8 0, .int .u8 0, .int .u8 0, .int .u8 0, .int .u8 0, .int .u8 0, .int .u8 0, .int .u8 0, .int .u8 0, .int .u8 0, .int .u8 0, .int .u8 0, .int .u8 0, .int .u8 0] rfl rfl H2.out HFIT.out HIX.out HONE.out ?_; intro w9 h9; refine Hid.out ?_)
   refine Lib.hid ?_
   rw [HSM.out, ← HZL.out] at h9
   go_wp2_with fail
   refine bodyPost_ret (slot_ret (F := F) h9 zeros_len rfl rfl rfl) rfl ?_
   exact ⟨by rw [HV.out], St.weaken (A := [_, _]) h9⟩
  | true =>
   have hv : goodS s = ({ s with st := 3, tr := 0 }, 0) := by rw [goodS, hR, hF]; rfl
   rw [hF] at kF
   rw [hR] at kR
   have HV := Lib.hid hv
   have HMI := Lib.hid (slot_info ok.dig)
   have H0 := Lib.hid h0; have KR := Lib.hid kR; have OK := Lib.hid ok
   have KF := Lib.hid kF
   clear kF
   unfold Slt.val at KF
   clear h0 h kR ok hv
   unfold Slt.val at KR ⊢
   clear hR hF
   go_enter Tryd.func75, Tryd.ntmps75
   go_wp2_with (with_reducible refine wpList_load_st rfl 29 (.tmp 1) rfl (g := b) (off := 0) rfl H0.out (cs := s.cells) (t := 29) (fr := (0, 0)) (by simp) s.cells (fun j hj => by rw [Nat.zero_add]) _ Tryd.underlying29 rfl HMI.out ?_)
   refine (KR.out _ _ H0.out).mono ?_
   rintro e w2 ⟨rfl, h2⟩
   have H2 := Lib.hid h2
   clear h2 H0 KR hb
   have c0 := H2.out.cell (g := b) (cs := s.cells) (t := 29) (fr := (0, 0)) (by simp) 0
   have c1 := H2.out.cell (g := b) (cs := s.cells) (t := 29) (fr := (0, 0)) (by simp) 1
   have c2 := H2.out.cell (g := b) (cs := s.cells) (t := 29) (fr := (0, 0)) (by simp) 2
   have c3 := H2.out.cell (g := b) (cs := s.cells) (t := 29) (fr := (0, 0)) (by simp) 3
   rw [Slt.at0] at c0
   rw [Slt.at1] at c1
   rw [Slt.at2] at c2
   rw [Slt.at3] at c3
   have f0 := H2.out.frozen (g := b) (cs := s.cells) (t := 29) (by simp) 0
   have f1 := H2.out.frozen (g := b) (cs := s.cells) (t := 29) (by simp) 1
   go_wp2_with (refine wpList_load_g (by rfl) 29 (.tmp 1) rfl (g := b) (off := 0) rfl H2.out (cs := s.cells) (t := 29) (fr := (0, 0)) (by simp) s.cells (fun j hj => by rw [Nat.zero_add]) _ Tryd.underlying29 rfl HMI.out ?_)
   refine (KF.out _ _ H2.out).mono ?_
   rintro e w3 ⟨rfl, h3⟩
   clear H2 c0 c1 c2 c3 f0 f1
   have H2 := Lib.hid h3
   clear h3 KF
   have c0 := H2.out.cell (g := b) (cs := s.cells) (t := 29) (fr := (0, 0)) (by simp) 0
   have c1 := H2.out.cell (g := b) (cs := s.cells) (t := 29) (fr := (0, 0)) (by simp) 1
   have c2 := H2.out.cell (g := b) (cs := s.cells) (t := 29) (fr := (0, 0)) (by simp) 2
   have c3 := H2.out.cell (g := b) (cs := s.cells) (t := 29) (fr := (0, 0)) (by simp) 3
   rw [Slt.at0] at c0
   rw [Slt.at1] at c1
   rw [Slt.at2] at c2
   rw [Slt.at3] at c3
   have f0 := H2.out.frozen (g := b) (cs := s.cells) (t := 29) (by simp) 0
   have f1 := H2.out.frozen (g := b) (cs := s.cells) (t := 29) (by simp) 1
   have h3 := St.set (A := [(b + 1, _)]) H2.out 0 (.int .i64 3)
   rw [Slt.set0] at h3
   have g1 := St.set (A := [(b + 1, _)]) h3 1 (.int .i64 0)
   rw [Slt.set1] at g1
   have f2 := h3.frozen (g := b) (cs := ({ s with st := 3 } : Slt).cells) (t := 29) (by simp) 1
   have c5 := h3.cell (g := b) (cs := ({ s with st := 3 } : Slt).cells) (t := 29) (fr := (0, 0)) (by simp) 1
   rw [Slt.at1] at c5
   have H3 := Lib.hid g1
   clear h3 c2 c3 g1
   obtain ⟨s', hs'⟩ : ∃ s' : Slt, { s with st := 3, tr := 0 } = s' := ⟨_, rfl⟩
   have hd' : s'.dig.length = 32 := by rw [← hs']; exact OK.out.dig
   rw [hs'] at HV H3
   clear hs'
   obtain ⟨hfit, hsm⟩ := slot_fit (s := zS) (t := s') zeros_len hd'
   have hone := Slt.one s'
   have hix := slot_info (s := s') hd'
   rw [show zS.cells = #[.int .i64 0, .int .i64 0, .int .u64 0, .int .i64 0, .int .u8 0, .int .u8 0, .int .u8 0, .int .u8 0, .int .u8 0, .int .u8 0, .int .u8 0, .int .u8 0, .int .u8 0, .int .u8 0, .int .u8 0, .int .u8 0, .int .u8 0, .int .u8 0, .int .u8 0, .int .u8 0, .int .u8 0, .int .u8 0, .int .u8 0, .int .u8 0, .int .u8 0, .int .u8 0, .int .u8 0, .int .u8 0, .int .u8 0, .int .u8 0, .int .u8 0, .int .u8 0, .int .u8 0, .int .u8 0, .int .u8 0, .int .u8 0] from bare_lit 0 ▸ rfl] at hfit hsm
   have HFIT := Lib.hid hfit; have HSM := Lib.hid hsm; have HIX := Lib.hid hix; have HONE := Lib.hid hone
   clear hfit hsm hone hix
   have HMI := HIX
   go_wp2_with (first | (with_reducible refine wpList_load_st rfl 29 (.tmp 1) rfl (g := b) (off := 0) rfl H3.out (cs := s'.cells) (t := 29) (fr := (0, 0)) (by simp) s'.cells (fun j hj => by rw [Nat.zero_add]) _ Tryd.underlying29 rfl HMI.out ?_) | (with_reducible refine wpList_store_st rfl 29 (.tmp 2) (.tmp 15) rfl (g := b + 1) (off := 0) s'.cells rfl rfl H3.out HFIT.out HIX.out HONE.out ?_; intro w9 h9; refine Hid.out ?_))
   refine Lib.hid ?_
   rw [HSM.out] at h9
   go_wp2_with fail
   refine bodyPost_ret (slot_ret (t := s') (F := F) h9 hd' rfl rfl rfl) rfl ?_
   exact ⟨by rw [HV.out], St.weaken (A := [_, _]) h9⟩
set_option maxRecDepth 100000 in
set_option maxHeartbeats 4000000 in
theorem slot_bad (s : Slt) (ok : s.Ok) (h : St W w I F) :
  Calls Tryd.prog 77 #[s.val] w (SPost W I F (badS s)) := by
 have h0 := (h.alloc (.cells s.cells 29)).alloc (.cells zS.cells 29)
 rw [World.size_alloc] at h0
 rw [show zS.cells = #[.int .i64 0, .int .i64 0, .int .u64 0, .int .i64 0, .int .u8 0, .int .u8 0, .int .u8 0, .int .u8 0, .int .u8 0, .int .u8 0, .int .u8 0, .int .u8 0, .int .u8 0, .int .u8 0, .int .u8 0, .int .u8 0, .int .u8 0, .int .u8 0, .int .u8 0, .int .u8 0, .int .u8 0, .int .u8 0, .int .u8 0, .int .u8 0, .int .u8 0, .int .u8 0, .int .u8 0, .int .u8 0, .int .u8 0, .int .u8 0, .int .u8 0, .int .u8 0, .int .u8 0, .int .u8 0, .int .u8 0, .int .u8 0] from bare_lit 0 ▸ rfl] at h0
 obtain ⟨b, hb⟩ : ∃ b, w.heap.size = b := ⟨_, rfl⟩
 rw [hb] at h0
 have kR := fun (v : World) (F : List (Nat × Obj)) (hv : St W v I F) => slot_right s ok hv
 cases hR : rightS s with
 | false =>
  have hv : badS s = (zS, 101) := by rw [badS, hR]; rfl
  rw [hR] at kR
  have HV := Lib.hid hv
  have HMI := Lib.hid (slot_info ok.dig)
  have H0 := Lib.hid h0; have KR := Lib.hid kR; have OK := Lib.hid ok
  clear h0 h kR ok hv
  unfold Slt.val at KR ⊢
  clear hR
  go_enter Tryd.func77, Tryd.ntmps77
  go_wp2_with (with_reducible refine wpList_load_st rfl 29 (.tmp 1) rfl (g := b) (off := 0) rfl H0.out (cs := s.cells) (t := 29) (fr := (0, 0)) (by simp) s.cells (fun j hj => by rw [Nat.zero_add]) _ Tryd.underlying29 rfl HMI.out ?_)
  refine (KR.out _ _ H0.out).mono ?_
  rintro e w2 ⟨rfl, h2⟩
  have H2 := Lib.hid h2
  clear h2 H0 KR hb
  obtain ⟨hfit, hsm⟩ := slot_fit (s := zS) (t := zS) zeros_len zeros_len
  have hix := slot_info (s := zS) zeros_len
  have hone := Slt.one zS
  have hzl : zS.cells = #[.int .i64 0, .int .i64 0, .int .u64 0, .int .i64 0, .int .u8 0, .int .u8 0, .int .u8 0, .int .u8 0, .int .u8 0, .int .u8 0, .int .u8 0, .int .u8 0, .int .u8 0, .int .u8 0, .int .u8 0, .int .u8 0, .int .u8 0, .int .u8 0, .int .u8 0, .int .u8 0, .int .u8 0, .int .u8 0, .int .u8 0, .int .u8 0, .int .u8 0, .int .u8 0, .int .u8 0, .int .u8 0, .int .u8 0, .int .u8 0, .int .u8 0, .int .u8 0, .int .u8 0, .int .u8 0, .int .u8 0, .int .u8 0] := bare_lit 0 ▸ rfl
  rw [hzl] at hfit hsm hix hone
  have HFIT := Lib.hid hfit; have HSM := Lib.hid hsm; have HIX := Lib.hid hix; have HONE := Lib.hid hone; have HZL := Lib.hid hzl
  clear hfit hsm hix hone hzl
  go_wp2_with (with_reducible refine wpList_store_st rfl 29 (.tmp 2) (.tmp 12) rfl (g := b + 1) (off := 0) #[.int .i64 0, .int .i64 0, .int .u64 0, .int .i64 0, .int .u8 0, .int .u8 0, .int .u8 0, .int .u8 0, .int .u8 0, .int .u8 0, .int .u8 0, .int .u8 0, .int .u8 0, .int .u8 0, .int .u8 0, .int .u8 0, .int .u8 0, .int .u8 0, .int .u8 0, .int .u8 0, .int .u8 0, .int .u8 0, .int .u8 0, .int .u8 0, .int .u8 0, .int .u8 0, .int .u8 0, .int .u8 0, .int .u8 0, .int .u8 0, .int .u8 0, .int .u8 0, .int .u8 0, .int .u8 0, .int .u8 0, .int .u8 0] rfl rfl H2.out HFIT.out HIX.out HONE.out ?_; intro w9 h9; refine Hid.out ?_)
  refine Lib.hid ?_
  rw [HSM.out, ← HZL.out] at h9
  go_wp2_with fail
  refine bodyPost_ret (slot_ret (F := F) h9 zeros_len rfl rfl rfl) rfl ?_
  exact ⟨by rw [HV.out], St.weaken (A := [_, _]) h9⟩
 | true =>
  have kF := fun (v : World) (F : List (Nat × Obj)) (hv : St W v I F) => slot_full s ok hv
  cases hF : fullS s with
  | false =>
   have hv : badS s = (zS, 101) := by rw [badS, hR, hF]; rfl
   rw [hF] at kF
   rw [hR] at kR
   have HV := Lib.hid hv
   have HMI := Lib.hid (slot_info ok.dig)
   have H0 := Lib.hid h0; have KR := Lib.hid kR; have OK := Lib.hid ok
   have KF := Lib.hid kF
   clear kF
   unfold Slt.val at KF
   clear h0 h kR ok hv
   unfold Slt.val at KR ⊢
   clear hR hF
   go_enter Tryd.func77, Tryd.ntmps77
   go_wp2_with (with_reducible refine wpList_load_st rfl 29 (.tmp 1) rfl (g := b) (off := 0) rfl H0.out (cs := s.cells) (t := 29) (fr := (0, 0)) (by simp) s.cells (fun j hj => by rw [Nat.zero_add]) _ Tryd.underlying29 rfl HMI.out ?_)
   refine (KR.out _ _ H0.out).mono ?_
   rintro e w2 ⟨rfl, h2⟩
   have H2 := Lib.hid h2
   clear h2 H0 KR hb
   have c0 := H2.out.cell (g := b) (cs := s.cells) (t := 29) (fr := (0, 0)) (by simp) 0
   have c1 := H2.out.cell (g := b) (cs := s.cells) (t := 29) (fr := (0, 0)) (by simp) 1
   have c2 := H2.out.cell (g := b) (cs := s.cells) (t := 29) (fr := (0, 0)) (by simp) 2
   have c3 := H2.out.cell (g := b) (cs := s.cells) (t := 29) (fr := (0, 0)) (by simp) 3
   rw [Slt.at0] at c0
   rw [Slt.at1] at c1
   rw [Slt.at2] at c2
   rw [Slt.at3] at c3
   have f0 := H2.out.frozen (g := b) (cs := s.cells) (t := 29) (by simp) 0
   have f1 := H2.out.frozen (g := b) (cs := s.cells) (t := 29) (by simp) 1
   go_wp2_with (refine wpList_load_g (by rfl) 29 (.tmp 1) rfl (g := b) (off := 0) rfl H2.out (cs := s.cells) (t := 29) (fr := (0, 0)) (by simp) s.cells (fun j hj => by rw [Nat.zero_add]) _ Tryd.underlying29 rfl HMI.out ?_)
   refine (KF.out _ _ H2.out).mono ?_
   rintro e w3 ⟨rfl, h3⟩
   clear H2 c0 c1 c2 c3 f0 f1
   have H2 := Lib.hid h3
   clear h3 KF
   have c0 := H2.out.cell (g := b) (cs := s.cells) (t := 29) (fr := (0, 0)) (by simp) 0
   have c1 := H2.out.cell (g := b) (cs := s.cells) (t := 29) (fr := (0, 0)) (by simp) 1
   have c2 := H2.out.cell (g := b) (cs := s.cells) (t := 29) (fr := (0, 0)) (by simp) 2
   have c3 := H2.out.cell (g := b) (cs := s.cells) (t := 29) (fr := (0, 0)) (by simp) 3
   rw [Slt.at0] at c0
   rw [Slt.at1] at c1
   rw [Slt.at2] at c2
   rw [Slt.at3] at c3
   have f0 := H2.out.frozen (g := b) (cs := s.cells) (t := 29) (by simp) 0
   have f1 := H2.out.frozen (g := b) (cs := s.cells) (t := 29) (by simp) 1
   obtain ⟨hfit, hsm⟩ := slot_fit (s := zS) (t := zS) zeros_len zeros_len
   have hix := slot_info (s := zS) zeros_len
   have hone := Slt.one zS
   have hzl : zS.cells = #[.int .i64 0, .int .i64 0, .int .u64 0, .int .i64 0, .int .u8 0, .int .u8 0, .int .u8 0, .int .u8 0, .int .u8 0, .int .u8 0, .int .u8 0, .int .u8 0, .int .u8 0, .int .u8 0, .int .u8 0, .int .u8 0, .int .u8 0, .int .u8 0, .int .u8 0, .int .u8 0, .int .u8 0, .int .u8 0, .int .u8 0, .int .u8 0, .int .u8 0, .int .u8 0, .int .u8 0, .int .u8 0, .int .u8 0, .int .u8 0, .int .u8 0, .int .u8 0, .int .u8 0, .int .u8 0, .int .u8 0, .int .u8 0] := bare_lit 0 ▸ rfl
   rw [hzl] at hfit hsm hix hone
   have HFIT := Lib.hid hfit; have HSM := Lib.hid hsm; have HIX := Lib.hid hix; have HONE := Lib.hid hone; have HZL := Lib.hid hzl
   clear hfit hsm hix hone hzl
   go_wp2_with (with_reducible refine wpList_store_st rfl 29 (.tmp 2) (.tmp 12) rfl (g := b + 1) (off := 0) #[.int .i64 0, .int .i64 0, .int .u64 0, .int .i64 0, .int .u8 0, .int .u8 0, .int .u8 0, .int .u8 0, .int .u8 0, .int .u8 0, .int .u8 0, .int .u8 0, .int .u8 0, .int .u8 0, .int .u8 0, .int .u8 0, .int .u8 0, .int .u8 0, .int .u8 0, .int .u8 0, .int .u8 0, .int .u8 0, .int .u8 0, .int .u8 0, .int .u8 0, .int .u8 0, .int .u8 0, .int .u8 0, .int .u8 0, .int .u8 0, .int .u8 0, .int .u8 0, .int .u8 0, .int .u8 0, .int .u8 0, .int .u8 0] rfl rfl H2.out HFIT.out HIX.out HONE.out ?_; intro w9 h9; refine Hid.out ?_)
   refine Lib.hid ?_
   rw [HSM.out, ← HZL.out] at h9
   go_wp2_with fail
   refine bodyPost_ret (slot_ret (F := F) h9 zeros_len rfl rfl rfl) rfl ?_
   exact ⟨by rw [HV.out], St.weaken (A := [_, _]) h9⟩
  | true =>
   have hv : badS s = (bareS 4, 0) := by rw [badS, hR, hF]; rfl
   rw [hF] at kF
   rw [hR] at kR
   have HV := Lib.hid hv
   have HMI := Lib.hid (slot_info ok.dig)
   have H0 := Lib.hid h0; have KR := Lib.hid kR; have OK := Lib.hid ok
   have KF := Lib.hid kF
   clear kF
   unfold Slt.val at KF
   clear h0 h kR ok hv
   unfold Slt.val at KR ⊢
   clear hR hF
   go_enter Tryd.func77, Tryd.ntmps77
   go_wp2_with (with_reducible refine wpList_load_st rfl 29 (.tmp 1) rfl (g := b) (off := 0) rfl H0.out (cs := s.cells) (t := 29) (fr := (0, 0)) (by simp) s.cells (fun j hj => by rw [Nat.zero_add]) _ Tryd.underlying29 rfl HMI.out ?_)
   refine (KR.out _ _ H0.out).mono ?_
   rintro e w2 ⟨rfl, h2⟩
   have H2 := Lib.hid h2
   clear h2 H0 KR hb
   have c0 := H2.out.cell (g := b) (cs := s.cells) (t := 29) (fr := (0, 0)) (by simp) 0
   have c1 := H2.out.cell (g := b) (cs := s.cells) (t := 29) (fr := (0, 0)) (by simp) 1
   have c2 := H2.out.cell (g := b) (cs := s.cells) (t := 29) (fr := (0, 0)) (by simp) 2
   have c3 := H2.out.cell (g := b) (cs := s.cells) (t := 29) (fr := (0, 0)) (by simp) 3
   rw [Slt.at0] at c0
   rw [Slt.at1] at c1
   rw [Slt.at2] at c2
   rw [Slt.at3] at c3
   have f0 := H2.out.frozen (g := b) (cs := s.cells) (t := 29) (by simp) 0
   have f1 := H2.out.frozen (g := b) (cs := s.cells) (t := 29) (by simp) 1
   go_wp2_with (refine wpList_load_g (by rfl) 29 (.tmp 1) rfl (g := b) (off := 0) rfl H2.out (cs := s.cells) (t := 29) (fr := (0, 0)) (by simp) s.cells (fun j hj => by rw [Nat.zero_add]) _ Tryd.underlying29 rfl HMI.out ?_)
   refine (KF.out _ _ H2.out).mono ?_
   rintro e w3 ⟨rfl, h3⟩
   clear H2 c0 c1 c2 c3 f0 f1
   have H2 := Lib.hid h3
   clear h3 KF
   have c0 := H2.out.cell (g := b) (cs := s.cells) (t := 29) (fr := (0, 0)) (by simp) 0
   have c1 := H2.out.cell (g := b) (cs := s.cells) (t := 29) (fr := (0, 0)) (by simp) 1
   have c2 := H2.out.cell (g := b) (cs := s.cells) (t := 29) (fr := (0, 0)) (by simp) 2
   have c3 := H2.out.cell (g := b) (cs := s.cells) (t := 29) (fr := (0, 0)) (by simp) 3
   rw [Slt.at0] at c0
   rw [Slt.at1] at c1
   rw [Slt.at2] at c2
   rw [Slt.at3] at c3
   have f0 := H2.out.frozen (g := b) (cs := s.cells) (t := 29) (by simp) 0
   have f1 := H2.out.frozen (g := b) (cs := s.cells) (t := 29) (by simp) 1
   obtain ⟨hfit, hsm⟩ := slot_fit (s := zS) (t := (bareS 4)) zeros_len zeros_len
   have hone := Slt.one (bareS 4)
   have hix := slot_info (s := (bareS 4)) zeros_len
   rw [show zS.cells = #[.int .i64 0, .int .i64 0, .int .u64 0, .int .i64 0, .int .u8 0, .int .u8 0, .int .u8 0, .int .u8 0, .int .u8 0, .int .u8 0, .int .u8 0, .int .u8 0, .int .u8 0, .int .u8 0, .int .u8 0, .int .u8 0, .int .u8 0, .int .u8 0, .int .u8 0, .int .u8 0, .int .u8 0, .int .u8 0, .int .u8 0, .int .u8 0, .int .u8 0, .int .u8 0, .int .u8 0, .int .u8 0, .int .u8 0, .int .u8 0, .int .u8 0, .int .u8 0, .int .u8 0, .int .u8 0, .int .u8 0, .int .u8 0] from bare_lit 0 ▸ rfl] at hfit hsm
   have HFIT := Lib.hid hfit; have HSM := Lib.hid hsm; have HIX := Lib.hid hix; have HONE := Lib.hid hone
   clear hfit hsm hone hix
   rw [← bare_lit] at *
   go_wp2_with (with_reducible refine wpList_store_st rfl 29 (.tmp 2) (.tmp 13) rfl (g := b + 1) (off := 0) #[.int .i64 4, .int .i64 0, .int .u64 0, .int .i64 0, .int .u8 0, .int .u8 0, .int .u8 0, .int .u8 0, .int .u8 0, .int .u8 0, .int .u8 0, .int .u8 0, .int .u8 0, .int .u8 0, .int .u8 0, .int .u8 0, .int .u8 0, .int .u8 0, .int .u8 0, .int .u8 0, .int .u8 0, .int .u8 0, .int .u8 0, .int .u8 0, .int .u8 0, .int .u8 0, .int .u8 0, .int .u8 0, .int .u8 0, .int .u8 0, .int .u8 0, .int .u8 0, .int .u8 0, .int .u8 0, .int .u8 0, .int .u8 0] rfl rfl H2.out HFIT.out HIX.out HONE.out ?_; intro w9 h9; refine Hid.out ?_)
   refine Lib.hid ?_
   rw [HSM.out] at h9
   go_wp2_with fail
   refine bodyPost_ret (slot_ret (t := (bareS 4)) (F := F) h9 zeros_len rfl rfl rfl) rfl ?_
   exact ⟨by rw [HV.out], St.weaken (A := [_, _]) h9⟩
set_option maxRecDepth 100000 in
set_option maxHeartbeats 4000000 in
theorem slot_boot (s : Slt) (ok : s.Ok) (h : St W w I F) :
  Calls Tryd.prog 98 #[s.val] w fun e w' => e = .returned (.bool (bootS s)) ∧ St W w' I F := by
 have h0 := h.alloc (.cells s.cells 29)
 obtain ⟨b, hb⟩ : ∃ b, w.heap.size = b := ⟨_, rfl⟩
 rw [hb] at h0
 have kR := fun (v : World) (F : List (Nat × Obj)) (hv : St W v I F) => slot_right s ok hv
 have hr := bootS.eq_1 s
 generalize rightS s = R at *
 have HMI := Lib.hid (slot_info ok.dig)
 have H0 := Lib.hid h0; have KR := Lib.hid kR; have HR := Lib.hid hr
 clear h0 h kR ok hr
 unfold Slt.val at KR ⊢
 cases R with
 | false =>
  have hB : bootS s = false := by rw [HR.out]; rfl
  have HB := Lib.hid hB
  clear hB HR
  go_enter Tryd.func98, Tryd.ntmps98
  go_wp2_with (with_reducible refine wpList_load_st rfl 29 (.tmp 1) rfl (g := b) (off := 0) rfl H0.out (cs := s.cells) (t := 29) (fr := (0, 0)) (by simp) s.cells (fun j hj => by rw [Nat.zero_add]) _ Tryd.underlying29 rfl HMI.out ?_)
  refine (KR.out _ _ H0.out).mono ?_
  rintro e w2 ⟨rfl, h2⟩
  have H2 := Lib.hid h2
  clear h2 H0 KR hb
  go_wp2_with fail
  go_ret
  exact ⟨by rw [HB.out]; (rfl), St.weaken (A := [_]) H2.out⟩
 | true =>
  by_cases k3 : s.st = 3
  ·have S3 := Lib.hid k3
   clear k3
   have hB : bootS s = true := by rw [HR.out]; simp [S3.out]
   have HB := Lib.hid hB
   clear hB HR
   go_enter Tryd.func98, Tryd.ntmps98
   go_wp2_with (with_reducible refine wpList_load_st rfl 29 (.tmp 1) rfl (g := b) (off := 0) rfl H0.out (cs := s.cells) (t := 29) (fr := (0, 0)) (by simp) s.cells (fun j hj => by rw [Nat.zero_add]) _ Tryd.underlying29 rfl HMI.out ?_)
   refine (KR.out _ _ H0.out).mono ?_
   rintro e w2 ⟨rfl, h2⟩
   have c0 := h2.slt.1
   have c1 := h2.slt.2.1
   rw [S3.out] at c0
   have H2 := Lib.hid h2
   clear h2 H0 KR hb
   go_wp2_with fail
   go_ret
   exact ⟨by rw [HB.out]; (rfl), St.weaken (A := [_]) H2.out⟩
  ·have j3 : (s.st == 3) = false := beq_eq_false_iff_ne.2 k3
   by_cases k2 : s.st = 2
   ·have S2 := Lib.hid k2
    clear k2 k3 j3
    by_cases t0 : 0 < s.tr
    ·have hB : bootS s = true := by rw [HR.out]; simp [S2.out, t0]
     have HB := Lib.hid hB
     clear hB HR
     go_enter Tryd.func98, Tryd.ntmps98
     go_wp2_with (with_reducible refine wpList_load_st rfl 29 (.tmp 1) rfl (g := b) (off := 0) rfl H0.out (cs := s.cells) (t := 29) (fr := (0, 0)) (by simp) s.cells (fun j hj => by rw [Nat.zero_add]) _ Tryd.underlying29 rfl HMI.out ?_)
     refine (KR.out _ _ H0.out).mono ?_
     rintro e w2 ⟨rfl, h2⟩
     have c0 := h2.slt.1
     have c1 := h2.slt.2.1
     rw [S2.out] at c0
     have H2 := Lib.hid h2
     clear h2 H0 KR hb
     go_wp2_with fail
     go_ret
     exact ⟨by rw [HB.out]; (rfl), St.weaken (A := [_]) H2.out⟩
    ·have hB : bootS s = false := by rw [HR.out]; simp [S2.out, t0]
     have HB := Lib.hid hB
     clear hB HR
     go_enter Tryd.func98, Tryd.ntmps98
     go_wp2_with (with_reducible refine wpList_load_st rfl 29 (.tmp 1) rfl (g := b) (off := 0) rfl H0.out (cs := s.cells) (t := 29) (fr := (0, 0)) (by simp) s.cells (fun j hj => by rw [Nat.zero_add]) _ Tryd.underlying29 rfl HMI.out ?_)
     refine (KR.out _ _ H0.out).mono ?_
     rintro e w2 ⟨rfl, h2⟩
     have c0 := h2.slt.1
     have c1 := h2.slt.2.1
     rw [S2.out] at c0
     have H2 := Lib.hid h2
     clear h2 H0 KR hb
     go_wp2_with fail
     go_ret
     exact ⟨by rw [HB.out]; (simp; omega), St.weaken (A := [_]) H2.out⟩
   ·have j2 : (s.st == 2) = false := beq_eq_false_iff_ne.2 k2
    have hB : bootS s = false := by rw [HR.out]; simp [j3, j2]
    have HB := Lib.hid hB
    clear hB HR k2 k3
    go_enter Tryd.func98, Tryd.ntmps98
    go_wp2_with (with_reducible refine wpList_load_st rfl 29 (.tmp 1) rfl (g := b) (off := 0) rfl H0.out (cs := s.cells) (t := 29) (fr := (0, 0)) (by simp) s.cells (fun j hj => by rw [Nat.zero_add]) _ Tryd.underlying29 rfl HMI.out ?_)
    refine (KR.out _ _ H0.out).mono ?_
    rintro e w2 ⟨rfl, h2⟩
    have c0 := h2.slt.1
    have c1 := h2.slt.2.1
    have H2 := Lib.hid h2
    clear h2 H0 KR hb
    go_wp2_with fail
    go_ret
    exact ⟨by rw [HB.out]; (rfl), St.weaken (A := [_]) H2.out⟩
end
end Go.Proofs.YtnjnooeldkideaaDoor
