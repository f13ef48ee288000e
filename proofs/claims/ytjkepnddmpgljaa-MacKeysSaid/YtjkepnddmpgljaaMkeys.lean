/- MacKeys: the walk of the law. -/
import Derived.Test.YtjkepnddmpgljaaMref
import Derived.Test.YtjkepnddmpgljaaZeros
import Derived.Deep.RegionWith
import Derived.Deep.RegionHeld3
namespace Go.Proofs.Ytjkepnddmpgljaa
set_option linter.unusedVariables false
set_option linter.unusedSimpArgs false
open Go.RowKit

/-- A row of bytes of ours turns no more. -/
theorem row_part {W w : World} {I : Nat → Option Obj} {F L : List (Nat × Obj)} {A : Option Addr} {c : Nat} {xs : List UInt8} (h : Row 5 1 (.slice A xs.length c) xs.length (xs.map bval) L) (hst : St W w I (L ++ F)) :
    ∃ J, Le I J ∧ Part.In ⟨A, c, xs⟩ W J ∧ St W w J F := by
  have h0 := h
  obtain ⟨hxl, ⟨hv, hn, rfl⟩ | ⟨g, off, cap, cur, hv, rfl, hnc, hcm, hfit, hx⟩⟩ := h
  · have : xs = [] := List.eq_nil_of_length_eq_zero hn
    subst this
    exact ⟨I, Le.refl I, Part.In_nil _ _, hst⟩
  · obtain ⟨J, hle, hJ, h'⟩ := St.freeze hst
    refine ⟨J, hle, fun w' L' hw => ⟨by simp, fun j u hj => ?_⟩, h'⟩
    obtain ⟨g', off', cap', cur', hv', hL, hc⟩ := h0.cells hj
    injection hv' with h1 h2 h3
    subst h1
    simp only [List.cons.injEq, Prod.mk.injEq, Obj.cells.injEq, and_true] at hL
    obtain ⟨rfl, rfl⟩ := hL
    refine ⟨_, rfl, ?_⟩
    rw [show (⟨g, off', none⟩ : Addr).add j = ⟨g, off' + j, none⟩ by unfold Addr.add; split <;> simp_all, cell_of_row w' g (off' + j) cur _ _ (hw.imm _ _ hJ)]
    exact hc

/-- A block more, and another. -/
theorem St.alloc2 {W w : World} {I : Nat → Option Obj} {L : List (Nat × Obj)} (h : St W w I L) (o o' : Obj) : St W ((w.alloc o).alloc o') I ((w.heap.size + 1, o') :: (w.heap.size, o) :: L) := by
  have := (h.alloc o).alloc o'
  rwa [World.size_alloc] at this
theorem St.alloc2' {W w : World} {I : Nat → Option Obj} {L : List (Nat × Obj)} (h : St W w I L) (o o' : Obj) : St W ((w.alloc o).alloc o') I ((w.heap.size, o) :: (w.heap.size + 1, o') :: L) :=
  (h.alloc2 o o').perm (List.Perm.swap _ _ _)
/-- mac.Sum, of parts that lie in a block of ours. -/
theorem msum_at {W w : World} {I : Nat → Option Obj} {F : List (Nat × Obj)} (key : Part) (ps : List Part) {n0 n : Nat} (hst : St W w I ((n0, .cells (ps.map Part.val).toArray 22) :: F)) (hn : n = ps.length) (hkey : key.In W I) (hkl : key.bs.length ≤ 1000000)
    (hsrc : ∀ p ∈ ps, p.In W I) (hlen : (cat ps).length ≤ 1000000) (hpl : n ≤ 9223372036854775806) :
    Calls Try.prog 23 #[.slice key.A key.bs.length key.c, .slice (some ⟨n0, 0, none⟩) n n] w fun e w' => e = .returned (.agg (HV (macOut key.bs (cat ps)))) ∧ St W w' I F := by
  obtain ⟨J, hle, hJ, h1⟩ := hst.freeze
  refine (msum key ps h1 hn (Part.In_mono hle hkey) hkl ?_ (fun p hp => Part.In_mono hle (hsrc p hp)) hlen hpl).mono ?_
  · intro i p hi
    unfold roCell
    simp only [hJ]
    rw [Nat.zero_add]
    simp [hi]
  · rintro e w' ⟨he, h'⟩
    exact ⟨he, h'.less hle⟩

theorem macOut_zeros (k bs : List UInt8) (m : Nat) (h : k.length + m ≤ 64) : macOut (k ++ List.replicate m 0) bs = macOut k bs := by
  have e1 : keyOf (k ++ List.replicate m 0) = k ++ List.replicate m 0 := by unfold keyOf; rw [if_neg (by simp; omega)]
  have e2 : keyOf k = k := by unfold keyOf; rw [if_neg (by omega)]
  have e3 : key64 (k ++ List.replicate m 0) = key64 k := by
    unfold key64
    rw [List.append_assoc, List.replicate_append_replicate, List.length_append, List.length_replicate]
    congr 2
    omega
  unfold macOut macIn padOf
  rw [e1, e2, e3]
theorem macOut_long (k bs : List UInt8) (h : 64 < k.length) : macOut (hashOf k) bs = macOut k bs := by
  have e1 : keyOf k = hashOf k := by unfold keyOf; rw [if_pos h]
  have e2 : keyOf (hashOf k) = hashOf k := by unfold keyOf; rw [if_neg (by rw [hashOf_len]; omega)]
  unfold macOut macIn
  rw [e1, e2]

set_option maxRecDepth 100000 in
set_option maxHeartbeats 4000000 in
theorem walk_macKeys (W : World) {H : Type} {enc : TypeId × Value → H} {v0 v1 v2 : Value} (a0 : Arg enc Try.prog W 22 v0) (a1 : Arg enc Try.prog W 22 v1) (a2 : Arg enc Try.prog W 3 v2) :
    Calls Try.prog 8 #[v0, v1, v2] W fun e w' => e = .returned (.bool true) ∧ Below W.heap.size W w' := by
  obtain ⟨A0, n0, c0, x0, rfl, rfl, q0, m0, in0⟩ := a0.bytes Try.underlying22 Try.underlying5 (by kernel_rfl)
  obtain ⟨A1, n1, c1, x1, rfl, rfl, q1, m1, in1⟩ := a1.bytes Try.underlying22 Try.underlying5 (by kernel_rfl)
  obtain ⟨z, rfl, hwf⟩ := a2.int Try.underlying3
  obtain ⟨hlo, hhi⟩ := wf_i64 hwf
  unfold maxLen at m0 m1
  have HST0 := Lib.hid (St.start W)
  have IN0 := Lib.hid in0; have IN1 := Lib.hid in1
  clear a0 a1 a2 hwf in0 in1
  go_enter Try.func8, Try.ntmps8
  go_wp2_with fail
  refine (macAlive HST0.out).mono ?_
  rintro e w1 ⟨rfl, hst1⟩
  clear HST0
  by_cases h1 : (64 : Int) < x0.length
  · have hfin := hst1.below (Le.refl _)
    go_wp2_with fail
    go_ret
    exact ⟨rfl, hfin⟩
  have n1 : (x0.length : Int) ≤ 64 := by omega
  by_cases h2 : (1000 : Int) < x1.length
  · have hfin := hst1.below (Le.refl _)
    go_wp2_with fail
    go_ret
    exact ⟨rfl, hfin⟩
  have n2 : (x1.length : Int) ≤ 1000 := by omega
  by_cases h3 : z < 0
  · have hfin := hst1.below (Le.refl _)
    go_wp2_with fail
    go_ret
    exact ⟨rfl, hfin⟩
  have n3 : 0 ≤ z := by omega
  by_cases h4 : 64 - (x0.length : Int) < z
  · have hfin := hst1.below (Le.refl _)
    go_wp2_with fail
    go_ret
    exact ⟨rfl, hfin⟩
  have n4 : z ≤ 64 - (x0.length : Int) := by omega
  obtain ⟨m, rfl⟩ : ∃ m : Nat, z = m := ⟨z.toNat, by omega⟩
  have hm : x0.length + m ≤ 64 := by omega
  have N1 : x1.length ≤ 1000 := by omega
  obtain ⟨p, hp⟩ : ∃ p : List UInt8, p = x0 ++ List.replicate m 0 := ⟨_, rfl⟩
  obtain ⟨l, hl⟩ : ∃ l : List UInt8, l = x0 ++ List.replicate 65 0 := ⟨_, rfl⟩
  have lp : p.length = x0.length + m := by rw [hp, List.length_append, List.length_replicate]
  have ll : l.length = x0.length + 65 := by rw [hl, List.length_append, List.length_replicate]
  have cp : x0.map bval ++ List.replicate m (.int .u8 0) = p.map bval := by rw [hp, List.map_append, List.map_replicate]; rfl
  have cl : x0.map bval ++ List.replicate 65 (.int .u8 0) = l.map bval := by rw [hl, List.map_append, List.map_replicate]; rfl
  have mp : macOut p x1 = macOut x0 x1 := by rw [hp]; exact macOut_zeros x0 x1 m hm
  have ml : macOut (hashOf l) x1 = macOut l x1 := macOut_long l x1 (by omega)
  have HLP := Lib.hid lp; have HLL := Lib.hid ll; have HCP := Lib.hid cp; have HCL := Lib.hid cl; have HMP := Lib.hid mp; have HML := Lib.hid ml; have HM := Lib.hid hm; have HN1 := Lib.hid N1
  have HST1 := Lib.hid hst1
  have HSA := Lib.hid (IN0.out _ _ (hst1.alloc (.cells #[] 5)))
  clear h1 h2 h3 h4 hst1 hp hl lp ll cp cl mp ml N1
  -- padded
  go_wp2_with (with_reducible refine at_append rfl ?_; refine Hid.out ?_)
  refine Lib.hid ?_
  refine wpList_append_row (F := []) rfl (.tmp 31) (.tmp 32) _ rfl 5 (.int .u8 0) 1 1 Try.underlying22 (by kernel_rfl) (by kernel_rfl) (by omega) rfl (Row.empty 5 1 _) (by exact HST1.out.alloc _) rfl (by exact HSA.out) (one_bytes x0) x0.length (Nat.zero_add _) (x0.map bval) (List.nil_append _) (by unfold maxLen; omega) (by omega) ?_
  intro A5 c5 w5 L5 hr5 h5
  have HR5 := Lib.hid hr5; have H5 := Lib.hid h5
  clear hr5 h5 HSA HST1
  go_wp2_with (with_reducible refine at_append rfl ?_; refine Hid.out ?_)
  refine Lib.hid ?_
  refine wpList_append_zeros (F := []) rfl (.tmp 33) (.tmp 34) _ 3 rfl 5 (.int .u8 0) 1 Try.underlying22 Try.underlying3 (by kernel_rfl) (by kernel_rfl) (by kernel_rfl) rfl HR5.out (by exact H5.out) m rfl p.length (by have := HLP.out; omega) (p.map bval) HCP.out (by have := HLP.out; have := HM.out; unfold maxLen; omega) (by have := HLP.out; have := HM.out; omega) ?_
  intro A7 c7 w7 L7 hr7 h7
  obtain ⟨J1, le1, in7, h7⟩ := row_part hr7 h7
  have HSB := Lib.hid ((Part.In_mono le1 IN0.out) _ _ (h7.alloc (.cells #[] 5)))
  have H7 := Lib.hid h7
  clear hr7 h7 HR5 H5
  -- long
  go_wp2_with (with_reducible refine at_append rfl ?_; refine Hid.out ?_)
  refine Lib.hid ?_
  refine wpList_append_row (F := []) rfl (.tmp 36) (.tmp 37) _ rfl 5 (.int .u8 0) 1 1 Try.underlying22 (by kernel_rfl) (by kernel_rfl) (by omega) rfl (Row.empty 5 1 _) (by exact H7.out.alloc _) rfl (by exact HSB.out) (one_bytes x0) x0.length (Nat.zero_add _) (x0.map bval) (List.nil_append _) (by unfold maxLen; omega) (by omega) ?_
  intro A6 c6 w6 L6 hr6 h6
  have HR6 := Lib.hid hr6; have H6 := Lib.hid h6
  clear hr6 h6 HSB H7
  go_wp2_with (with_reducible refine at_append rfl ?_; refine Hid.out ?_)
  refine Lib.hid ?_
  refine wpList_append_zeros (F := []) rfl (.tmp 38) _ _ 3 rfl 5 (.int .u8 0) 1 Try.underlying22 Try.underlying3 (by kernel_rfl) (by kernel_rfl) (by kernel_rfl) rfl HR6.out (by exact H6.out) 65 (by kernel_rfl) l.length (by have := HLL.out; omega) (l.map bval) HCL.out (by have := HLL.out; unfold maxLen; omega) (by have := HLL.out; omega) ?_
  intro A8 c8 w8 L8 hr8 h8
  obtain ⟨J2, le2, in8, h8⟩ := row_part hr8 h8
  clear hr8 HR6 H6
  -- h
  have kd := ds_all [⟨A8, c8, l⟩] (in_cons in8 in_nil) (Digs.nil h8) (n0 := w8.heap.size) (n := 1) rfl rfl (by simp [cat]; have := HLL.out; omega) (by omega)
  rw [show cat [⟨A8, c8, l⟩] = l by simp [cat]] at kd
  simp only [Part.val, List.map_cons, List.map_nil] at kd
  have KD := Lib.hid kd
  clear kd h8
  go_wp2_with fail
  refine KD.out.mono ?_
  rintro e w9 ⟨rfl, h9⟩
  clear KD
  obtain ⟨zz, ix, fx, ox, ex, hb⟩ := hv_facts l
  have H9 := Lib.hid (h9.frame.alloc (.cells #[.int .u8 0, .int .u8 0, .int .u8 0, .int .u8 0, .int .u8 0, .int .u8 0, .int .u8 0, .int .u8 0, .int .u8 0, .int .u8 0, .int .u8 0, .int .u8 0, .int .u8 0, .int .u8 0, .int .u8 0, .int .u8 0, .int .u8 0, .int .u8 0, .int .u8 0, .int .u8 0, .int .u8 0, .int .u8 0, .int .u8 0, .int .u8 0, .int .u8 0, .int .u8 0, .int .u8 0, .int .u8 0, .int .u8 0, .int .u8 0, .int .u8 0, .int .u8 0] 26))
  have IX := Lib.hid ix; have FX := Lib.hid fx; have OX := Lib.hid ox; have EX := Lib.hid ex
  clear ix fx ox ex h9 hb zz
  have ehv : HV l = bcells (hashOf l) := rfl
  go_wp2_with (with_reducible refine wpList_store_st rfl 26 (.tmp 9) (.tmp 42) rfl (g := w9.heap.size) (off := 0) (HV l) rfl rfl H9.out FX.out IX.out OX.out ?_; intro w3 h3; refine Hid.out ?_)
  refine Lib.hid ?_
  rw [EX.out] at h3
  clear H9 FX IX OX EX
  generalize w9.heap.size = g9 at *
  obtain ⟨J3, le3, hJ3, h3⟩ := h3.freeze
  have in9 : Part.In ⟨some ⟨g9, 0, none⟩, 32, hashOf l⟩ W J3 := part_lit hJ3 (fun j u hj => by rw [ehv, bcells, List.getElem?_toArray]; exact hj)
  have HLE := Lib.hid (Le.trans le1 (Le.trans le2 le3))
  have i0 := Part.In_mono (Le.trans le1 (Le.trans le2 le3)) IN0.out
  have i1 := Part.In_mono (Le.trans le1 (Le.trans le2 le3)) IN1.out
  have i7 := Part.In_mono (Le.trans le2 le3) in7
  have i8 := Part.In_mono le3 in8
  have j0 : x0.length ≤ 1000000 := by omega
  have j1 : x1.length ≤ 1000000 := by omega
  have k1 := fun w n0 F (h : St W w J3 ((n0, .cells #[.slice A1 x1.length c1] 22) :: F)) => msum_at ⟨A7, c7, p⟩ [⟨A1, c1, x1⟩] (n := 1) h rfl i7 (by show p.length ≤ _; have := HLP.out; omega) (in_cons i1 in_nil) (by simp [cat]; omega) (by omega)
  have k2 := fun w n0 F (h : St W w J3 ((n0, .cells #[.slice A1 x1.length c1] 22) :: F)) => msum_at ⟨A0, c0, x0⟩ [⟨A1, c1, x1⟩] (n := 1) h rfl i0 j0 (in_cons i1 in_nil) (by simp [cat]; omega) (by omega)
  have k3 := fun w n0 F (h : St W w J3 ((n0, .cells #[.slice A1 x1.length c1] 22) :: F)) => msum_at ⟨A8, c8, l⟩ [⟨A1, c1, x1⟩] (n := 1) h rfl i8 (by show l.length ≤ _; have := HLL.out; omega) (in_cons i1 in_nil) (by simp [cat]; omega) (by omega)
  have k4 := fun w n0 F (h : St W w J3 ((n0, .cells #[.slice A1 x1.length c1] 22) :: F)) => msum_at ⟨some ⟨g9, 0, none⟩, 32, hashOf l⟩ [⟨A1, c1, x1⟩] (n := 1) h rfl in9 (by show (hashOf l).length ≤ _; rw [hashOf_len]; omega) (in_cons i1 in_nil) (by simp [cat]; omega) (by omega)
  have k5 := fun w n0 F (h : St W w J3 ((n0, .cells #[.slice A1 x1.length c1, .slice none 0 0] 22) :: F)) => msum_at ⟨A0, c0, x0⟩ [⟨A1, c1, x1⟩, ⟨none, 0, []⟩] (n := 2) h rfl i0 j0 (in_cons i1 (in_cons (Part.In_nil _ _) in_nil)) (by simp [cat]; omega) (by omega)
  have k6 := fun w n0 F (h : St W w J3 ((n0, .cells #[.slice none 0 0, .slice A1 x1.length c1] 22) :: F)) => msum_at ⟨A0, c0, x0⟩ [⟨none, 0, []⟩, ⟨A1, c1, x1⟩] (n := 2) h rfl i0 j0 (in_cons (Part.In_nil _ _) (in_cons i1 in_nil)) (by simp [cat]; omega) (by omega)
  rw [show cat [⟨A1, c1, x1⟩] = x1 by simp [cat]] at k1 k2 k3 k4
  rw [show cat [⟨A1, c1, x1⟩, ⟨none, 0, []⟩] = x1 by simp [cat]] at k5
  rw [show cat [⟨none, 0, []⟩, ⟨A1, c1, x1⟩] = x1 by simp [cat]] at k6
  simp only [Part.val, List.map_cons, List.map_nil, List.length_nil, HMP.out, HML.out, hashOf_len] at k1 k2 k3 k4 k5 k6
  have E1 := eq_HV (macOut x0 x1)
  have E2 := eq_HV (macOut l x1)
  generalize HV (macOut x0 x1) = V1 at *
  generalize HV (macOut l x1) = V2 at *
  have K1 := Lib.hid k1; have K2 := Lib.hid k2; have K3 := Lib.hid k3; have K4 := Lib.hid k4; have K5 := Lib.hid k5; have K6 := Lib.hid k6
  have hx := h3.drew1
  have sa := slice_arr32
  clear k1 k2 k3 k4 k5 k6 i0 i1 i7 i8 in7 in8 in9 j0 j1 h3 hJ3 le1 le2 le3 ehv HLP HLL HCP HCL HMP HML HM HN1 IN0 IN1
  go_wp2_with fail
  refine wp_region_held_drew (S := fun w' => St W w' J3 []) (by kernel_rfl) hx (fun hHeld => ?_)
  generalize w3.drew = wd at *
  refine wpAnyH_take (i := 0) (oi := ?_) (v := ?_) ?_ ?_ ?_ ?_ ?_ ?_ ?_ ?_
  rotate_left 2
  · (simp only [List.getElem?_toArray, List.getElem?_cons_succ, List.getElem?_cons_zero]; exact rfl)
  · kernel_rfl
  · kernel_rfl
  · kernel_rfl
  · exact fun _ _ _ h => h
  · (refine Or.inl ⟨by rfl, ?_⟩; intro w hSw; (try dsimp only at hSw); go_simp; try with_reducible rfl)
  · assumption
  try simp only [Act.put, List.setIfInBounds_toArray, List.set_cons_zero, List.set_cons_succ]
  refine wpAnyH_take (i := 1) (oi := ?_) (v := ?_) ?_ ?_ ?_ ?_ ?_ ?_ ?_ ?_
  rotate_left 2
  · (simp only [List.getElem?_toArray, List.getElem?_cons_succ, List.getElem?_cons_zero]; exact rfl)
  · kernel_rfl
  · kernel_rfl
  · kernel_rfl
  · exact fun _ _ _ h => h
  · (refine Or.inl ⟨by rfl, ?_⟩; intro w hSw; (try dsimp only at hSw); go_simp; try with_reducible rfl)
  · assumption
  try simp only [Act.put, List.setIfInBounds_toArray, List.set_cons_zero, List.set_cons_succ]
  refine wpAnyH_take (i := 4) (oi := ?_) (v := ?_) ?_ ?_ ?_ ?_ ?_ ?_ ?_ ?_
  rotate_left 2
  · (simp only [List.getElem?_toArray, List.getElem?_cons_succ, List.getElem?_cons_zero]; exact rfl)
  · kernel_rfl
  · kernel_rfl
  · kernel_rfl
  · exact fun _ _ _ h => h
  · (refine Or.inl ⟨by rfl, ?_⟩; intro w hSw; (try dsimp only at hSw); go_simp; try with_reducible rfl)
  · assumption
  try simp only [Act.put, List.setIfInBounds_toArray, List.set_cons_zero, List.set_cons_succ]
  refine wpAnyH_take (i := 5) (oi := ?_) (v := ?_) ?_ ?_ ?_ ?_ ?_ ?_ ?_ ?_
  rotate_left 2
  · (simp only [List.getElem?_toArray, List.getElem?_cons_succ, List.getElem?_cons_zero]; exact rfl)
  · kernel_rfl
  · kernel_rfl
  · kernel_rfl
  · exact fun _ _ _ h => h
  · (refine Or.inl ⟨by rfl, ?_⟩; intro w hSw; (try dsimp only at hSw); go_simp; try with_reducible rfl)
  · assumption
  try simp only [Act.put, List.setIfInBounds_toArray, List.set_cons_zero, List.set_cons_succ]
  refine wpAnyH_ready (rs := [2, 6]) (by kernel_rfl) (by simp) ?_
  refine AllReadyH.cons (o := ?_) ?_ (fun K hK => ?_) ?_
  rotate_left 1
  · (simp only [List.getElem?_toArray, List.getElem?_cons_succ, List.getElem?_cons_zero]; exact rfl)
  · go_simp
    refine hK.out _ _ ?_ (fun hHeld => ?_)
    · (try dsimp only) <;> (first | exact hx | exact hx.alloc_ _ | exact (hx.alloc_ _).alloc_ _ | exact St.weaken (A := [_]) hx)
    clear hK K
    try simp only [Act.put, List.setIfInBounds_toArray, List.set_cons_zero, List.set_cons_succ]
    refine wpAnyH_ready (rs := [3, 6]) (by kernel_rfl) (by simp) ?_
    refine AllReadyH.cons (o := ?_) ?_ (fun K hK => ?_) ?_
    rotate_left 1
    · (simp only [List.getElem?_toArray, List.getElem?_cons_succ, List.getElem?_cons_zero]; exact rfl)
    · go_simp
      (go_at_call 23; (first | with_reducible refine (K1.out _ _ _ (hx.alloc _)).mono ?_ | with_reducible refine (K1.out _ _ _ (hx.alloc2 _ _)).mono ?_ | with_reducible refine (K1.out _ _ _ (hx.alloc2' _ _)).mono ?_); rintro e wx ⟨rfl, hx⟩; dsimp only)
      refine hK.out _ _ ?_ (fun hHeld => ?_)
      · (try dsimp only) <;> (first | exact hx | exact hx.alloc_ _ | exact (hx.alloc_ _).alloc_ _ | exact St.weaken (A := [_]) hx)
      clear hK K
      try simp only [Act.put, List.setIfInBounds_toArray, List.set_cons_zero, List.set_cons_succ]
      refine wpAnyH_ready (rs := [6]) (by kernel_rfl) (by simp) ?_
      refine AllReadyH.cons (o := ?_) ?_ (fun K hK => ?_) ?_
      rotate_left 1
      · (simp only [List.getElem?_toArray, List.getElem?_cons_succ, List.getElem?_cons_zero]; exact rfl)
      · go_simp
        refine hK.out _ _ ?_ (fun hHeld => ?_)
        · (try dsimp only) <;> (first | exact hx | exact hx.alloc_ _ | exact (hx.alloc_ _).alloc_ _ | exact St.weaken (A := [_]) hx)
        clear hK K
        try simp only [Act.put, List.setIfInBounds_toArray, List.set_cons_zero, List.set_cons_succ]
        refine wpAnyH_ready (rs := [7]) (by kernel_rfl) (by simp) ?_
        refine AllReadyH.cons (o := ?_) ?_ (fun K hK => ?_) ?_
        rotate_left 1
        · (simp only [List.getElem?_toArray, List.getElem?_cons_succ, List.getElem?_cons_zero]; exact rfl)
        · go_simp
          (go_at_call 23; (first | with_reducible refine (K2.out _ _ _ (hx)).mono ?_ | with_reducible refine (K2.out _ _ _ (hx.alloc _)).mono ?_); rintro e wx ⟨rfl, hx⟩; dsimp only)
          refine hK.out _ _ ?_ (fun hHeld => ?_)
          · (try dsimp only) <;> (first | exact hx | exact hx.alloc_ _ | exact (hx.alloc_ _).alloc_ _ | exact St.weaken (A := [_]) hx)
          clear hK K
          try simp only [Act.put, List.setIfInBounds_toArray, List.set_cons_zero, List.set_cons_succ]
          refine wpAnyH_take (i := 8) (oi := ?_) (v := ?_) ?_ ?_ ?_ ?_ ?_ ?_ ?_ ?_
          rotate_left 2
          · (simp only [List.getElem?_toArray, List.getElem?_cons_succ, List.getElem?_cons_zero]; exact rfl)
          · kernel_rfl
          · kernel_rfl
          · kernel_rfl
          · exact fun _ _ _ h => h
          · (refine Or.inl ⟨by rfl, ?_⟩; intro w hSw; (try dsimp only at hSw); go_simp; try with_reducible rfl)
          · assumption
          try simp only [Act.put, List.setIfInBounds_toArray, List.set_cons_zero, List.set_cons_succ]
          refine wpAnyH_take (i := 9) (oi := ?_) (v := ?_) ?_ ?_ ?_ ?_ ?_ ?_ ?_ ?_
          rotate_left 2
          · (simp only [List.getElem?_toArray, List.getElem?_cons_succ, List.getElem?_cons_zero]; exact rfl)
          · kernel_rfl
          · kernel_rfl
          · kernel_rfl
          · exact fun _ _ _ h => h
          · (refine Or.inl ⟨by rfl, ?_⟩; intro w hSw; (try dsimp only at hSw); go_simp; try with_reducible rfl)
          · assumption
          try simp only [Act.put, List.setIfInBounds_toArray, List.set_cons_zero, List.set_cons_succ]
          refine wpAnyH_take (i := 10) (oi := ?_) (v := ?_) ?_ ?_ ?_ ?_ ?_ ?_ ?_ ?_
          rotate_left 2
          · (simp only [List.getElem?_toArray, List.getElem?_cons_succ, List.getElem?_cons_zero]; exact rfl)
          · kernel_rfl
          · kernel_rfl
          · kernel_rfl
          · exact fun _ _ _ h => h
          · (refine Or.inl ⟨by rfl, ?_⟩; intro w hSw; (try dsimp only at hSw); go_simp; try with_reducible rfl)
          · assumption
          try simp only [Act.put, List.setIfInBounds_toArray, List.set_cons_zero, List.set_cons_succ]
          refine wpAnyH_take (i := 11) (oi := ?_) (v := ?_) ?_ ?_ ?_ ?_ ?_ ?_ ?_ ?_
          rotate_left 2
          · (simp only [List.getElem?_toArray, List.getElem?_cons_succ, List.getElem?_cons_zero]; exact rfl)
          · kernel_rfl
          · kernel_rfl
          · kernel_rfl
          · exact fun _ _ _ h => h
          · (refine Or.inl ⟨by rfl, ?_⟩; intro w hSw; (try dsimp only at hSw); go_simp; try with_reducible rfl)
          · assumption
          try simp only [Act.put, List.setIfInBounds_toArray, List.set_cons_zero, List.set_cons_succ]
          refine wpAnyH_take (i := 14) (oi := ?_) (v := ?_) ?_ ?_ ?_ ?_ ?_ ?_ ?_ ?_
          rotate_left 2
          · (simp only [List.getElem?_toArray, List.getElem?_cons_succ, List.getElem?_cons_zero]; exact rfl)
          · kernel_rfl
          · kernel_rfl
          · kernel_rfl
          · exact fun _ _ _ h => h
          · (refine Or.inl ⟨by rfl, ?_⟩; intro w hSw; (try dsimp only at hSw); go_simp; try with_reducible rfl)
          · assumption
          try simp only [Act.put, List.setIfInBounds_toArray, List.set_cons_zero, List.set_cons_succ]
          refine wpAnyH_take (i := 15) (oi := ?_) (v := ?_) ?_ ?_ ?_ ?_ ?_ ?_ ?_ ?_
          rotate_left 2
          · (simp only [List.getElem?_toArray, List.getElem?_cons_succ, List.getElem?_cons_zero]; exact rfl)
          · kernel_rfl
          · kernel_rfl
          · kernel_rfl
          · exact fun _ _ _ h => h
          · (refine Or.inl ⟨by rfl, ?_⟩; intro w hSw; (try dsimp only at hSw); go_simp; try with_reducible rfl)
          · assumption
          try simp only [Act.put, List.setIfInBounds_toArray, List.set_cons_zero, List.set_cons_succ]
          refine wpAnyH_ready (rs := [12, 16]) (by kernel_rfl) (by simp) ?_
          refine AllReadyH.cons (o := ?_) ?_ (fun K hK => ?_) ?_
          rotate_left 1
          · (simp only [List.getElem?_toArray, List.getElem?_cons_succ, List.getElem?_cons_zero]; exact rfl)
          · go_simp
            refine hK.out _ _ ?_ (fun hHeld => ?_)
            · (try dsimp only) <;> (first | exact hx | exact hx.alloc_ _ | exact (hx.alloc_ _).alloc_ _ | exact St.weaken (A := [_]) hx)
            clear hK K
            try simp only [Act.put, List.setIfInBounds_toArray, List.set_cons_zero, List.set_cons_succ]
            refine wpAnyH_ready (rs := [13, 16]) (by kernel_rfl) (by simp) ?_
            refine AllReadyH.cons (o := ?_) ?_ (fun K hK => ?_) ?_
            rotate_left 1
            · (simp only [List.getElem?_toArray, List.getElem?_cons_succ, List.getElem?_cons_zero]; exact rfl)
            · go_simp
              (go_at_call 23; (first | with_reducible refine (K3.out _ _ _ (hx.alloc _)).mono ?_ | with_reducible refine (K3.out _ _ _ (hx.alloc2 _ _)).mono ?_ | with_reducible refine (K3.out _ _ _ (hx.alloc2' _ _)).mono ?_); rintro e wx ⟨rfl, hx⟩; dsimp only)
              refine hK.out _ _ ?_ (fun hHeld => ?_)
              · (try dsimp only) <;> (first | exact hx | exact hx.alloc_ _ | exact (hx.alloc_ _).alloc_ _ | exact St.weaken (A := [_]) hx)
              clear hK K
              try simp only [Act.put, List.setIfInBounds_toArray, List.set_cons_zero, List.set_cons_succ]
              refine wpAnyH_ready (rs := [16]) (by kernel_rfl) (by simp) ?_
              refine AllReadyH.cons (o := ?_) ?_ (fun K hK => ?_) ?_
              rotate_left 1
              · (simp only [List.getElem?_toArray, List.getElem?_cons_succ, List.getElem?_cons_zero]; exact rfl)
              · go_simp
                refine hK.out _ _ ?_ (fun hHeld => ?_)
                · (try dsimp only) <;> (first | exact hx | exact hx.alloc_ _ | exact (hx.alloc_ _).alloc_ _ | exact St.weaken (A := [_]) hx)
                clear hK K
                try simp only [Act.put, List.setIfInBounds_toArray, List.set_cons_zero, List.set_cons_succ]
                refine wpAnyH_ready (rs := [17]) (by kernel_rfl) (by simp) ?_
                refine AllReadyH.cons (o := ?_) ?_ (fun K hK => ?_) ?_
                rotate_left 1
                · (simp only [List.getElem?_toArray, List.getElem?_cons_succ, List.getElem?_cons_zero]; exact rfl)
                · go_simp
                  (go_at_call 23; (first | with_reducible refine (K4.out _ _ _ (hx)).mono ?_ | with_reducible refine (K4.out _ _ _ (hx.alloc _)).mono ?_); rintro e wx ⟨rfl, hx⟩; dsimp only)
                  refine hK.out _ _ ?_ (fun hHeld => ?_)
                  · (try dsimp only) <;> (first | exact hx | exact hx.alloc_ _ | exact (hx.alloc_ _).alloc_ _ | exact St.weaken (A := [_]) hx)
                  clear hK K
                  try simp only [Act.put, List.setIfInBounds_toArray, List.set_cons_zero, List.set_cons_succ]
                  refine wpAnyH_take (i := 18) (oi := ?_) (v := ?_) ?_ ?_ ?_ ?_ ?_ ?_ ?_ ?_
                  rotate_left 2
                  · (simp only [List.getElem?_toArray, List.getElem?_cons_succ, List.getElem?_cons_zero]; exact rfl)
                  · kernel_rfl
                  · kernel_rfl
                  · kernel_rfl
                  · exact fun _ _ _ h => h
                  · (refine Or.inl ⟨by rfl, ?_⟩; intro w hSw; (try dsimp only at hSw); go_simp; try with_reducible rfl)
                  · assumption
                  try simp only [Act.put, List.setIfInBounds_toArray, List.set_cons_zero, List.set_cons_succ]
                  refine wpAnyH_take (i := 19) (oi := ?_) (v := ?_) ?_ ?_ ?_ ?_ ?_ ?_ ?_ ?_
                  rotate_left 2
                  · (simp only [List.getElem?_toArray, List.getElem?_cons_succ, List.getElem?_cons_zero]; exact rfl)
                  · kernel_rfl
                  · kernel_rfl
                  · kernel_rfl
                  · exact fun _ _ _ h => h
                  · (refine Or.inl ⟨by rfl, ?_⟩; intro w hSw; (try dsimp only at hSw); go_simp; try with_reducible rfl)
                  · assumption
                  try simp only [Act.put, List.setIfInBounds_toArray, List.set_cons_zero, List.set_cons_succ]
                  refine wpAnyH_take (i := 20) (oi := ?_) (v := ?_) ?_ ?_ ?_ ?_ ?_ ?_ ?_ ?_
                  rotate_left 2
                  · (simp only [List.getElem?_toArray, List.getElem?_cons_succ, List.getElem?_cons_zero]; exact rfl)
                  · kernel_rfl
                  · kernel_rfl
                  · kernel_rfl
                  · exact fun _ _ _ h => h
                  · (refine Or.inl ⟨by rfl, ?_⟩; intro w hSw; (try dsimp only at hSw); go_simp; try with_reducible rfl)
                  · assumption
                  try simp only [Act.put, List.setIfInBounds_toArray, List.set_cons_zero, List.set_cons_succ]
                  refine wpAnyH_take (i := 21) (oi := ?_) (v := ?_) ?_ ?_ ?_ ?_ ?_ ?_ ?_ ?_
                  rotate_left 2
                  · (simp only [List.getElem?_toArray, List.getElem?_cons_succ, List.getElem?_cons_zero]; exact rfl)
                  · kernel_rfl
                  · kernel_rfl
                  · kernel_rfl
                  · exact fun _ _ _ h => h
                  · (refine Or.inl ⟨by rfl, ?_⟩; intro w hSw; (try dsimp only at hSw); go_simp; try with_reducible rfl)
                  · assumption
                  try simp only [Act.put, List.setIfInBounds_toArray, List.set_cons_zero, List.set_cons_succ]
                  refine wpAnyH_take (i := 22) (oi := ?_) (v := ?_) ?_ ?_ ?_ ?_ ?_ ?_ ?_ ?_
                  rotate_left 2
                  · (simp only [List.getElem?_toArray, List.getElem?_cons_succ, List.getElem?_cons_zero]; exact rfl)
                  · kernel_rfl
                  · kernel_rfl
                  · kernel_rfl
                  · exact fun _ _ _ h => h
                  · (refine Or.inl ⟨by rfl, ?_⟩; intro w hSw; (try dsimp only at hSw); go_simp; try with_reducible rfl)
                  · assumption
                  try simp only [Act.put, List.setIfInBounds_toArray, List.set_cons_zero, List.set_cons_succ]
                  refine wpAnyH_take (i := 25) (oi := ?_) (v := ?_) ?_ ?_ ?_ ?_ ?_ ?_ ?_ ?_
                  rotate_left 2
                  · (simp only [List.getElem?_toArray, List.getElem?_cons_succ, List.getElem?_cons_zero]; exact rfl)
                  · kernel_rfl
                  · kernel_rfl
                  · kernel_rfl
                  · exact fun _ _ _ h => h
                  · (refine Or.inl ⟨by rfl, ?_⟩; intro w hSw; (try dsimp only at hSw); go_simp; try with_reducible rfl)
                  · assumption
                  try simp only [Act.put, List.setIfInBounds_toArray, List.set_cons_zero, List.set_cons_succ]
                  refine wpAnyH_take (i := 26) (oi := ?_) (v := ?_) ?_ ?_ ?_ ?_ ?_ ?_ ?_ ?_
                  rotate_left 2
                  · (simp only [List.getElem?_toArray, List.getElem?_cons_succ, List.getElem?_cons_zero]; exact rfl)
                  · kernel_rfl
                  · kernel_rfl
                  · kernel_rfl
                  · exact fun _ _ _ h => h
                  · (refine Or.inl ⟨by rfl, ?_⟩; intro w hSw; (try dsimp only at hSw); go_simp; try with_reducible rfl)
                  · assumption
                  try simp only [Act.put, List.setIfInBounds_toArray, List.set_cons_zero, List.set_cons_succ]
                  refine wpAnyH_ready (rs := [23, 27]) (by kernel_rfl) (by simp) ?_
                  refine AllReadyH.cons (o := ?_) ?_ (fun K hK => ?_) ?_
                  rotate_left 1
                  · (simp only [List.getElem?_toArray, List.getElem?_cons_succ, List.getElem?_cons_zero]; exact rfl)
                  · go_simp
                    refine hK.out _ _ ?_ (fun hHeld => ?_)
                    · (try dsimp only) <;> (first | exact hx | exact hx.alloc_ _ | exact (hx.alloc_ _).alloc_ _ | exact St.weaken (A := [_]) hx)
                    clear hK K
                    try simp only [Act.put, List.setIfInBounds_toArray, List.set_cons_zero, List.set_cons_succ]
                    refine wpAnyH_ready (rs := [24, 27]) (by kernel_rfl) (by simp) ?_
                    refine AllReadyH.cons (o := ?_) ?_ (fun K hK => ?_) ?_
                    rotate_left 1
                    · (simp only [List.getElem?_toArray, List.getElem?_cons_succ, List.getElem?_cons_zero]; exact rfl)
                    · go_simp
                      (go_at_call 23; (first | with_reducible refine (K5.out _ _ _ (hx.alloc _)).mono ?_ | with_reducible refine (K5.out _ _ _ (hx.alloc2 _ _)).mono ?_ | with_reducible refine (K5.out _ _ _ (hx.alloc2' _ _)).mono ?_); rintro e wx ⟨rfl, hx⟩; dsimp only)
                      refine hK.out _ _ ?_ (fun hHeld => ?_)
                      · (try dsimp only) <;> (first | exact hx | exact hx.alloc_ _ | exact (hx.alloc_ _).alloc_ _ | exact St.weaken (A := [_]) hx)
                      clear hK K
                      try simp only [Act.put, List.setIfInBounds_toArray, List.set_cons_zero, List.set_cons_succ]
                      refine wpAnyH_ready (rs := [27]) (by kernel_rfl) (by simp) ?_
                      refine AllReadyH.cons (o := ?_) ?_ (fun K hK => ?_) ?_
                      rotate_left 1
                      · (simp only [List.getElem?_toArray, List.getElem?_cons_succ, List.getElem?_cons_zero]; exact rfl)
                      · go_simp
                        refine hK.out _ _ ?_ (fun hHeld => ?_)
                        · (try dsimp only) <;> (first | exact hx | exact hx.alloc_ _ | exact (hx.alloc_ _).alloc_ _ | exact St.weaken (A := [_]) hx)
                        clear hK K
                        try simp only [Act.put, List.setIfInBounds_toArray, List.set_cons_zero, List.set_cons_succ]
                        refine wpAnyH_ready (rs := [28]) (by kernel_rfl) (by simp) ?_
                        refine AllReadyH.cons (o := ?_) ?_ (fun K hK => ?_) ?_
                        rotate_left 1
                        · (simp only [List.getElem?_toArray, List.getElem?_cons_succ, List.getElem?_cons_zero]; exact rfl)
                        · go_simp
                          (go_at_call 23; (first | with_reducible refine (K6.out _ _ _ (hx)).mono ?_ | with_reducible refine (K6.out _ _ _ (hx.alloc _)).mono ?_); rintro e wx ⟨rfl, hx⟩; dsimp only)
                          refine hK.out _ _ ?_ (fun hHeld => ?_)
                          · (try dsimp only) <;> (first | exact hx | exact hx.alloc_ _ | exact (hx.alloc_ _).alloc_ _ | exact St.weaken (A := [_]) hx)
                          clear hK K
                          try simp only [Act.put, List.setIfInBounds_toArray, List.set_cons_zero, List.set_cons_succ]
                          refine wpAnyH_take (i := 29) (oi := ?_) (v := ?_) ?_ ?_ ?_ ?_ ?_ ?_ ?_ ?_
                          rotate_left 2
                          · (simp only [List.getElem?_toArray, List.getElem?_cons_succ, List.getElem?_cons_zero]; exact rfl)
                          · kernel_rfl
                          · kernel_rfl
                          · kernel_rfl
                          · exact fun _ _ _ h => h
                          · (refine Or.inl ⟨by rfl, ?_⟩; intro w hSw; (try dsimp only at hSw); go_simp; try with_reducible rfl)
                          · assumption
                          try simp only [Act.put, List.setIfInBounds_toArray, List.set_cons_zero, List.set_cons_succ]
                          refine wpAnyH_take (i := 30) (oi := ?_) (v := ?_) ?_ ?_ ?_ ?_ ?_ ?_ ?_ ?_
                          rotate_left 2
                          · (simp only [List.getElem?_toArray, List.getElem?_cons_succ, List.getElem?_cons_zero]; exact rfl)
                          · kernel_rfl
                          · kernel_rfl
                          · kernel_rfl
                          · exact fun _ _ _ h => h
                          · (refine Or.inl ⟨by rfl, ?_⟩; intro w hSw; (try dsimp only at hSw); go_simp; try with_reducible rfl)
                          · assumption
                          try simp only [Act.put, List.setIfInBounds_toArray, List.set_cons_zero, List.set_cons_succ]
                          refine wpAnyH_take (i := 31) (oi := ?_) (v := ?_) ?_ ?_ ?_ ?_ ?_ ?_ ?_ ?_
                          rotate_left 2
                          · (simp only [List.getElem?_toArray, List.getElem?_cons_succ, List.getElem?_cons_zero]; exact rfl)
                          · kernel_rfl
                          · kernel_rfl
                          · kernel_rfl
                          · exact fun _ _ _ h => h
                          · (refine Or.inl ⟨by rfl, ?_⟩; intro w hSw; (try dsimp only at hSw); go_simp; try with_reducible rfl)
                          · assumption
                          try simp only [Act.put, List.setIfInBounds_toArray, List.set_cons_zero, List.set_cons_succ]
                          refine wpAnyH_done (by kernel_rfl) ?_ _
                          have hfin := hx.below HLE.out
                          go_wp2_with fail
                          go_ret
                          exact ⟨rfl, hfin⟩
                        exact AllReadyH.nil
                      exact AllReadyH.nil
                    refine AllReadyH.cons (o := ?_) ?_ (fun K hK => ?_) ?_
                    rotate_left 1
                    · (simp only [List.getElem?_toArray, List.getElem?_cons_succ, List.getElem?_cons_zero]; exact rfl)
                    · go_simp
                      refine hK.out _ _ ?_ (fun hHeld => ?_)
                      · (try dsimp only) <;> (first | exact hx | exact hx.alloc_ _ | exact (hx.alloc_ _).alloc_ _ | exact St.weaken (A := [_]) hx)
                      clear hK K
                      try simp only [Act.put, List.setIfInBounds_toArray, List.set_cons_zero, List.set_cons_succ]
                      refine wpAnyH_ready (rs := [24]) (by kernel_rfl) (by simp) ?_
                      refine AllReadyH.cons (o := ?_) ?_ (fun K hK => ?_) ?_
                      rotate_left 1
                      · (simp only [List.getElem?_toArray, List.getElem?_cons_succ, List.getElem?_cons_zero]; exact rfl)
                      · go_simp
                        (go_at_call 23; (first | with_reducible refine (K5.out _ _ _ (hx.alloc _)).mono ?_ | with_reducible refine (K5.out _ _ _ (hx.alloc2 _ _)).mono ?_ | with_reducible refine (K5.out _ _ _ (hx.alloc2' _ _)).mono ?_); rintro e wx ⟨rfl, hx⟩; dsimp only)
                        refine hK.out _ _ ?_ (fun hHeld => ?_)
                        · (try dsimp only) <;> (first | exact hx | exact hx.alloc_ _ | exact (hx.alloc_ _).alloc_ _ | exact St.weaken (A := [_]) hx)
                        clear hK K
                        try simp only [Act.put, List.setIfInBounds_toArray, List.set_cons_zero, List.set_cons_succ]
                        refine wpAnyH_ready (rs := [28]) (by kernel_rfl) (by simp) ?_
                        refine AllReadyH.cons (o := ?_) ?_ (fun K hK => ?_) ?_
                        rotate_left 1
                        · (simp only [List.getElem?_toArray, List.getElem?_cons_succ, List.getElem?_cons_zero]; exact rfl)
                        · go_simp
                          (go_at_call 23; (first | with_reducible refine (K6.out _ _ _ (hx)).mono ?_ | with_reducible refine (K6.out _ _ _ (hx.alloc _)).mono ?_); rintro e wx ⟨rfl, hx⟩; dsimp only)
                          refine hK.out _ _ ?_ (fun hHeld => ?_)
                          · (try dsimp only) <;> (first | exact hx | exact hx.alloc_ _ | exact (hx.alloc_ _).alloc_ _ | exact St.weaken (A := [_]) hx)
                          clear hK K
                          try simp only [Act.put, List.setIfInBounds_toArray, List.set_cons_zero, List.set_cons_succ]
                          refine wpAnyH_take (i := 29) (oi := ?_) (v := ?_) ?_ ?_ ?_ ?_ ?_ ?_ ?_ ?_
                          rotate_left 2
                          · (simp only [List.getElem?_toArray, List.getElem?_cons_succ, List.getElem?_cons_zero]; exact rfl)
                          · kernel_rfl
                          · kernel_rfl
                          · kernel_rfl
                          · exact fun _ _ _ h => h
                          · (refine Or.inl ⟨by rfl, ?_⟩; intro w hSw; (try dsimp only at hSw); go_simp; try with_reducible rfl)
                          · assumption
                          try simp only [Act.put, List.setIfInBounds_toArray, List.set_cons_zero, List.set_cons_succ]
                          refine wpAnyH_take (i := 30) (oi := ?_) (v := ?_) ?_ ?_ ?_ ?_ ?_ ?_ ?_ ?_
                          rotate_left 2
                          · (simp only [List.getElem?_toArray, List.getElem?_cons_succ, List.getElem?_cons_zero]; exact rfl)
                          · kernel_rfl
                          · kernel_rfl
                          · kernel_rfl
                          · exact fun _ _ _ h => h
                          · (refine Or.inl ⟨by rfl, ?_⟩; intro w hSw; (try dsimp only at hSw); go_simp; try with_reducible rfl)
                          · assumption
                          try simp only [Act.put, List.setIfInBounds_toArray, List.set_cons_zero, List.set_cons_succ]
                          refine wpAnyH_take (i := 31) (oi := ?_) (v := ?_) ?_ ?_ ?_ ?_ ?_ ?_ ?_ ?_
                          rotate_left 2
                          · (simp only [List.getElem?_toArray, List.getElem?_cons_succ, List.getElem?_cons_zero]; exact rfl)
                          · kernel_rfl
                          · kernel_rfl
                          · kernel_rfl
                          · exact fun _ _ _ h => h
                          · (refine Or.inl ⟨by rfl, ?_⟩; intro w hSw; (try dsimp only at hSw); go_simp; try with_reducible rfl)
                          · assumption
                          try simp only [Act.put, List.setIfInBounds_toArray, List.set_cons_zero, List.set_cons_succ]
                          refine wpAnyH_done (by kernel_rfl) ?_ _
                          have hfin := hx.below HLE.out
                          go_wp2_with fail
                          go_ret
                          exact ⟨rfl, hfin⟩
                        exact AllReadyH.nil
                      exact AllReadyH.nil
                    exact AllReadyH.nil
                  refine AllReadyH.cons (o := ?_) ?_ (fun K hK => ?_) ?_
                  rotate_left 1
                  · (simp only [List.getElem?_toArray, List.getElem?_cons_succ, List.getElem?_cons_zero]; exact rfl)
                  · go_simp
                    refine hK.out _ _ ?_ (fun hHeld => ?_)
                    · (try dsimp only) <;> (first | exact hx | exact hx.alloc_ _ | exact (hx.alloc_ _).alloc_ _ | exact St.weaken (A := [_]) hx)
                    clear hK K
                    try simp only [Act.put, List.setIfInBounds_toArray, List.set_cons_zero, List.set_cons_succ]
                    refine wpAnyH_ready (rs := [23]) (by kernel_rfl) (by simp) ?_
                    refine AllReadyH.cons (o := ?_) ?_ (fun K hK => ?_) ?_
                    rotate_left 1
                    · (simp only [List.getElem?_toArray, List.getElem?_cons_succ, List.getElem?_cons_zero]; exact rfl)
                    · go_simp
                      refine hK.out _ _ ?_ (fun hHeld => ?_)
                      · (try dsimp only) <;> (first | exact hx | exact hx.alloc_ _ | exact (hx.alloc_ _).alloc_ _ | exact St.weaken (A := [_]) hx)
                      clear hK K
                      try simp only [Act.put, List.setIfInBounds_toArray, List.set_cons_zero, List.set_cons_succ]
                      refine wpAnyH_ready (rs := [24]) (by kernel_rfl) (by simp) ?_
                      refine AllReadyH.cons (o := ?_) ?_ (fun K hK => ?_) ?_
                      rotate_left 1
                      · (simp only [List.getElem?_toArray, List.getElem?_cons_succ, List.getElem?_cons_zero]; exact rfl)
                      · go_simp
                        (go_at_call 23; (first | with_reducible refine (K5.out _ _ _ (hx.alloc _)).mono ?_ | with_reducible refine (K5.out _ _ _ (hx.alloc2 _ _)).mono ?_ | with_reducible refine (K5.out _ _ _ (hx.alloc2' _ _)).mono ?_); rintro e wx ⟨rfl, hx⟩; dsimp only)
                        refine hK.out _ _ ?_ (fun hHeld => ?_)
                        · (try dsimp only) <;> (first | exact hx | exact hx.alloc_ _ | exact (hx.alloc_ _).alloc_ _ | exact St.weaken (A := [_]) hx)
                        clear hK K
                        try simp only [Act.put, List.setIfInBounds_toArray, List.set_cons_zero, List.set_cons_succ]
                        refine wpAnyH_ready (rs := [28]) (by kernel_rfl) (by simp) ?_
                        refine AllReadyH.cons (o := ?_) ?_ (fun K hK => ?_) ?_
                        rotate_left 1
                        · (simp only [List.getElem?_toArray, List.getElem?_cons_succ, List.getElem?_cons_zero]; exact rfl)
                        · go_simp
                          (go_at_call 23; (first | with_reducible refine (K6.out _ _ _ (hx)).mono ?_ | with_reducible refine (K6.out _ _ _ (hx.alloc _)).mono ?_); rintro e wx ⟨rfl, hx⟩; dsimp only)
                          refine hK.out _ _ ?_ (fun hHeld => ?_)
                          · (try dsimp only) <;> (first | exact hx | exact hx.alloc_ _ | exact (hx.alloc_ _).alloc_ _ | exact St.weaken (A := [_]) hx)
                          clear hK K
                          try simp only [Act.put, List.setIfInBounds_toArray, List.set_cons_zero, List.set_cons_succ]
                          refine wpAnyH_take (i := 29) (oi := ?_) (v := ?_) ?_ ?_ ?_ ?_ ?_ ?_ ?_ ?_
                          rotate_left 2
                          · (simp only [List.getElem?_toArray, List.getElem?_cons_succ, List.getElem?_cons_zero]; exact rfl)
                          · kernel_rfl
                          · kernel_rfl
                          · kernel_rfl
                          · exact fun _ _ _ h => h
                          · (refine Or.inl ⟨by rfl, ?_⟩; intro w hSw; (try dsimp only at hSw); go_simp; try with_reducible rfl)
                          · assumption
                          try simp only [Act.put, List.setIfInBounds_toArray, List.set_cons_zero, List.set_cons_succ]
                          refine wpAnyH_take (i := 30) (oi := ?_) (v := ?_) ?_ ?_ ?_ ?_ ?_ ?_ ?_ ?_
                          rotate_left 2
                          · (simp only [List.getElem?_toArray, List.getElem?_cons_succ, List.getElem?_cons_zero]; exact rfl)
                          · kernel_rfl
                          · kernel_rfl
                          · kernel_rfl
                          · exact fun _ _ _ h => h
                          · (refine Or.inl ⟨by rfl, ?_⟩; intro w hSw; (try dsimp only at hSw); go_simp; try with_reducible rfl)
                          · assumption
                          try simp only [Act.put, List.setIfInBounds_toArray, List.set_cons_zero, List.set_cons_succ]
                          refine wpAnyH_take (i := 31) (oi := ?_) (v := ?_) ?_ ?_ ?_ ?_ ?_ ?_ ?_ ?_
                          rotate_left 2
                          · (simp only [List.getElem?_toArray, List.getElem?_cons_succ, List.getElem?_cons_zero]; exact rfl)
                          · kernel_rfl
                          · kernel_rfl
                          · kernel_rfl
                          · exact fun _ _ _ h => h
                          · (refine Or.inl ⟨by rfl, ?_⟩; intro w hSw; (try dsimp only at hSw); go_simp; try with_reducible rfl)
                          · assumption
                          try simp only [Act.put, List.setIfInBounds_toArray, List.set_cons_zero, List.set_cons_succ]
                          refine wpAnyH_done (by kernel_rfl) ?_ _
                          have hfin := hx.below HLE.out
                          go_wp2_with fail
                          go_ret
                          exact ⟨rfl, hfin⟩
                        exact AllReadyH.nil
                      exact AllReadyH.nil
                    exact AllReadyH.nil
                  exact AllReadyH.nil
                exact AllReadyH.nil
              exact AllReadyH.nil
            refine AllReadyH.cons (o := ?_) ?_ (fun K hK => ?_) ?_
            rotate_left 1
            · (simp only [List.getElem?_toArray, List.getElem?_cons_succ, List.getElem?_cons_zero]; exact rfl)
            · go_simp
              refine hK.out _ _ ?_ (fun hHeld => ?_)
              · (try dsimp only) <;> (first | exact hx | exact hx.alloc_ _ | exact (hx.alloc_ _).alloc_ _ | exact St.weaken (A := [_]) hx)
              clear hK K
              try simp only [Act.put, List.setIfInBounds_toArray, List.set_cons_zero, List.set_cons_succ]
              refine wpAnyH_ready (rs := [13]) (by kernel_rfl) (by simp) ?_
              refine AllReadyH.cons (o := ?_) ?_ (fun K hK => ?_) ?_
              rotate_left 1
              · (simp only [List.getElem?_toArray, List.getElem?_cons_succ, List.getElem?_cons_zero]; exact rfl)
              · go_simp
                (go_at_call 23; (first | with_reducible refine (K3.out _ _ _ (hx.alloc _)).mono ?_ | with_reducible refine (K3.out _ _ _ (hx.alloc2 _ _)).mono ?_ | with_reducible refine (K3.out _ _ _ (hx.alloc2' _ _)).mono ?_); rintro e wx ⟨rfl, hx⟩; dsimp only)
                refine hK.out _ _ ?_ (fun hHeld => ?_)
                · (try dsimp only) <;> (first | exact hx | exact hx.alloc_ _ | exact (hx.alloc_ _).alloc_ _ | exact St.weaken (A := [_]) hx)
                clear hK K
                try simp only [Act.put, List.setIfInBounds_toArray, List.set_cons_zero, List.set_cons_succ]
                refine wpAnyH_ready (rs := [17]) (by kernel_rfl) (by simp) ?_
                refine AllReadyH.cons (o := ?_) ?_ (fun K hK => ?_) ?_
                rotate_left 1
                · (simp only [List.getElem?_toArray, List.getElem?_cons_succ, List.getElem?_cons_zero]; exact rfl)
                · go_simp
                  (go_at_call 23; (first | with_reducible refine (K4.out _ _ _ (hx)).mono ?_ | with_reducible refine (K4.out _ _ _ (hx.alloc _)).mono ?_); rintro e wx ⟨rfl, hx⟩; dsimp only)
                  refine hK.out _ _ ?_ (fun hHeld => ?_)
                  · (try dsimp only) <;> (first | exact hx | exact hx.alloc_ _ | exact (hx.alloc_ _).alloc_ _ | exact St.weaken (A := [_]) hx)
                  clear hK K
                  try simp only [Act.put, List.setIfInBounds_toArray, List.set_cons_zero, List.set_cons_succ]
                  refine wpAnyH_take (i := 18) (oi := ?_) (v := ?_) ?_ ?_ ?_ ?_ ?_ ?_ ?_ ?_
                  rotate_left 2
                  · (simp only [List.getElem?_toArray, List.getElem?_cons_succ, List.getElem?_cons_zero]; exact rfl)
                  · kernel_rfl
                  · kernel_rfl
                  · kernel_rfl
                  · exact fun _ _ _ h => h
                  · (refine Or.inl ⟨by rfl, ?_⟩; intro w hSw; (try dsimp only at hSw); go_simp; try with_reducible rfl)
                  · assumption
                  try simp only [Act.put, List.setIfInBounds_toArray, List.set_cons_zero, List.set_cons_succ]
                  refine wpAnyH_take (i := 19) (oi := ?_) (v := ?_) ?_ ?_ ?_ ?_ ?_ ?_ ?_ ?_
                  rotate_left 2
                  · (simp only [List.getElem?_toArray, List.getElem?_cons_succ, List.getElem?_cons_zero]; exact rfl)
                  · kernel_rfl
                  · kernel_rfl
                  · kernel_rfl
                  · exact fun _ _ _ h => h
                  · (refine Or.inl ⟨by rfl, ?_⟩; intro w hSw; (try dsimp only at hSw); go_simp; try with_reducible rfl)
                  · assumption
                  try simp only [Act.put, List.setIfInBounds_toArray, List.set_cons_zero, List.set_cons_succ]
                  refine wpAnyH_take (i := 20) (oi := ?_) (v := ?_) ?_ ?_ ?_ ?_ ?_ ?_ ?_ ?_
                  rotate_left 2
                  · (simp only [List.getElem?_toArray, List.getElem?_cons_succ, List.getElem?_cons_zero]; exact rfl)
                  · kernel_rfl
                  · kernel_rfl
                  · kernel_rfl
                  · exact fun _ _ _ h => h
                  · (refine Or.inl ⟨by rfl, ?_⟩; intro w hSw; (try dsimp only at hSw); go_simp; try with_reducible rfl)
                  · assumption
                  try simp only [Act.put, List.setIfInBounds_toArray, List.set_cons_zero, List.set_cons_succ]
                  refine wpAnyH_take (i := 21) (oi := ?_) (v := ?_) ?_ ?_ ?_ ?_ ?_ ?_ ?_ ?_
                  rotate_left 2
                  · (simp only [List.getElem?_toArray, List.getElem?_cons_succ, List.getElem?_cons_zero]; exact rfl)
                  · kernel_rfl
                  · kernel_rfl
                  · kernel_rfl
                  · exact fun _ _ _ h => h
                  · (refine Or.inl ⟨by rfl, ?_⟩; intro w hSw; (try dsimp only at hSw); go_simp; try with_reducible rfl)
                  · assumption
                  try simp only [Act.put, List.setIfInBounds_toArray, List.set_cons_zero, List.set_cons_succ]
                  refine wpAnyH_take (i := 22) (oi := ?_) (v := ?_) ?_ ?_ ?_ ?_ ?_ ?_ ?_ ?_
                  rotate_left 2
                  · (simp only [List.getElem?_toArray, List.getElem?_cons_succ, List.getElem?_cons_zero]; exact rfl)
                  · kernel_rfl
                  · kernel_rfl
                  · kernel_rfl
                  · exact fun _ _ _ h => h
                  · (refine Or.inl ⟨by rfl, ?_⟩; intro w hSw; (try dsimp only at hSw); go_simp; try with_reducible rfl)
                  · assumption
                  try simp only [Act.put, List.setIfInBounds_toArray, List.set_cons_zero, List.set_cons_succ]
                  refine wpAnyH_take (i := 25) (oi := ?_) (v := ?_) ?_ ?_ ?_ ?_ ?_ ?_ ?_ ?_
                  rotate_left 2
                  · (simp only [List.getElem?_toArray, List.getElem?_cons_succ, List.getElem?_cons_zero]; exact rfl)
                  · kernel_rfl
                  · kernel_rfl
                  · kernel_rfl
                  · exact fun _ _ _ h => h
                  · (refine Or.inl ⟨by rfl, ?_⟩; intro w hSw; (try dsimp only at hSw); go_simp; try with_reducible rfl)
                  · assumption
                  try simp only [Act.put, List.setIfInBounds_toArray, List.set_cons_zero, List.set_cons_succ]
                  refine wpAnyH_take (i := 26) (oi := ?_) (v := ?_) ?_ ?_ ?_ ?_ ?_ ?_ ?_ ?_
                  rotate_left 2
                  · (simp only [List.getElem?_toArray, List.getElem?_cons_succ, List.getElem?_cons_zero]; exact rfl)
                  · kernel_rfl
                  · kernel_rfl
                  · kernel_rfl
                  · exact fun _ _ _ h => h
                  · (refine Or.inl ⟨by rfl, ?_⟩; intro w hSw; (try dsimp only at hSw); go_simp; try with_reducible rfl)
                  · assumption
                  try simp only [Act.put, List.setIfInBounds_toArray, List.set_cons_zero, List.set_cons_succ]
                  refine wpAnyH_ready (rs := [23, 27]) (by kernel_rfl) (by simp) ?_
                  refine AllReadyH.cons (o := ?_) ?_ (fun K hK => ?_) ?_
                  rotate_left 1
                  · (simp only [List.getElem?_toArray, List.getElem?_cons_succ, List.getElem?_cons_zero]; exact rfl)
                  · go_simp
                    refine hK.out _ _ ?_ (fun hHeld => ?_)
                    · (try dsimp only) <;> (first | exact hx | exact hx.alloc_ _ | exact (hx.alloc_ _).alloc_ _ | exact St.weaken (A := [_]) hx)
                    clear hK K
                    try simp only [Act.put, List.setIfInBounds_toArray, List.set_cons_zero, List.set_cons_succ]
                    refine wpAnyH_ready (rs := [24, 27]) (by kernel_rfl) (by simp) ?_
                    refine AllReadyH.cons (o := ?_) ?_ (fun K hK => ?_) ?_
                    rotate_left 1
                    · (simp only [List.getElem?_toArray, List.getElem?_cons_succ, List.getElem?_cons_zero]; exact rfl)
                    · go_simp
                      (go_at_call 23; (first | with_reducible refine (K5.out _ _ _ (hx.alloc _)).mono ?_ | with_reducible refine (K5.out _ _ _ (hx.alloc2 _ _)).mono ?_ | with_reducible refine (K5.out _ _ _ (hx.alloc2' _ _)).mono ?_); rintro e wx ⟨rfl, hx⟩; dsimp only)
                      refine hK.out _ _ ?_ (fun hHeld => ?_)
                      · (try dsimp only) <;> (first | exact hx | exact hx.alloc_ _ | exact (hx.alloc_ _).alloc_ _ | exact St.weaken (A := [_]) hx)
                      clear hK K
                      try simp only [Act.put, List.setIfInBounds_toArray, List.set_cons_zero, List.set_cons_succ]
                      refine wpAnyH_ready (rs := [27]) (by kernel_rfl) (by simp) ?_
                      refine AllReadyH.cons (o := ?_) ?_ (fun K hK => ?_) ?_
                      rotate_left 1
                      · (simp only [List.getElem?_toArray, List.getElem?_cons_succ, List.getElem?_cons_zero]; exact rfl)
                      · go_simp
                        refine hK.out _ _ ?_ (fun hHeld => ?_)
                        · (try dsimp only) <;> (first | exact hx | exact hx.alloc_ _ | exact (hx.alloc_ _).alloc_ _ | exact St.weaken (A := [_]) hx)
                        clear hK K
                        try simp only [Act.put, List.setIfInBounds_toArray, List.set_cons_zero, List.set_cons_succ]
                        refine wpAnyH_ready (rs := [28]) (by kernel_rfl) (by simp) ?_
                        refine AllReadyH.cons (o := ?_) ?_ (fun K hK => ?_) ?_
                        rotate_left 1
                        · (simp only [List.getElem?_toArray, List.getElem?_cons_succ, List.getElem?_cons_zero]; exact rfl)
                        · go_simp
                          (go_at_call 23; (first | with_reducible refine (K6.out _ _ _ (hx)).mono ?_ | with_reducible refine (K6.out _ _ _ (hx.alloc _)).mono ?_); rintro e wx ⟨rfl, hx⟩; dsimp only)
                          refine hK.out _ _ ?_ (fun hHeld => ?_)
                          · (try dsimp only) <;> (first | exact hx | exact hx.alloc_ _ | exact (hx.alloc_ _).alloc_ _ | exact St.weaken (A := [_]) hx)
                          clear hK K
                          try simp only [Act.put, List.setIfInBounds_toArray, List.set_cons_zero, List.set_cons_succ]
                          refine wpAnyH_take (i := 29) (oi := ?_) (v := ?_) ?_ ?_ ?_ ?_ ?_ ?_ ?_ ?_
                          rotate_left 2
                          · (simp only [List.getElem?_toArray, List.getElem?_cons_succ, List.getElem?_cons_zero]; exact rfl)
                          · kernel_rfl
                          · kernel_rfl
                          · kernel_rfl
                          · exact fun _ _ _ h => h
                          · (refine Or.inl ⟨by rfl, ?_⟩; intro w hSw; (try dsimp only at hSw); go_simp; try with_reducible rfl)
                          · assumption
                          try simp only [Act.put, List.setIfInBounds_toArray, List.set_cons_zero, List.set_cons_succ]
                          refine wpAnyH_take (i := 30) (oi := ?_) (v := ?_) ?_ ?_ ?_ ?_ ?_ ?_ ?_ ?_
                          rotate_left 2
                          · (simp only [List.getElem?_toArray, List.getElem?_cons_succ, List.getElem?_cons_zero]; exact rfl)
                          · kernel_rfl
                          · kernel_rfl
                          · kernel_rfl
                          · exact fun _ _ _ h => h
                          · (refine Or.inl ⟨by rfl, ?_⟩; intro w hSw; (try dsimp only at hSw); go_simp; try with_reducible rfl)
                          · assumption
                          try simp only [Act.put, List.setIfInBounds_toArray, List.set_cons_zero, List.set_cons_succ]
                          refine wpAnyH_take (i := 31) (oi := ?_) (v := ?_) ?_ ?_ ?_ ?_ ?_ ?_ ?_ ?_
                          rotate_left 2
                          · (simp only [List.getElem?_toArray, List.getElem?_cons_succ, List.getElem?_cons_zero]; exact rfl)
                          · kernel_rfl
                          · kernel_rfl
                          · kernel_rfl
                          · exact fun _ _ _ h => h
                          · (refine Or.inl ⟨by rfl, ?_⟩; intro w hSw; (try dsimp only at hSw); go_simp; try with_reducible rfl)
                          · assumption
                          try simp only [Act.put, List.setIfInBounds_toArray, List.set_cons_zero, List.set_cons_succ]
                          refine wpAnyH_done (by kernel_rfl) ?_ _
                          have hfin := hx.below HLE.out
                          go_wp2_with fail
                          go_ret
                          exact ⟨rfl, hfin⟩
                        exact AllReadyH.nil
                      exact AllReadyH.nil
                    refine AllReadyH.cons (o := ?_) ?_ (fun K hK => ?_) ?_
                    rotate_left 1
                    · (simp only [List.getElem?_toArray, List.getElem?_cons_succ, List.getElem?_cons_zero]; exact rfl)
                    · go_simp
                      refine hK.out _ _ ?_ (fun hHeld => ?_)
                      · (try dsimp only) <;> (first | exact hx | exact hx.alloc_ _ | exact (hx.alloc_ _).alloc_ _ | exact St.weaken (A := [_]) hx)
                      clear hK K
                      try simp only [Act.put, List.setIfInBounds_toArray, List.set_cons_zero, List.set_cons_succ]
                      refine wpAnyH_ready (rs := [24]) (by kernel_rfl) (by simp) ?_
                      refine AllReadyH.cons (o := ?_) ?_ (fun K hK => ?_) ?_
                      rotate_left 1
                      · (simp only [List.getElem?_toArray, List.getElem?_cons_succ, List.getElem?_cons_zero]; exact rfl)
                      · go_simp
                        (go_at_call 23; (first | with_reducible refine (K5.out _ _ _ (hx.alloc _)).mono ?_ | with_reducible refine (K5.out _ _ _ (hx.alloc2 _ _)).mono ?_ | with_reducible refine (K5.out _ _ _ (hx.alloc2' _ _)).mono ?_); rintro e wx ⟨rfl, hx⟩; dsimp only)
                        refine hK.out _ _ ?_ (fun hHeld => ?_)
                        · (try dsimp only) <;> (first | exact hx | exact hx.alloc_ _ | exact (hx.alloc_ _).alloc_ _ | exact St.weaken (A := [_]) hx)
                        clear hK K
                        try simp only [Act.put, List.setIfInBounds_toArray, List.set_cons_zero, List.set_cons_succ]
                        refine wpAnyH_ready (rs := [28]) (by kernel_rfl) (by simp) ?_
                        refine AllReadyH.cons (o := ?_) ?_ (fun K hK => ?_) ?_
                        rotate_left 1
                        · (simp only [List.getElem?_toArray, List.getElem?_cons_succ, List.getElem?_cons_zero]; exact rfl)
                        · go_simp
                          (go_at_call 23; (first | with_reducible refine (K6.out _ _ _ (hx)).mono ?_ | with_reducible refine (K6.out _ _ _ (hx.alloc _)).mono ?_); rintro e wx ⟨rfl, hx⟩; dsimp only)
                          refine hK.out _ _ ?_ (fun hHeld => ?_)
                          · (try dsimp only) <;> (first | exact hx | exact hx.alloc_ _ | exact (hx.alloc_ _).alloc_ _ | exact St.weaken (A := [_]) hx)
                          clear hK K
                          try simp only [Act.put, List.setIfInBounds_toArray, List.set_cons_zero, List.set_cons_succ]
                          refine wpAnyH_take (i := 29) (oi := ?_) (v := ?_) ?_ ?_ ?_ ?_ ?_ ?_ ?_ ?_
                          rotate_left 2
                          · (simp only [List.getElem?_toArray, List.getElem?_cons_succ, List.getElem?_cons_zero]; exact rfl)
                          · kernel_rfl
                          · kernel_rfl
                          · kernel_rfl
                          · exact fun _ _ _ h => h
                          · (refine Or.inl ⟨by rfl, ?_⟩; intro w hSw; (try dsimp only at hSw); go_simp; try with_reducible rfl)
                          · assumption
                          try simp only [Act.put, List.setIfInBounds_toArray, List.set_cons_zero, List.set_cons_succ]
                          refine wpAnyH_take (i := 30) (oi := ?_) (v := ?_) ?_ ?_ ?_ ?_ ?_ ?_ ?_ ?_
                          rotate_left 2
                          · (simp only [List.getElem?_toArray, List.getElem?_cons_succ, List.getElem?_cons_zero]; exact rfl)
                          · kernel_rfl
                          · kernel_rfl
                          · kernel_rfl
                          · exact fun _ _ _ h => h
                          · (refine Or.inl ⟨by rfl, ?_⟩; intro w hSw; (try dsimp only at hSw); go_simp; try with_reducible rfl)
                          · assumption
                          try simp only [Act.put, List.setIfInBounds_toArray, List.set_cons_zero, List.set_cons_succ]
                          refine wpAnyH_take (i := 31) (oi := ?_) (v := ?_) ?_ ?_ ?_ ?_ ?_ ?_ ?_ ?_
                          rotate_left 2
                          · (simp only [List.getElem?_toArray, List.getElem?_cons_succ, List.getElem?_cons_zero]; exact rfl)
                          · kernel_rfl
                          · kernel_rfl
                          · kernel_rfl
                          · exact fun _ _ _ h => h
                          · (refine Or.inl ⟨by rfl, ?_⟩; intro w hSw; (try dsimp only at hSw); go_simp; try with_reducible rfl)
                          · assumption
                          try simp only [Act.put, List.setIfInBounds_toArray, List.set_cons_zero, List.set_cons_succ]
                          refine wpAnyH_done (by kernel_rfl) ?_ _
                          have hfin := hx.below HLE.out
                          go_wp2_with fail
                          go_ret
                          exact ⟨rfl, hfin⟩
                        exact AllReadyH.nil
                      exact AllReadyH.nil
                    exact AllReadyH.nil
                  refine AllReadyH.cons (o := ?_) ?_ (fun K hK => ?_) ?_
                  rotate_left 1
                  · (simp only [List.getElem?_toArray, List.getElem?_cons_succ, List.getElem?_cons_zero]; exact rfl)
                  · go_simp
                    refine hK.out _ _ ?_ (fun hHeld => ?_)
                    · (try dsimp only) <;> (first | exact hx | exact hx.alloc_ _ | exact (hx.alloc_ _).alloc_ _ | exact St.weaken (A := [_]) hx)
                    clear hK K
                    try simp only [Act.put, List.setIfInBounds_toArray, List.set_cons_zero, List.set_cons_succ]
                    refine wpAnyH_ready (rs := [23]) (by kernel_rfl) (by simp) ?_
                    refine AllReadyH.cons (o := ?_) ?_ (fun K hK => ?_) ?_
                    rotate_left 1
                    · (simp only [List.getElem?_toArray, List.getElem?_cons_succ, List.getElem?_cons_zero]; exact rfl)
                    · go_simp
                      refine hK.out _ _ ?_ (fun hHeld => ?_)
                      · (try dsimp only) <;> (first | exact hx | exact hx.alloc_ _ | exact (hx.alloc_ _).alloc_ _ | exact St.weaken (A := [_]) hx)
                      clear hK K
                      try simp only [Act.put, List.setIfInBounds_toArray, List.set_cons_zero, List.set_cons_succ]
                      refine wpAnyH_ready (rs := [24]) (by kernel_rfl) (by simp) ?_
                      refine AllReadyH.cons (o := ?_) ?_ (fun K hK => ?_) ?_
                      rotate_left 1
                      · (simp only [List.getElem?_toArray, List.getElem?_cons_succ, List.getElem?_cons_zero]; exact rfl)
                      · go_simp
                        (go_at_call 23; (first | with_reducible refine (K5.out _ _ _ (hx.alloc _)).mono ?_ | with_reducible refine (K5.out _ _ _ (hx.alloc2 _ _)).mono ?_ | with_reducible refine (K5.out _ _ _ (hx.alloc2' _ _)).mono ?_); rintro e wx ⟨rfl, hx⟩; dsimp only)
                        refine hK.out _ _ ?_ (fun hHeld => ?_)
                        · (try dsimp only) <;> (first | exact hx | exact hx.alloc_ _ | exact (hx.alloc_ _).alloc_ _ | exact St.weaken (A := [_]) hx)
                        clear hK K
                        try simp only [Act.put, List.setIfInBounds_toArray, List.set_cons_zero, List.set_cons_succ]
                        refine wpAnyH_ready (rs := [28]) (by kernel_rfl) (by simp) ?_
                        refine AllReadyH.cons (o := ?_) ?_ (fun K hK => ?_) ?_
                        rotate_left 1
                        · (simp only [List.getElem?_toArray, List.getElem?_cons_succ, List.getElem?_cons_zero]; exact rfl)
                        · go_simp
                          (go_at_call 23; (first | with_reducible refine (K6.out _ _ _ (hx)).mono ?_ | with_reducible refine (K6.out _ _ _ (hx.alloc _)).mono ?_); rintro e wx ⟨rfl, hx⟩; dsimp only)
                          refine hK.out _ _ ?_ (fun hHeld => ?_)
                          · (try dsimp only) <;> (first | exact hx | exact hx.alloc_ _ | exact (hx.alloc_ _).alloc_ _ | exact St.weaken (A := [_]) hx)
                          clear hK K
                          try simp only [Act.put, List.setIfInBounds_toArray, List.set_cons_zero, List.set_cons_succ]
                          refine wpAnyH_take (i := 29) (oi := ?_) (v := ?_) ?_ ?_ ?_ ?_ ?_ ?_ ?_ ?_
                          rotate_left 2
                          · (simp only [List.getElem?_toArray, List.getElem?_cons_succ, List.getElem?_cons_zero]; exact rfl)
                          · kernel_rfl
                          · kernel_rfl
                          · kernel_rfl
                          · exact fun _ _ _ h => h
                          · (refine Or.inl ⟨by rfl, ?_⟩; intro w hSw; (try dsimp only at hSw); go_simp; try with_reducible rfl)
                          · assumption
                          try simp only [Act.put, List.setIfInBounds_toArray, List.set_cons_zero, List.set_cons_succ]
                          refine wpAnyH_take (i := 30) (oi := ?_) (v := ?_) ?_ ?_ ?_ ?_ ?_ ?_ ?_ ?_
                          rotate_left 2
                          · (simp only [List.getElem?_toArray, List.getElem?_cons_succ, List.getElem?_cons_zero]; exact rfl)
                          · kernel_rfl
                          · kernel_rfl
                          · kernel_rfl
                          · exact fun _ _ _ h => h
                          · (refine Or.inl ⟨by rfl, ?_⟩; intro w hSw; (try dsimp only at hSw); go_simp; try with_reducible rfl)
                          · assumption
                          try simp only [Act.put, List.setIfInBounds_toArray, List.set_cons_zero, List.set_cons_succ]
                          refine wpAnyH_take (i := 31) (oi := ?_) (v := ?_) ?_ ?_ ?_ ?_ ?_ ?_ ?_ ?_
                          rotate_left 2
                          · (simp only [List.getElem?_toArray, List.getElem?_cons_succ, List.getElem?_cons_zero]; exact rfl)
                          · kernel_rfl
                          · kernel_rfl
                          · kernel_rfl
                          · exact fun _ _ _ h => h
                          · (refine Or.inl ⟨by rfl, ?_⟩; intro w hSw; (try dsimp only at hSw); go_simp; try with_reducible rfl)
                          · assumption
                          try simp only [Act.put, List.setIfInBounds_toArray, List.set_cons_zero, List.set_cons_succ]
                          refine wpAnyH_done (by kernel_rfl) ?_ _
                          have hfin := hx.below HLE.out
                          go_wp2_with fail
                          go_ret
                          exact ⟨rfl, hfin⟩
                        exact AllReadyH.nil
                      exact AllReadyH.nil
                    exact AllReadyH.nil
                  exact AllReadyH.nil
                exact AllReadyH.nil
              exact AllReadyH.nil
            exact AllReadyH.nil
          refine AllReadyH.cons (o := ?_) ?_ (fun K hK => ?_) ?_
          rotate_left 1
          · (simp only [List.getElem?_toArray, List.getElem?_cons_succ, List.getElem?_cons_zero]; exact rfl)
          · go_simp
            refine hK.out _ _ ?_ (fun hHeld => ?_)
            · (try dsimp only) <;> (first | exact hx | exact hx.alloc_ _ | exact (hx.alloc_ _).alloc_ _ | exact St.weaken (A := [_]) hx)
            clear hK K
            try simp only [Act.put, List.setIfInBounds_toArray, List.set_cons_zero, List.set_cons_succ]
            refine wpAnyH_ready (rs := [12]) (by kernel_rfl) (by simp) ?_
            refine AllReadyH.cons (o := ?_) ?_ (fun K hK => ?_) ?_
            rotate_left 1
            · (simp only [List.getElem?_toArray, List.getElem?_cons_succ, List.getElem?_cons_zero]; exact rfl)
            · go_simp
              refine hK.out _ _ ?_ (fun hHeld => ?_)
              · (try dsimp only) <;> (first | exact hx | exact hx.alloc_ _ | exact (hx.alloc_ _).alloc_ _ | exact St.weaken (A := [_]) hx)
              clear hK K
              try simp only [Act.put, List.setIfInBounds_toArray, List.set_cons_zero, List.set_cons_succ]
              refine wpAnyH_ready (rs := [13]) (by kernel_rfl) (by simp) ?_
              refine AllReadyH.cons (o := ?_) ?_ (fun K hK => ?_) ?_
              rotate_left 1
              · (simp only [List.getElem?_toArray, List.getElem?_cons_succ, List.getElem?_cons_zero]; exact rfl)
              · go_simp
                (go_at_call 23; (first | with_reducible refine (K3.out _ _ _ (hx.alloc _)).mono ?_ | with_reducible refine (K3.out _ _ _ (hx.alloc2 _ _)).mono ?_ | with_reducible refine (K3.out _ _ _ (hx.alloc2' _ _)).mono ?_); rintro e wx ⟨rfl, hx⟩; dsimp only)
                refine hK.out _ _ ?_ (fun hHeld => ?_)
                · (try dsimp only) <;> (first | exact hx | exact hx.alloc_ _ | exact (hx.alloc_ _).alloc_ _ | exact St.weaken (A := [_]) hx)
                clear hK K
                try simp only [Act.put, List.setIfInBounds_toArray, List.set_cons_zero, List.set_cons_succ]
                refine wpAnyH_ready (rs := [17]) (by kernel_rfl) (by simp) ?_
                refine AllReadyH.cons (o := ?_) ?_ (fun K hK => ?_) ?_
                rotate_left 1
                · (simp only [List.getElem?_toArray, List.getElem?_cons_succ, List.getElem?_cons_zero]; exact rfl)
                · go_simp
                  (go_at_call 23; (first | with_reducible refine (K4.out _ _ _ (hx)).mono ?_ | with_reducible refine (K4.out _ _ _ (hx.alloc _)).mono ?_); rintro e wx ⟨rfl, hx⟩; dsimp only)
                  refine hK.out _ _ ?_ (fun hHeld => ?_)
                  · (try dsimp only) <;> (first | exact hx | exact hx.alloc_ _ | exact (hx.alloc_ _).alloc_ _ | exact St.weaken (A := [_]) hx)
                  clear hK K
                  try simp only [Act.put, List.setIfInBounds_toArray, List.set_cons_zero, List.set_cons_succ]
                  refine wpAnyH_take (i := 18) (oi := ?_) (v := ?_) ?_ ?_ ?_ ?_ ?_ ?_ ?_ ?_
                  rotate_left 2
                  · (simp only [List.getElem?_toArray, List.getElem?_cons_succ, List.getElem?_cons_zero]; exact rfl)
                  · kernel_rfl
                  · kernel_rfl
                  · kernel_rfl
                  · exact fun _ _ _ h => h
                  · (refine Or.inl ⟨by rfl, ?_⟩; intro w hSw; (try dsimp only at hSw); go_simp; try with_reducible rfl)
                  · assumption
                  try simp only [Act.put, List.setIfInBounds_toArray, List.set_cons_zero, List.set_cons_succ]
                  refine wpAnyH_take (i := 19) (oi := ?_) (v := ?_) ?_ ?_ ?_ ?_ ?_ ?_ ?_ ?_
                  rotate_left 2
                  · (simp only [List.getElem?_toArray, List.getElem?_cons_succ, List.getElem?_cons_zero]; exact rfl)
                  · kernel_rfl
                  · kernel_rfl
                  · kernel_rfl
                  · exact fun _ _ _ h => h
                  · (refine Or.inl ⟨by rfl, ?_⟩; intro w hSw; (try dsimp only at hSw); go_simp; try with_reducible rfl)
                  · assumption
                  try simp only [Act.put, List.setIfInBounds_toArray, List.set_cons_zero, List.set_cons_succ]
                  refine wpAnyH_take (i := 20) (oi := ?_) (v := ?_) ?_ ?_ ?_ ?_ ?_ ?_ ?_ ?_
                  rotate_left 2
                  · (simp only [List.getElem?_toArray, List.getElem?_cons_succ, List.getElem?_cons_zero]; exact rfl)
                  · kernel_rfl
                  · kernel_rfl
                  · kernel_rfl
                  · exact fun _ _ _ h => h
                  · (refine Or.inl ⟨by rfl, ?_⟩; intro w hSw; (try dsimp only at hSw); go_simp; try with_reducible rfl)
                  · assumption
                  try simp only [Act.put, List.setIfInBounds_toArray, List.set_cons_zero, List.set_cons_succ]
                  refine wpAnyH_take (i := 21) (oi := ?_) (v := ?_) ?_ ?_ ?_ ?_ ?_ ?_ ?_ ?_
                  rotate_left 2
                  · (simp only [List.getElem?_toArray, List.getElem?_cons_succ, List.getElem?_cons_zero]; exact rfl)
                  · kernel_rfl
                  · kernel_rfl
                  · kernel_rfl
                  · exact fun _ _ _ h => h
                  · (refine Or.inl ⟨by rfl, ?_⟩; intro w hSw; (try dsimp only at hSw); go_simp; try with_reducible rfl)
                  · assumption
                  try simp only [Act.put, List.setIfInBounds_toArray, List.set_cons_zero, List.set_cons_succ]
                  refine wpAnyH_take (i := 22) (oi := ?_) (v := ?_) ?_ ?_ ?_ ?_ ?_ ?_ ?_ ?_
                  rotate_left 2
                  · (simp only [List.getElem?_toArray, List.getElem?_cons_succ, List.getElem?_cons_zero]; exact rfl)
                  · kernel_rfl
                  · kernel_rfl
                  · kernel_rfl
                  · exact fun _ _ _ h => h
                  · (refine Or.inl ⟨by rfl, ?_⟩; intro w hSw; (try dsimp only at hSw); go_simp; try with_reducible rfl)
                  · assumption
                  try simp only [Act.put, List.setIfInBounds_toArray, List.set_cons_zero, List.set_cons_succ]
                  refine wpAnyH_take (i := 25) (oi := ?_) (v := ?_) ?_ ?_ ?_ ?_ ?_ ?_ ?_ ?_
                  rotate_left 2
                  · (simp only [List.getElem?_toArray, List.getElem?_cons_succ, List.getElem?_cons_zero]; exact rfl)
                  · kernel_rfl
                  · kernel_rfl
                  · kernel_rfl
                  · exact fun _ _ _ h => h
                  · (refine Or.inl ⟨by rfl, ?_⟩; intro w hSw; (try dsimp only at hSw); go_simp; try with_reducible rfl)
                  · assumption
                  try simp only [Act.put, List.setIfInBounds_toArray, List.set_cons_zero, List.set_cons_succ]
                  refine wpAnyH_take (i := 26) (oi := ?_) (v := ?_) ?_ ?_ ?_ ?_ ?_ ?_ ?_ ?_
                  rotate_left 2
                  · (simp only [List.getElem?_toArray, List.getElem?_cons_succ, List.getElem?_cons_zero]; exact rfl)
                  · kernel_rfl
                  · kernel_rfl
                  · kernel_rfl
                  · exact fun _ _ _ h => h
                  · (refine Or.inl ⟨by rfl, ?_⟩; intro w hSw; (try dsimp only at hSw); go_simp; try with_reducible rfl)
                  · assumption
                  try simp only [Act.put, List.setIfInBounds_toArray, List.set_cons_zero, List.set_cons_succ]
                  refine wpAnyH_ready (rs := [23, 27]) (by kernel_rfl) (by simp) ?_
                  refine AllReadyH.cons (o := ?_) ?_ (fun K hK => ?_) ?_
                  rotate_left 1
                  · (simp only [List.getElem?_toArray, List.getElem?_cons_succ, List.getElem?_cons_zero]; exact rfl)
                  · go_simp
                    refine hK.out _ _ ?_ (fun hHeld => ?_)
                    · (try dsimp only) <;> (first | exact hx | exact hx.alloc_ _ | exact (hx.alloc_ _).alloc_ _ | exact St.weaken (A := [_]) hx)
                    clear hK K
                    try simp only [Act.put, List.setIfInBounds_toArray, List.set_cons_zero, List.set_cons_succ]
                    refine wpAnyH_ready (rs := [24, 27]) (by kernel_rfl) (by simp) ?_
                    refine AllReadyH.cons (o := ?_) ?_ (fun K hK => ?_) ?_
                    rotate_left 1
                    · (simp only [List.getElem?_toArray, List.getElem?_cons_succ, List.getElem?_cons_zero]; exact rfl)
                    · go_simp
                      (go_at_call 23; (first | with_reducible refine (K5.out _ _ _ (hx.alloc _)).mono ?_ | with_reducible refine (K5.out _ _ _ (hx.alloc2 _ _)).mono ?_ | with_reducible refine (K5.out _ _ _ (hx.alloc2' _ _)).mono ?_); rintro e wx ⟨rfl, hx⟩; dsimp only)
                      refine hK.out _ _ ?_ (fun hHeld => ?_)
                      · (try dsimp only) <;> (first | exact hx | exact hx.alloc_ _ | exact (hx.alloc_ _).alloc_ _ | exact St.weaken (A := [_]) hx)
                      clear hK K
                      try simp only [Act.put, List.setIfInBounds_toArray, List.set_cons_zero, List.set_cons_succ]
                      refine wpAnyH_ready (rs := [27]) (by kernel_rfl) (by simp) ?_
                      refine AllReadyH.cons (o := ?_) ?_ (fun K hK => ?_) ?_
                      rotate_left 1
                      · (simp only [List.getElem?_toArray, List.getElem?_cons_succ, List.getElem?_cons_zero]; exact rfl)
                      · go_simp
                        refine hK.out _ _ ?_ (fun hHeld => ?_)
                        · (try dsimp only) <;> (first | exact hx | exact hx.alloc_ _ | exact (hx.alloc_ _).alloc_ _ | exact St.weaken (A := [_]) hx)
                        clear hK K
                        try simp only [Act.put, List.setIfInBounds_toArray, List.set_cons_zero, List.set_cons_succ]
                        refine wpAnyH_ready (rs := [28]) (by kernel_rfl) (by simp) ?_
                        refine AllReadyH.cons (o := ?_) ?_ (fun K hK => ?_) ?_
                        rotate_left 1
                        · (simp only [List.getElem?_toArray, List.getElem?_cons_succ, List.getElem?_cons_zero]; exact rfl)
                        · go_simp
                          (go_at_call 23; (first | with_reducible refine (K6.out _ _ _ (hx)).mono ?_ | with_reducible refine (K6.out _ _ _ (hx.alloc _)).mono ?_); rintro e wx ⟨rfl, hx⟩; dsimp only)
                          refine hK.out _ _ ?_ (fun hHeld => ?_)
                          · (try dsimp only) <;> (first | exact hx | exact hx.alloc_ _ | exact (hx.alloc_ _).alloc_ _ | exact St.weaken (A := [_]) hx)
                          clear hK K
                          try simp only [Act.put, List.setIfInBounds_toArray, List.set_cons_zero, List.set_cons_succ]
                          refine wpAnyH_take (i := 29) (oi := ?_) (v := ?_) ?_ ?_ ?_ ?_ ?_ ?_ ?_ ?_
                          rotate_left 2
                          · (simp only [List.getElem?_toArray, List.getElem?_cons_succ, List.getElem?_cons_zero]; exact rfl)
                          · kernel_rfl
                          · kernel_rfl
                          · kernel_rfl
                          · exact fun _ _ _ h => h
                          · (refine Or.inl ⟨by rfl, ?_⟩; intro w hSw; (try dsimp only at hSw); go_simp; try with_reducible rfl)
                          · assumption
                          try simp only [Act.put, List.setIfInBounds_toArray, List.set_cons_zero, List.set_cons_succ]
                          refine wpAnyH_take (i := 30) (oi := ?_) (v := ?_) ?_ ?_ ?_ ?_ ?_ ?_ ?_ ?_
                          rotate_left 2
                          · (simp only [List.getElem?_toArray, List.getElem?_cons_succ, List.getElem?_cons_zero]; exact rfl)
                          · kernel_rfl
                          · kernel_rfl
                          · kernel_rfl
                          · exact fun _ _ _ h => h
                          · (refine Or.inl ⟨by rfl, ?_⟩; intro w hSw; (try dsimp only at hSw); go_simp; try with_reducible rfl)
                          · assumption
                          try simp only [Act.put, List.setIfInBounds_toArray, List.set_cons_zero, List.set_cons_succ]
                          refine wpAnyH_take (i := 31) (oi := ?_) (v := ?_) ?_ ?_ ?_ ?_ ?_ ?_ ?_ ?_
                          rotate_left 2
                          · (simp only [List.getElem?_toArray, List.getElem?_cons_succ, List.getElem?_cons_zero]; exact rfl)
                          · kernel_rfl
                          · kernel_rfl
                          · kernel_rfl
                          · exact fun _ _ _ h => h
                          · (refine Or.inl ⟨by rfl, ?_⟩; intro w hSw; (try dsimp only at hSw); go_simp; try with_reducible rfl)
                          · assumption
                          try simp only [Act.put, List.setIfInBounds_toArray, List.set_cons_zero, List.set_cons_succ]
                          refine wpAnyH_done (by kernel_rfl) ?_ _
                          have hfin := hx.below HLE.out
                          go_wp2_with fail
                          go_ret
                          exact ⟨rfl, hfin⟩
                        exact AllReadyH.nil
                      exact AllReadyH.nil
                    refine AllReadyH.cons (o := ?_) ?_ (fun K hK => ?_) ?_
                    rotate_left 1
                    · (simp only [List.getElem?_toArray, List.getElem?_cons_succ, List.getElem?_cons_zero]; exact rfl)
                    · go_simp
                      refine hK.out _ _ ?_ (fun hHeld => ?_)
                      · (try dsimp only) <;> (first | exact hx | exact hx.alloc_ _ | exact (hx.alloc_ _).alloc_ _ | exact St.weaken (A := [_]) hx)
                      clear hK K
                      try simp only [Act.put, List.setIfInBounds_toArray, List.set_cons_zero, List.set_cons_succ]
                      refine wpAnyH_ready (rs := [24]) (by kernel_rfl) (by simp) ?_
                      refine AllReadyH.cons (o := ?_) ?_ (fun K hK => ?_) ?_
                      rotate_left 1
                      · (simp only [List.getElem?_toArray, List.getElem?_cons_succ, List.getElem?_cons_zero]; exact rfl)
                      · go_simp
                        (go_at_call 23; (first | with_reducible refine (K5.out _ _ _ (hx.alloc _)).mono ?_ | with_reducible refine (K5.out _ _ _ (hx.alloc2 _ _)).mono ?_ | with_reducible refine (K5.out _ _ _ (hx.alloc2' _ _)).mono ?_); rintro e wx ⟨rfl, hx⟩; dsimp only)
                        refine hK.out _ _ ?_ (fun hHeld => ?_)
                        · (try dsimp only) <;> (first | exact hx | exact hx.alloc_ _ | exact (hx.alloc_ _).alloc_ _ | exact St.weaken (A := [_]) hx)
                        clear hK K
                        try simp only [Act.put, List.setIfInBounds_toArray, List.set_cons_zero, List.set_cons_succ]
                        refine wpAnyH_ready (rs := [28]) (by kernel_rfl) (by simp) ?_
                        refine AllReadyH.cons (o := ?_) ?_ (fun K hK => ?_) ?_
                        rotate_left 1
                        · (simp only [List.getElem?_toArray, List.getElem?_cons_succ, List.getElem?_cons_zero]; exact rfl)
                        · go_simp
                          (go_at_call 23; (first | with_reducible refine (K6.out _ _ _ (hx)).mono ?_ | with_reducible refine (K6.out _ _ _ (hx.alloc _)).mono ?_); rintro e wx ⟨rfl, hx⟩; dsimp only)
                          refine hK.out _ _ ?_ (fun hHeld => ?_)
                          · (try dsimp only) <;> (first | exact hx | exact hx.alloc_ _ | exact (hx.alloc_ _).alloc_ _ | exact St.weaken (A := [_]) hx)
                          clear hK K
                          try simp only [Act.put, List.setIfInBounds_toArray, List.set_cons_zero, List.set_cons_succ]
                          refine wpAnyH_take (i := 29) (oi := ?_) (v := ?_) ?_ ?_ ?_ ?_ ?_ ?_ ?_ ?_
                          rotate_left 2
                          · (simp only [List.getElem?_toArray, List.getElem?_cons_succ, List.getElem?_cons_zero]; exact rfl)
                          · kernel_rfl
                          · kernel_rfl
                          · kernel_rfl
                          · exact fun _ _ _ h => h
                          · (refine Or.inl ⟨by rfl, ?_⟩; intro w hSw; (try dsimp only at hSw); go_simp; try with_reducible rfl)
                          · assumption
                          try simp only [Act.put, List.setIfInBounds_toArray, List.set_cons_zero, List.set_cons_succ]
                          refine wpAnyH_take (i := 30) (oi := ?_) (v := ?_) ?_ ?_ ?_ ?_ ?_ ?_ ?_ ?_
                          rotate_left 2
                          · (simp only [List.getElem?_toArray, List.getElem?_cons_succ, List.getElem?_cons_zero]; exact rfl)
                          · kernel_rfl
                          · kernel_rfl
                          · kernel_rfl
                          · exact fun _ _ _ h => h
                          · (refine Or.inl ⟨by rfl, ?_⟩; intro w hSw; (try dsimp only at hSw); go_simp; try with_reducible rfl)
                          · assumption
                          try simp only [Act.put, List.setIfInBounds_toArray, List.set_cons_zero, List.set_cons_succ]
                          refine wpAnyH_take (i := 31) (oi := ?_) (v := ?_) ?_ ?_ ?_ ?_ ?_ ?_ ?_ ?_
                          rotate_left 2
                          · (simp only [List.getElem?_toArray, List.getElem?_cons_succ, List.getElem?_cons_zero]; exact rfl)
                          · kernel_rfl
                          · kernel_rfl
                          · kernel_rfl
                          · exact fun _ _ _ h => h
                          · (refine Or.inl ⟨by rfl, ?_⟩; intro w hSw; (try dsimp only at hSw); go_simp; try with_reducible rfl)
                          · assumption
                          try simp only [Act.put, List.setIfInBounds_toArray, List.set_cons_zero, List.set_cons_succ]
                          refine wpAnyH_done (by kernel_rfl) ?_ _
                          have hfin := hx.below HLE.out
                          go_wp2_with fail
                          go_ret
                          exact ⟨rfl, hfin⟩
                        exact AllReadyH.nil
                      exact AllReadyH.nil
                    exact AllReadyH.nil
                  refine AllReadyH.cons (o := ?_) ?_ (fun K hK => ?_) ?_
                  rotate_left 1
                  · (simp only [List.getElem?_toArray, List.getElem?_cons_succ, List.getElem?_cons_zero]; exact rfl)
                  · go_simp
                    refine hK.out _ _ ?_ (fun hHeld => ?_)
                    · (try dsimp only) <;> (first | exact hx | exact hx.alloc_ _ | exact (hx.alloc_ _).alloc_ _ | exact St.weaken (A := [_]) hx)
                    clear hK K
                    try simp only [Act.put, List.setIfInBounds_toArray, List.set_cons_zero, List.set_cons_succ]
                    refine wpAnyH_ready (rs := [23]) (by kernel_rfl) (by simp) ?_
                    refine AllReadyH.cons (o := ?_) ?_ (fun K hK => ?_) ?_
                    rotate_left 1
                    · (simp only [List.getElem?_toArray, List.getElem?_cons_succ, List.getElem?_cons_zero]; exact rfl)
                    · go_simp
                      refine hK.out _ _ ?_ (fun hHeld => ?_)
                      · (try dsimp only) <;> (first | exact hx | exact hx.alloc_ _ | exact (hx.alloc_ _).alloc_ _ | exact St.weaken (A := [_]) hx)
                      clear hK K
                      try simp only [Act.put, List.setIfInBounds_toArray, List.set_cons_zero, List.set_cons_succ]
                      refine wpAnyH_ready (rs := [24]) (by kernel_rfl) (by simp) ?_
                      refine AllReadyH.cons (o := ?_) ?_ (fun K hK => ?_) ?_
                      rotate_left 1
                      · (simp only [List.getElem?_toArray, List.getElem?_cons_succ, List.getElem?_cons_zero]; exact rfl)
                      · go_simp
                        (go_at_call 23; (first | with_reducible refine (K5.out _ _ _ (hx.alloc _)).mono ?_ | with_reducible refine (K5.out _ _ _ (hx.alloc2 _ _)).mono ?_ | with_reducible refine (K5.out _ _ _ (hx.alloc2' _ _)).mono ?_); rintro e wx ⟨rfl, hx⟩; dsimp only)
                        refine hK.out _ _ ?_ (fun hHeld => ?_)
                        · (try dsimp only) <;> (first | exact hx | exact hx.alloc_ _ | exact (hx.alloc_ _).alloc_ _ | exact St.weaken (A := [_]) hx)
                        clear hK K
                        try simp only [Act.put, List.setIfInBounds_toArray, List.set_cons_zero, List.set_cons_succ]
                        refine wpAnyH_ready (rs := [28]) (by kernel_rfl) (by simp) ?_
                        refine AllReadyH.cons (o := ?_) ?_ (fun K hK => ?_) ?_
                        rotate_left 1
                        · (simp only [List.getElem?_toArray, List.getElem?_cons_succ, List.getElem?_cons_zero]; exact rfl)
                        · go_simp
                          (go_at_call 23; (first | with_reducible refine (K6.out _ _ _ (hx)).mono ?_ | with_reducible refine (K6.out _ _ _ (hx.alloc _)).mono ?_); rintro e wx ⟨rfl, hx⟩; dsimp only)
                          refine hK.out _ _ ?_ (fun hHeld => ?_)
                          · (try dsimp only) <;> (first | exact hx | exact hx.alloc_ _ | exact (hx.alloc_ _).alloc_ _ | exact St.weaken (A := [_]) hx)
                          clear hK K
                          try simp only [Act.put, List.setIfInBounds_toArray, List.set_cons_zero, List.set_cons_succ]
                          refine wpAnyH_take (i := 29) (oi := ?_) (v := ?_) ?_ ?_ ?_ ?_ ?_ ?_ ?_ ?_
                          rotate_left 2
                          · (simp only [List.getElem?_toArray, List.getElem?_cons_succ, List.getElem?_cons_zero]; exact rfl)
                          · kernel_rfl
                          · kernel_rfl
                          · kernel_rfl
                          · exact fun _ _ _ h => h
                          · (refine Or.inl ⟨by rfl, ?_⟩; intro w hSw; (try dsimp only at hSw); go_simp; try with_reducible rfl)
                          · assumption
                          try simp only [Act.put, List.setIfInBounds_toArray, List.set_cons_zero, List.set_cons_succ]
                          refine wpAnyH_take (i := 30) (oi := ?_) (v := ?_) ?_ ?_ ?_ ?_ ?_ ?_ ?_ ?_
                          rotate_left 2
                          · (simp only [List.getElem?_toArray, List.getElem?_cons_succ, List.getElem?_cons_zero]; exact rfl)
                          · kernel_rfl
                          · kernel_rfl
                          · kernel_rfl
                          · exact fun _ _ _ h => h
                          · (refine Or.inl ⟨by rfl, ?_⟩; intro w hSw; (try dsimp only at hSw); go_simp; try with_reducible rfl)
                          · assumption
                          try simp only [Act.put, List.setIfInBounds_toArray, List.set_cons_zero, List.set_cons_succ]
                          refine wpAnyH_take (i := 31) (oi := ?_) (v := ?_) ?_ ?_ ?_ ?_ ?_ ?_ ?_ ?_
                          rotate_left 2
                          · (simp only [List.getElem?_toArray, List.getElem?_cons_succ, List.getElem?_cons_zero]; exact rfl)
                          · kernel_rfl
                          · kernel_rfl
                          · kernel_rfl
                          · exact fun _ _ _ h => h
                          · (refine Or.inl ⟨by rfl, ?_⟩; intro w hSw; (try dsimp only at hSw); go_simp; try with_reducible rfl)
                          · assumption
                          try simp only [Act.put, List.setIfInBounds_toArray, List.set_cons_zero, List.set_cons_succ]
                          refine wpAnyH_done (by kernel_rfl) ?_ _
                          have hfin := hx.below HLE.out
                          go_wp2_with fail
                          go_ret
                          exact ⟨rfl, hfin⟩
                        exact AllReadyH.nil
                      exact AllReadyH.nil
                    exact AllReadyH.nil
                  exact AllReadyH.nil
                exact AllReadyH.nil
              exact AllReadyH.nil
            exact AllReadyH.nil
          exact AllReadyH.nil
        exact AllReadyH.nil
      exact AllReadyH.nil
    refine AllReadyH.cons (o := ?_) ?_ (fun K hK => ?_) ?_
    rotate_left 1
    · (simp only [List.getElem?_toArray, List.getElem?_cons_succ, List.getElem?_cons_zero]; exact rfl)
    · go_simp
      refine hK.out _ _ ?_ (fun hHeld => ?_)
      · (try dsimp only) <;> (first | exact hx | exact hx.alloc_ _ | exact (hx.alloc_ _).alloc_ _ | exact St.weaken (A := [_]) hx)
      clear hK K
      try simp only [Act.put, List.setIfInBounds_toArray, List.set_cons_zero, List.set_cons_succ]
      refine wpAnyH_ready (rs := [3]) (by kernel_rfl) (by simp) ?_
      refine AllReadyH.cons (o := ?_) ?_ (fun K hK => ?_) ?_
      rotate_left 1
      · (simp only [List.getElem?_toArray, List.getElem?_cons_succ, List.getElem?_cons_zero]; exact rfl)
      · go_simp
        (go_at_call 23; (first | with_reducible refine (K1.out _ _ _ (hx.alloc _)).mono ?_ | with_reducible refine (K1.out _ _ _ (hx.alloc2 _ _)).mono ?_ | with_reducible refine (K1.out _ _ _ (hx.alloc2' _ _)).mono ?_); rintro e wx ⟨rfl, hx⟩; dsimp only)
        refine hK.out _ _ ?_ (fun hHeld => ?_)
        · (try dsimp only) <;> (first | exact hx | exact hx.alloc_ _ | exact (hx.alloc_ _).alloc_ _ | exact St.weaken (A := [_]) hx)
        clear hK K
        try simp only [Act.put, List.setIfInBounds_toArray, List.set_cons_zero, List.set_cons_succ]
        refine wpAnyH_ready (rs := [7]) (by kernel_rfl) (by simp) ?_
        refine AllReadyH.cons (o := ?_) ?_ (fun K hK => ?_) ?_
        rotate_left 1
        · (simp only [List.getElem?_toArray, List.getElem?_cons_succ, List.getElem?_cons_zero]; exact rfl)
        · go_simp
          (go_at_call 23; (first | with_reducible refine (K2.out _ _ _ (hx)).mono ?_ | with_reducible refine (K2.out _ _ _ (hx.alloc _)).mono ?_); rintro e wx ⟨rfl, hx⟩; dsimp only)
          refine hK.out _ _ ?_ (fun hHeld => ?_)
          · (try dsimp only) <;> (first | exact hx | exact hx.alloc_ _ | exact (hx.alloc_ _).alloc_ _ | exact St.weaken (A := [_]) hx)
          clear hK K
          try simp only [Act.put, List.setIfInBounds_toArray, List.set_cons_zero, List.set_cons_succ]
          refine wpAnyH_take (i := 8) (oi := ?_) (v := ?_) ?_ ?_ ?_ ?_ ?_ ?_ ?_ ?_
          rotate_left 2
          · (simp only [List.getElem?_toArray, List.getElem?_cons_succ, List.getElem?_cons_zero]; exact rfl)
          · kernel_rfl
          · kernel_rfl
          · kernel_rfl
          · exact fun _ _ _ h => h
          · (refine Or.inl ⟨by rfl, ?_⟩; intro w hSw; (try dsimp only at hSw); go_simp; try with_reducible rfl)
          · assumption
          try simp only [Act.put, List.setIfInBounds_toArray, List.set_cons_zero, List.set_cons_succ]
          refine wpAnyH_take (i := 9) (oi := ?_) (v := ?_) ?_ ?_ ?_ ?_ ?_ ?_ ?_ ?_
          rotate_left 2
          · (simp only [List.getElem?_toArray, List.getElem?_cons_succ, List.getElem?_cons_zero]; exact rfl)
          · kernel_rfl
          · kernel_rfl
          · kernel_rfl
          · exact fun _ _ _ h => h
          · (refine Or.inl ⟨by rfl, ?_⟩; intro w hSw; (try dsimp only at hSw); go_simp; try with_reducible rfl)
          · assumption
          try simp only [Act.put, List.setIfInBounds_toArray, List.set_cons_zero, List.set_cons_succ]
          refine wpAnyH_take (i := 10) (oi := ?_) (v := ?_) ?_ ?_ ?_ ?_ ?_ ?_ ?_ ?_
          rotate_left 2
          · (simp only [List.getElem?_toArray, List.getElem?_cons_succ, List.getElem?_cons_zero]; exact rfl)
          · kernel_rfl
          · kernel_rfl
          · kernel_rfl
          · exact fun _ _ _ h => h
          · (refine Or.inl ⟨by rfl, ?_⟩; intro w hSw; (try dsimp only at hSw); go_simp; try with_reducible rfl)
          · assumption
          try simp only [Act.put, List.setIfInBounds_toArray, List.set_cons_zero, List.set_cons_succ]
          refine wpAnyH_take (i := 11) (oi := ?_) (v := ?_) ?_ ?_ ?_ ?_ ?_ ?_ ?_ ?_
          rotate_left 2
          · (simp only [List.getElem?_toArray, List.getElem?_cons_succ, List.getElem?_cons_zero]; exact rfl)
          · kernel_rfl
          · kernel_rfl
          · kernel_rfl
          · exact fun _ _ _ h => h
          · (refine Or.inl ⟨by rfl, ?_⟩; intro w hSw; (try dsimp only at hSw); go_simp; try with_reducible rfl)
          · assumption
          try simp only [Act.put, List.setIfInBounds_toArray, List.set_cons_zero, List.set_cons_succ]
          refine wpAnyH_take (i := 14) (oi := ?_) (v := ?_) ?_ ?_ ?_ ?_ ?_ ?_ ?_ ?_
          rotate_left 2
          · (simp only [List.getElem?_toArray, List.getElem?_cons_succ, List.getElem?_cons_zero]; exact rfl)
          · kernel_rfl
          · kernel_rfl
          · kernel_rfl
          · exact fun _ _ _ h => h
          · (refine Or.inl ⟨by rfl, ?_⟩; intro w hSw; (try dsimp only at hSw); go_simp; try with_reducible rfl)
          · assumption
          try simp only [Act.put, List.setIfInBounds_toArray, List.set_cons_zero, List.set_cons_succ]
          refine wpAnyH_take (i := 15) (oi := ?_) (v := ?_) ?_ ?_ ?_ ?_ ?_ ?_ ?_ ?_
          rotate_left 2
          · (simp only [List.getElem?_toArray, List.getElem?_cons_succ, List.getElem?_cons_zero]; exact rfl)
          · kernel_rfl
          · kernel_rfl
          · kernel_rfl
          · exact fun _ _ _ h => h
          · (refine Or.inl ⟨by rfl, ?_⟩; intro w hSw; (try dsimp only at hSw); go_simp; try with_reducible rfl)
          · assumption
          try simp only [Act.put, List.setIfInBounds_toArray, List.set_cons_zero, List.set_cons_succ]
          refine wpAnyH_ready (rs := [12, 16]) (by kernel_rfl) (by simp) ?_
          refine AllReadyH.cons (o := ?_) ?_ (fun K hK => ?_) ?_
          rotate_left 1
          · (simp only [List.getElem?_toArray, List.getElem?_cons_succ, List.getElem?_cons_zero]; exact rfl)
          · go_simp
            refine hK.out _ _ ?_ (fun hHeld => ?_)
            · (try dsimp only) <;> (first | exact hx | exact hx.alloc_ _ | exact (hx.alloc_ _).alloc_ _ | exact St.weaken (A := [_]) hx)
            clear hK K
            try simp only [Act.put, List.setIfInBounds_toArray, List.set_cons_zero, List.set_cons_succ]
            refine wpAnyH_ready (rs := [13, 16]) (by kernel_rfl) (by simp) ?_
            refine AllReadyH.cons (o := ?_) ?_ (fun K hK => ?_) ?_
            rotate_left 1
            · (simp only [List.getElem?_toArray, List.getElem?_cons_succ, List.getElem?_cons_zero]; exact rfl)
            · go_simp
              (go_at_call 23; (first | with_reducible refine (K3.out _ _ _ (hx.alloc _)).mono ?_ | with_reducible refine (K3.out _ _ _ (hx.alloc2 _ _)).mono ?_ | with_reducible refine (K3.out _ _ _ (hx.alloc2' _ _)).mono ?_); rintro e wx ⟨rfl, hx⟩; dsimp only)
              refine hK.out _ _ ?_ (fun hHeld => ?_)
              · (try dsimp only) <;> (first | exact hx | exact hx.alloc_ _ | exact (hx.alloc_ _).alloc_ _ | exact St.weaken (A := [_]) hx)
              clear hK K
              try simp only [Act.put, List.setIfInBounds_toArray, List.set_cons_zero, List.set_cons_succ]
              refine wpAnyH_ready (rs := [16]) (by kernel_rfl) (by simp) ?_
              refine AllReadyH.cons (o := ?_) ?_ (fun K hK => ?_) ?_
              rotate_left 1
              · (simp only [List.getElem?_toArray, List.getElem?_cons_succ, List.getElem?_cons_zero]; exact rfl)
              · go_simp
                refine hK.out _ _ ?_ (fun hHeld => ?_)
                · (try dsimp only) <;> (first | exact hx | exact hx.alloc_ _ | exact (hx.alloc_ _).alloc_ _ | exact St.weaken (A := [_]) hx)
                clear hK K
                try simp only [Act.put, List.setIfInBounds_toArray, List.set_cons_zero, List.set_cons_succ]
                refine wpAnyH_ready (rs := [17]) (by kernel_rfl) (by simp) ?_
                refine AllReadyH.cons (o := ?_) ?_ (fun K hK => ?_) ?_
                rotate_left 1
                · (simp only [List.getElem?_toArray, List.getElem?_cons_succ, List.getElem?_cons_zero]; exact rfl)
                · go_simp
                  (go_at_call 23; (first | with_reducible refine (K4.out _ _ _ (hx)).mono ?_ | with_reducible refine (K4.out _ _ _ (hx.alloc _)).mono ?_); rintro e wx ⟨rfl, hx⟩; dsimp only)
                  refine hK.out _ _ ?_ (fun hHeld => ?_)
                  · (try dsimp only) <;> (first | exact hx | exact hx.alloc_ _ | exact (hx.alloc_ _).alloc_ _ | exact St.weaken (A := [_]) hx)
                  clear hK K
                  try simp only [Act.put, List.setIfInBounds_toArray, List.set_cons_zero, List.set_cons_succ]
                  refine wpAnyH_take (i := 18) (oi := ?_) (v := ?_) ?_ ?_ ?_ ?_ ?_ ?_ ?_ ?_
                  rotate_left 2
                  · (simp only [List.getElem?_toArray, List.getElem?_cons_succ, List.getElem?_cons_zero]; exact rfl)
                  · kernel_rfl
                  · kernel_rfl
                  · kernel_rfl
                  · exact fun _ _ _ h => h
                  · (refine Or.inl ⟨by rfl, ?_⟩; intro w hSw; (try dsimp only at hSw); go_simp; try with_reducible rfl)
                  · assumption
                  try simp only [Act.put, List.setIfInBounds_toArray, List.set_cons_zero, List.set_cons_succ]
                  refine wpAnyH_take (i := 19) (oi := ?_) (v := ?_) ?_ ?_ ?_ ?_ ?_ ?_ ?_ ?_
                  rotate_left 2
                  · (simp only [List.getElem?_toArray, List.getElem?_cons_succ, List.getElem?_cons_zero]; exact rfl)
                  · kernel_rfl
                  · kernel_rfl
                  · kernel_rfl
                  · exact fun _ _ _ h => h
                  · (refine Or.inl ⟨by rfl, ?_⟩; intro w hSw; (try dsimp only at hSw); go_simp; try with_reducible rfl)
                  · assumption
                  try simp only [Act.put, List.setIfInBounds_toArray, List.set_cons_zero, List.set_cons_succ]
                  refine wpAnyH_take (i := 20) (oi := ?_) (v := ?_) ?_ ?_ ?_ ?_ ?_ ?_ ?_ ?_
                  rotate_left 2
                  · (simp only [List.getElem?_toArray, List.getElem?_cons_succ, List.getElem?_cons_zero]; exact rfl)
                  · kernel_rfl
                  · kernel_rfl
                  · kernel_rfl
                  · exact fun _ _ _ h => h
                  · (refine Or.inl ⟨by rfl, ?_⟩; intro w hSw; (try dsimp only at hSw); go_simp; try with_reducible rfl)
                  · assumption
                  try simp only [Act.put, List.setIfInBounds_toArray, List.set_cons_zero, List.set_cons_succ]
                  refine wpAnyH_take (i := 21) (oi := ?_) (v := ?_) ?_ ?_ ?_ ?_ ?_ ?_ ?_ ?_
                  rotate_left 2
                  · (simp only [List.getElem?_toArray, List.getElem?_cons_succ, List.getElem?_cons_zero]; exact rfl)
                  · kernel_rfl
                  · kernel_rfl
                  · kernel_rfl
                  · exact fun _ _ _ h => h
                  · (refine Or.inl ⟨by rfl, ?_⟩; intro w hSw; (try dsimp only at hSw); go_simp; try with_reducible rfl)
                  · assumption
                  try simp only [Act.put, List.setIfInBounds_toArray, List.set_cons_zero, List.set_cons_succ]
                  refine wpAnyH_take (i := 22) (oi := ?_) (v := ?_) ?_ ?_ ?_ ?_ ?_ ?_ ?_ ?_
                  rotate_left 2
                  · (simp only [List.getElem?_toArray, List.getElem?_cons_succ, List.getElem?_cons_zero]; exact rfl)
                  · kernel_rfl
                  · kernel_rfl
                  · kernel_rfl
                  · exact fun _ _ _ h => h
                  · (refine Or.inl ⟨by rfl, ?_⟩; intro w hSw; (try dsimp only at hSw); go_simp; try with_reducible rfl)
                  · assumption
                  try simp only [Act.put, List.setIfInBounds_toArray, List.set_cons_zero, List.set_cons_succ]
                  refine wpAnyH_take (i := 25) (oi := ?_) (v := ?_) ?_ ?_ ?_ ?_ ?_ ?_ ?_ ?_
                  rotate_left 2
                  · (simp only [List.getElem?_toArray, List.getElem?_cons_succ, List.getElem?_cons_zero]; exact rfl)
                  · kernel_rfl
                  · kernel_rfl
                  · kernel_rfl
                  · exact fun _ _ _ h => h
                  · (refine Or.inl ⟨by rfl, ?_⟩; intro w hSw; (try dsimp only at hSw); go_simp; try with_reducible rfl)
                  · assumption
                  try simp only [Act.put, List.setIfInBounds_toArray, List.set_cons_zero, List.set_cons_succ]
                  refine wpAnyH_take (i := 26) (oi := ?_) (v := ?_) ?_ ?_ ?_ ?_ ?_ ?_ ?_ ?_
                  rotate_left 2
                  · (simp only [List.getElem?_toArray, List.getElem?_cons_succ, List.getElem?_cons_zero]; exact rfl)
                  · kernel_rfl
                  · kernel_rfl
                  · kernel_rfl
                  · exact fun _ _ _ h => h
                  · (refine Or.inl ⟨by rfl, ?_⟩; intro w hSw; (try dsimp only at hSw); go_simp; try with_reducible rfl)
                  · assumption
                  try simp only [Act.put, List.setIfInBounds_toArray, List.set_cons_zero, List.set_cons_succ]
                  refine wpAnyH_ready (rs := [23, 27]) (by kernel_rfl) (by simp) ?_
                  refine AllReadyH.cons (o := ?_) ?_ (fun K hK => ?_) ?_
                  rotate_left 1
                  · (simp only [List.getElem?_toArray, List.getElem?_cons_succ, List.getElem?_cons_zero]; exact rfl)
                  · go_simp
                    refine hK.out _ _ ?_ (fun hHeld => ?_)
                    · (try dsimp only) <;> (first | exact hx | exact hx.alloc_ _ | exact (hx.alloc_ _).alloc_ _ | exact St.weaken (A := [_]) hx)
                    clear hK K
                    try simp only [Act.put, List.setIfInBounds_toArray, List.set_cons_zero, List.set_cons_succ]
                    refine wpAnyH_ready (rs := [24, 27]) (by kernel_rfl) (by simp) ?_
                    refine AllReadyH.cons (o := ?_) ?_ (fun K hK => ?_) ?_
                    rotate_left 1
                    · (simp only [List.getElem?_toArray, List.getElem?_cons_succ, List.getElem?_cons_zero]; exact rfl)
                    · go_simp
                      (go_at_call 23; (first | with_reducible refine (K5.out _ _ _ (hx.alloc _)).mono ?_ | with_reducible refine (K5.out _ _ _ (hx.alloc2 _ _)).mono ?_ | with_reducible refine (K5.out _ _ _ (hx.alloc2' _ _)).mono ?_); rintro e wx ⟨rfl, hx⟩; dsimp only)
                      refine hK.out _ _ ?_ (fun hHeld => ?_)
                      · (try dsimp only) <;> (first | exact hx | exact hx.alloc_ _ | exact (hx.alloc_ _).alloc_ _ | exact St.weaken (A := [_]) hx)
                      clear hK K
                      try simp only [Act.put, List.setIfInBounds_toArray, List.set_cons_zero, List.set_cons_succ]
                      refine wpAnyH_ready (rs := [27]) (by kernel_rfl) (by simp) ?_
                      refine AllReadyH.cons (o := ?_) ?_ (fun K hK => ?_) ?_
                      rotate_left 1
                      · (simp only [List.getElem?_toArray, List.getElem?_cons_succ, List.getElem?_cons_zero]; exact rfl)
                      · go_simp
                        refine hK.out _ _ ?_ (fun hHeld => ?_)
                        · (try dsimp only) <;> (first | exact hx | exact hx.alloc_ _ | exact (hx.alloc_ _).alloc_ _ | exact St.weaken (A := [_]) hx)
                        clear hK K
                        try simp only [Act.put, List.setIfInBounds_toArray, List.set_cons_zero, List.set_cons_succ]
                        refine wpAnyH_ready (rs := [28]) (by kernel_rfl) (by simp) ?_
                        refine AllReadyH.cons (o := ?_) ?_ (fun K hK => ?_) ?_
                        rotate_left 1
                        · (simp only [List.getElem?_toArray, List.getElem?_cons_succ, List.getElem?_cons_zero]; exact rfl)
                        · go_simp
                          (go_at_call 23; (first | with_reducible refine (K6.out _ _ _ (hx)).mono ?_ | with_reducible refine (K6.out _ _ _ (hx.alloc _)).mono ?_); rintro e wx ⟨rfl, hx⟩; dsimp only)
                          refine hK.out _ _ ?_ (fun hHeld => ?_)
                          · (try dsimp only) <;> (first | exact hx | exact hx.alloc_ _ | exact (hx.alloc_ _).alloc_ _ | exact St.weaken (A := [_]) hx)
                          clear hK K
                          try simp only [Act.put, List.setIfInBounds_toArray, List.set_cons_zero, List.set_cons_succ]
                          refine wpAnyH_take (i := 29) (oi := ?_) (v := ?_) ?_ ?_ ?_ ?_ ?_ ?_ ?_ ?_
                          rotate_left 2
                          · (simp only [List.getElem?_toArray, List.getElem?_cons_succ, List.getElem?_cons_zero]; exact rfl)
                          · kernel_rfl
                          · kernel_rfl
                          · kernel_rfl
                          · exact fun _ _ _ h => h
                          · (refine Or.inl ⟨by rfl, ?_⟩; intro w hSw; (try dsimp only at hSw); go_simp; try with_reducible rfl)
                          · assumption
                          try simp only [Act.put, List.setIfInBounds_toArray, List.set_cons_zero, List.set_cons_succ]
                          refine wpAnyH_take (i := 30) (oi := ?_) (v := ?_) ?_ ?_ ?_ ?_ ?_ ?_ ?_ ?_
                          rotate_left 2
                          · (simp only [List.getElem?_toArray, List.getElem?_cons_succ, List.getElem?_cons_zero]; exact rfl)
                          · kernel_rfl
                          · kernel_rfl
                          · kernel_rfl
                          · exact fun _ _ _ h => h
                          · (refine Or.inl ⟨by rfl, ?_⟩; intro w hSw; (try dsimp only at hSw); go_simp; try with_reducible rfl)
                          · assumption
                          try simp only [Act.put, List.setIfInBounds_toArray, List.set_cons_zero, List.set_cons_succ]
                          refine wpAnyH_take (i := 31) (oi := ?_) (v := ?_) ?_ ?_ ?_ ?_ ?_ ?_ ?_ ?_
                          rotate_left 2
                          · (simp only [List.getElem?_toArray, List.getElem?_cons_succ, List.getElem?_cons_zero]; exact rfl)
                          · kernel_rfl
                          · kernel_rfl
                          · kernel_rfl
                          · exact fun _ _ _ h => h
                          · (refine Or.inl ⟨by rfl, ?_⟩; intro w hSw; (try dsimp only at hSw); go_simp; try with_reducible rfl)
                          · assumption
                          try simp only [Act.put, List.setIfInBounds_toArray, List.set_cons_zero, List.set_cons_succ]
                          refine wpAnyH_done (by kernel_rfl) ?_ _
                          have hfin := hx.below HLE.out
                          go_wp2_with fail
                          go_ret
                          exact ⟨rfl, hfin⟩
                        exact AllReadyH.nil
                      exact AllReadyH.nil
                    refine AllReadyH.cons (o := ?_) ?_ (fun K hK => ?_) ?_
                    rotate_left 1
                    · (simp only [List.getElem?_toArray, List.getElem?_cons_succ, List.getElem?_cons_zero]; exact rfl)
                    · go_simp
                      refine hK.out _ _ ?_ (fun hHeld => ?_)
                      · (try dsimp only) <;> (first | exact hx | exact hx.alloc_ _ | exact (hx.alloc_ _).alloc_ _ | exact St.weaken (A := [_]) hx)
                      clear hK K
                      try simp only [Act.put, List.setIfInBounds_toArray, List.set_cons_zero, List.set_cons_succ]
                      refine wpAnyH_ready (rs := [24]) (by kernel_rfl) (by simp) ?_
                      refine AllReadyH.cons (o := ?_) ?_ (fun K hK => ?_) ?_
                      rotate_left 1
                      · (simp only [List.getElem?_toArray, List.getElem?_cons_succ, List.getElem?_cons_zero]; exact rfl)
                      · go_simp
                        (go_at_call 23; (first | with_reducible refine (K5.out _ _ _ (hx.alloc _)).mono ?_ | with_reducible refine (K5.out _ _ _ (hx.alloc2 _ _)).mono ?_ | with_reducible refine (K5.out _ _ _ (hx.alloc2' _ _)).mono ?_); rintro e wx ⟨rfl, hx⟩; dsimp only)
                        refine hK.out _ _ ?_ (fun hHeld => ?_)
                        · (try dsimp only) <;> (first | exact hx | exact hx.alloc_ _ | exact (hx.alloc_ _).alloc_ _ | exact St.weaken (A := [_]) hx)
                        clear hK K
                        try simp only [Act.put, List.setIfInBounds_toArray, List.set_cons_zero, List.set_cons_succ]
                        refine wpAnyH_ready (rs := [28]) (by kernel_rfl) (by simp) ?_
                        refine AllReadyH.cons (o := ?_) ?_ (fun K hK => ?_) ?_
                        rotate_left 1
                        · (simp only [List.getElem?_toArray, List.getElem?_cons_succ, List.getElem?_cons_zero]; exact rfl)
                        · go_simp
                          (go_at_call 23; (first | with_reducible refine (K6.out _ _ _ (hx)).mono ?_ | with_reducible refine (K6.out _ _ _ (hx.alloc _)).mono ?_); rintro e wx ⟨rfl, hx⟩; dsimp only)
                          refine hK.out _ _ ?_ (fun hHeld => ?_)
                          · (try dsimp only) <;> (first | exact hx | exact hx.alloc_ _ | exact (hx.alloc_ _).alloc_ _ | exact St.weaken (A := [_]) hx)
                          clear hK K
                          try simp only [Act.put, List.setIfInBounds_toArray, List.set_cons_zero, List.set_cons_succ]
                          refine wpAnyH_take (i := 29) (oi := ?_) (v := ?_) ?_ ?_ ?_ ?_ ?_ ?_ ?_ ?_
                          rotate_left 2
                          · (simp only [List.getElem?_toArray, List.getElem?_cons_succ, List.getElem?_cons_zero]; exact rfl)
                          · kernel_rfl
                          · kernel_rfl
                          · kernel_rfl
                          · exact fun _ _ _ h => h
                          · (refine Or.inl ⟨by rfl, ?_⟩; intro w hSw; (try dsimp only at hSw); go_simp; try with_reducible rfl)
                          · assumption
                          try simp only [Act.put, List.setIfInBounds_toArray, List.set_cons_zero, List.set_cons_succ]
                          refine wpAnyH_take (i := 30) (oi := ?_) (v := ?_) ?_ ?_ ?_ ?_ ?_ ?_ ?_ ?_
                          rotate_left 2
                          · (simp only [List.getElem?_toArray, List.getElem?_cons_succ, List.getElem?_cons_zero]; exact rfl)
                          · kernel_rfl
                          · kernel_rfl
                          · kernel_rfl
                          · exact fun _ _ _ h => h
                          · (refine Or.inl ⟨by rfl, ?_⟩; intro w hSw; (try dsimp only at hSw); go_simp; try with_reducible rfl)
                          · assumption
                          try simp only [Act.put, List.setIfInBounds_toArray, List.set_cons_zero, List.set_cons_succ]
                          refine wpAnyH_take (i := 31) (oi := ?_) (v := ?_) ?_ ?_ ?_ ?_ ?_ ?_ ?_ ?_
                          rotate_left 2
                          · (simp only [List.getElem?_toArray, List.getElem?_cons_succ, List.getElem?_cons_zero]; exact rfl)
                          · kernel_rfl
                          · kernel_rfl
                          · kernel_rfl
                          · exact fun _ _ _ h => h
                          · (refine Or.inl ⟨by rfl, ?_⟩; intro w hSw; (try dsimp only at hSw); go_simp; try with_reducible rfl)
                          · assumption
                          try simp only [Act.put, List.setIfInBounds_toArray, List.set_cons_zero, List.set_cons_succ]
                          refine wpAnyH_done (by kernel_rfl) ?_ _
                          have hfin := hx.below HLE.out
                          go_wp2_with fail
                          go_ret
                          exact ⟨rfl, hfin⟩
                        exact AllReadyH.nil
                      exact AllReadyH.nil
                    exact AllReadyH.nil
                  refine AllReadyH.cons (o := ?_) ?_ (fun K hK => ?_) ?_
                  rotate_left 1
                  · (simp only [List.getElem?_toArray, List.getElem?_cons_succ, List.getElem?_cons_zero]; exact rfl)
                  · go_simp
                    refine hK.out _ _ ?_ (fun hHeld => ?_)
                    · (try dsimp only) <;> (first | exact hx | exact hx.alloc_ _ | exact (hx.alloc_ _).alloc_ _ | exact St.weaken (A := [_]) hx)
                    clear hK K
                    try simp only [Act.put, List.setIfInBounds_toArray, List.set_cons_zero, List.set_cons_succ]
                    refine wpAnyH_ready (rs := [23]) (by kernel_rfl) (by simp) ?_
                    refine AllReadyH.cons (o := ?_) ?_ (fun K hK => ?_) ?_
                    rotate_left 1
                    · (simp only [List.getElem?_toArray, List.getElem?_cons_succ, List.getElem?_cons_zero]; exact rfl)
                    · go_simp
                      refine hK.out _ _ ?_ (fun hHeld => ?_)
                      · (try dsimp only) <;> (first | exact hx | exact hx.alloc_ _ | exact (hx.alloc_ _).alloc_ _ | exact St.weaken (A := [_]) hx)
                      clear hK K
                      try simp only [Act.put, List.setIfInBounds_toArray, List.set_cons_zero, List.set_cons_succ]
                      refine wpAnyH_ready (rs := [24]) (by kernel_rfl) (by simp) ?_
                      refine AllReadyH.cons (o := ?_) ?_ (fun K hK => ?_) ?_
                      rotate_left 1
                      · (simp only [List.getElem?_toArray, List.getElem?_cons_succ, List.getElem?_cons_zero]; exact rfl)
                      · go_simp
                        (go_at_call 23; (first | with_reducible refine (K5.out _ _ _ (hx.alloc _)).mono ?_ | with_reducible refine (K5.out _ _ _ (hx.alloc2 _ _)).mono ?_ | with_reducible refine (K5.out _ _ _ (hx.alloc2' _ _)).mono ?_); rintro e wx ⟨rfl, hx⟩; dsimp only)
                        refine hK.out _ _ ?_ (fun hHeld => ?_)
                        · (try dsimp only) <;> (first | exact hx | exact hx.alloc_ _ | exact (hx.alloc_ _).alloc_ _ | exact St.weaken (A := [_]) hx)
                        clear hK K
                        try simp only [Act.put, List.setIfInBounds_toArray, List.set_cons_zero, List.set_cons_succ]
                        refine wpAnyH_ready (rs := [28]) (by kernel_rfl) (by simp) ?_
                        refine AllReadyH.cons (o := ?_) ?_ (fun K hK => ?_) ?_
                        rotate_left 1
                        · (simp only [List.getElem?_toArray, List.getElem?_cons_succ, List.getElem?_cons_zero]; exact rfl)
                        · go_simp
                          (go_at_call 23; (first | with_reducible refine (K6.out _ _ _ (hx)).mono ?_ | with_reducible refine (K6.out _ _ _ (hx.alloc _)).mono ?_); rintro e wx ⟨rfl, hx⟩; dsimp only)
                          refine hK.out _ _ ?_ (fun hHeld => ?_)
                          · (try dsimp only) <;> (first | exact hx | exact hx.alloc_ _ | exact (hx.alloc_ _).alloc_ _ | exact St.weaken (A := [_]) hx)
                          clear hK K
                          try simp only [Act.put, List.setIfInBounds_toArray, List.set_cons_zero, List.set_cons_succ]
                          refine wpAnyH_take (i := 29) (oi := ?_) (v := ?_) ?_ ?_ ?_ ?_ ?_ ?_ ?_ ?_
                          rotate_left 2
                          · (simp only [List.getElem?_toArray, List.getElem?_cons_succ, List.getElem?_cons_zero]; exact rfl)
                          · kernel_rfl
                          · kernel_rfl
                          · kernel_rfl
                          · exact fun _ _ _ h => h
                          · (refine Or.inl ⟨by rfl, ?_⟩; intro w hSw; (try dsimp only at hSw); go_simp; try with_reducible rfl)
                          · assumption
                          try simp only [Act.put, List.setIfInBounds_toArray, List.set_cons_zero, List.set_cons_succ]
                          refine wpAnyH_take (i := 30) (oi := ?_) (v := ?_) ?_ ?_ ?_ ?_ ?_ ?_ ?_ ?_
                          rotate_left 2
                          · (simp only [List.getElem?_toArray, List.getElem?_cons_succ, List.getElem?_cons_zero]; exact rfl)
                          · kernel_rfl
                          · kernel_rfl
                          · kernel_rfl
                          · exact fun _ _ _ h => h
                          · (refine Or.inl ⟨by rfl, ?_⟩; intro w hSw; (try dsimp only at hSw); go_simp; try with_reducible rfl)
                          · assumption
                          try simp only [Act.put, List.setIfInBounds_toArray, List.set_cons_zero, List.set_cons_succ]
                          refine wpAnyH_take (i := 31) (oi := ?_) (v := ?_) ?_ ?_ ?_ ?_ ?_ ?_ ?_ ?_
                          rotate_left 2
                          · (simp only [List.getElem?_toArray, List.getElem?_cons_succ, List.getElem?_cons_zero]; exact rfl)
                          · kernel_rfl
                          · kernel_rfl
                          · kernel_rfl
                          · exact fun _ _ _ h => h
                          · (refine Or.inl ⟨by rfl, ?_⟩; intro w hSw; (try dsimp only at hSw); go_simp; try with_reducible rfl)
                          · assumption
                          try simp only [Act.put, List.setIfInBounds_toArray, List.set_cons_zero, List.set_cons_succ]
                          refine wpAnyH_done (by kernel_rfl) ?_ _
                          have hfin := hx.below HLE.out
                          go_wp2_with fail
                          go_ret
                          exact ⟨rfl, hfin⟩
                        exact AllReadyH.nil
                      exact AllReadyH.nil
                    exact AllReadyH.nil
                  exact AllReadyH.nil
                exact AllReadyH.nil
              exact AllReadyH.nil
            refine AllReadyH.cons (o := ?_) ?_ (fun K hK => ?_) ?_
            rotate_left 1
            · (simp only [List.getElem?_toArray, List.getElem?_cons_succ, List.getElem?_cons_zero]; exact rfl)
            · go_simp
              refine hK.out _ _ ?_ (fun hHeld => ?_)
              · (try dsimp only) <;> (first | exact hx | exact hx.alloc_ _ | exact (hx.alloc_ _).alloc_ _ | exact St.weaken (A := [_]) hx)
              clear hK K
              try simp only [Act.put, List.setIfInBounds_toArray, List.set_cons_zero, List.set_cons_succ]
              refine wpAnyH_ready (rs := [13]) (by kernel_rfl) (by simp) ?_
              refine AllReadyH.cons (o := ?_) ?_ (fun K hK => ?_) ?_
              rotate_left 1
              · (simp only [List.getElem?_toArray, List.getElem?_cons_succ, List.getElem?_cons_zero]; exact rfl)
              · go_simp
                (go_at_call 23; (first | with_reducible refine (K3.out _ _ _ (hx.alloc _)).mono ?_ | with_reducible refine (K3.out _ _ _ (hx.alloc2 _ _)).mono ?_ | with_reducible refine (K3.out _ _ _ (hx.alloc2' _ _)).mono ?_); rintro e wx ⟨rfl, hx⟩; dsimp only)
                refine hK.out _ _ ?_ (fun hHeld => ?_)
                · (try dsimp only) <;> (first | exact hx | exact hx.alloc_ _ | exact (hx.alloc_ _).alloc_ _ | exact St.weaken (A := [_]) hx)
                clear hK K
                try simp only [Act.put, List.setIfInBounds_toArray, List.set_cons_zero, List.set_cons_succ]
                refine wpAnyH_ready (rs := [17]) (by kernel_rfl) (by simp) ?_
                refine AllReadyH.cons (o := ?_) ?_ (fun K hK => ?_) ?_
                rotate_left 1
                · (simp only [List.getElem?_toArray, List.getElem?_cons_succ, List.getElem?_cons_zero]; exact rfl)
                · go_simp
                  (go_at_call 23; (first | with_reducible refine (K4.out _ _ _ (hx)).mono ?_ | with_reducible refine (K4.out _ _ _ (hx.alloc _)).mono ?_); rintro e wx ⟨rfl, hx⟩; dsimp only)
                  refine hK.out _ _ ?_ (fun hHeld => ?_)
                  · (try dsimp only) <;> (first | exact hx | exact hx.alloc_ _ | exact (hx.alloc_ _).alloc_ _ | exact St.weaken (A := [_]) hx)
                  clear hK K
                  try simp only [Act.put, List.setIfInBounds_toArray, List.set_cons_zero, List.set_cons_succ]
                  refine wpAnyH_take (i := 18) (oi := ?_) (v := ?_) ?_ ?_ ?_ ?_ ?_ ?_ ?_ ?_
                  rotate_left 2
                  · (simp only [List.getElem?_toArray, List.getElem?_cons_succ, List.getElem?_cons_zero]; exact rfl)
                  · kernel_rfl
                  · kernel_rfl
                  · kernel_rfl
                  · exact fun _ _ _ h => h
                  · (refine Or.inl ⟨by rfl, ?_⟩; intro w hSw; (try dsimp only at hSw); go_simp; try with_reducible rfl)
                  · assumption
                  try simp only [Act.put, List.setIfInBounds_toArray, List.set_cons_zero, List.set_cons_succ]
                  refine wpAnyH_take (i := 19) (oi := ?_) (v := ?_) ?_ ?_ ?_ ?_ ?_ ?_ ?_ ?_
                  rotate_left 2
                  · (simp only [List.getElem?_toArray, List.getElem?_cons_succ, List.getElem?_cons_zero]; exact rfl)
                  · kernel_rfl
                  · kernel_rfl
                  · kernel_rfl
                  · exact fun _ _ _ h => h
                  · (refine Or.inl ⟨by rfl, ?_⟩; intro w hSw; (try dsimp only at hSw); go_simp; try with_reducible rfl)
                  · assumption
                  try simp only [Act.put, List.setIfInBounds_toArray, List.set_cons_zero, List.set_cons_succ]
                  refine wpAnyH_take (i := 20) (oi := ?_) (v := ?_) ?_ ?_ ?_ ?_ ?_ ?_ ?_ ?_
                  rotate_left 2
                  · (simp only [List.getElem?_toArray, List.getElem?_cons_succ, List.getElem?_cons_zero]; exact rfl)
                  · kernel_rfl
                  · kernel_rfl
                  · kernel_rfl
                  · exact fun _ _ _ h => h
                  · (refine Or.inl ⟨by rfl, ?_⟩; intro w hSw; (try dsimp only at hSw); go_simp; try with_reducible rfl)
                  · assumption
                  try simp only [Act.put, List.setIfInBounds_toArray, List.set_cons_zero, List.set_cons_succ]
                  refine wpAnyH_take (i := 21) (oi := ?_) (v := ?_) ?_ ?_ ?_ ?_ ?_ ?_ ?_ ?_
                  rotate_left 2
                  · (simp only [List.getElem?_toArray, List.getElem?_cons_succ, List.getElem?_cons_zero]; exact rfl)
                  · kernel_rfl
                  · kernel_rfl
                  · kernel_rfl
                  · exact fun _ _ _ h => h
                  · (refine Or.inl ⟨by rfl, ?_⟩; intro w hSw; (try dsimp only at hSw); go_simp; try with_reducible rfl)
                  · assumption
                  try simp only [Act.put, List.setIfInBounds_toArray, List.set_cons_zero, List.set_cons_succ]
                  refine wpAnyH_take (i := 22) (oi := ?_) (v := ?_) ?_ ?_ ?_ ?_ ?_ ?_ ?_ ?_
                  rotate_left 2
                  · (simp only [List.getElem?_toArray, List.getElem?_cons_succ, List.getElem?_cons_zero]; exact rfl)
                  · kernel_rfl
                  · kernel_rfl
                  · kernel_rfl
                  · exact fun _ _ _ h => h
                  · (refine Or.inl ⟨by rfl, ?_⟩; intro w hSw; (try dsimp only at hSw); go_simp; try with_reducible rfl)
                  · assumption
                  try simp only [Act.put, List.setIfInBounds_toArray, List.set_cons_zero, List.set_cons_succ]
                  refine wpAnyH_take (i := 25) (oi := ?_) (v := ?_) ?_ ?_ ?_ ?_ ?_ ?_ ?_ ?_
                  rotate_left 2
                  · (simp only [List.getElem?_toArray, List.getElem?_cons_succ, List.getElem?_cons_zero]; exact rfl)
                  · kernel_rfl
                  · kernel_rfl
                  · kernel_rfl
                  · exact fun _ _ _ h => h
                  · (refine Or.inl ⟨by rfl, ?_⟩; intro w hSw; (try dsimp only at hSw); go_simp; try with_reducible rfl)
                  · assumption
                  try simp only [Act.put, List.setIfInBounds_toArray, List.set_cons_zero, List.set_cons_succ]
                  refine wpAnyH_take (i := 26) (oi := ?_) (v := ?_) ?_ ?_ ?_ ?_ ?_ ?_ ?_ ?_
                  rotate_left 2
                  · (simp only [List.getElem?_toArray, List.getElem?_cons_succ, List.getElem?_cons_zero]; exact rfl)
                  · kernel_rfl
                  · kernel_rfl
                  · kernel_rfl
                  · exact fun _ _ _ h => h
                  · (refine Or.inl ⟨by rfl, ?_⟩; intro w hSw; (try dsimp only at hSw); go_simp; try with_reducible rfl)
                  · assumption
                  try simp only [Act.put, List.setIfInBounds_toArray, List.set_cons_zero, List.set_cons_succ]
                  refine wpAnyH_ready (rs := [23, 27]) (by kernel_rfl) (by simp) ?_
                  refine AllReadyH.cons (o := ?_) ?_ (fun K hK => ?_) ?_
                  rotate_left 1
                  · (simp only [List.getElem?_toArray, List.getElem?_cons_succ, List.getElem?_cons_zero]; exact rfl)
                  · go_simp
                    refine hK.out _ _ ?_ (fun hHeld => ?_)
                    · (try dsimp only) <;> (first | exact hx | exact hx.alloc_ _ | exact (hx.alloc_ _).alloc_ _ | exact St.weaken (A := [_]) hx)
                    clear hK K
                    try simp only [Act.put, List.setIfInBounds_toArray, List.set_cons_zero, List.set_cons_succ]
                    refine wpAnyH_ready (rs := [24, 27]) (by kernel_rfl) (by simp) ?_
                    refine AllReadyH.cons (o := ?_) ?_ (fun K hK => ?_) ?_
                    rotate_left 1
                    · (simp only [List.getElem?_toArray, List.getElem?_cons_succ, List.getElem?_cons_zero]; exact rfl)
                    · go_simp
                      (go_at_call 23; (first | with_reducible refine (K5.out _ _ _ (hx.alloc _)).mono ?_ | with_reducible refine (K5.out _ _ _ (hx.alloc2 _ _)).mono ?_ | with_reducible refine (K5.out _ _ _ (hx.alloc2' _ _)).mono ?_); rintro e wx ⟨rfl, hx⟩; dsimp only)
                      refine hK.out _ _ ?_ (fun hHeld => ?_)
                      · (try dsimp only) <;> (first | exact hx | exact hx.alloc_ _ | exact (hx.alloc_ _).alloc_ _ | exact St.weaken (A := [_]) hx)
                      clear hK K
                      try simp only [Act.put, List.setIfInBounds_toArray, List.set_cons_zero, List.set_cons_succ]
                      refine wpAnyH_ready (rs := [27]) (by kernel_rfl) (by simp) ?_
                      refine AllReadyH.cons (o := ?_) ?_ (fun K hK => ?_) ?_
                      rotate_left 1
                      · (simp only [List.getElem?_toArray, List.getElem?_cons_succ, List.getElem?_cons_zero]; exact rfl)
                      · go_simp
                        refine hK.out _ _ ?_ (fun hHeld => ?_)
                        · (try dsimp only) <;> (first | exact hx | exact hx.alloc_ _ | exact (hx.alloc_ _).alloc_ _ | exact St.weaken (A := [_]) hx)
                        clear hK K
                        try simp only [Act.put, List.setIfInBounds_toArray, List.set_cons_zero, List.set_cons_succ]
                        refine wpAnyH_ready (rs := [28]) (by kernel_rfl) (by simp) ?_
                        refine AllReadyH.cons (o := ?_) ?_ (fun K hK => ?_) ?_
                        rotate_left 1
                        · (simp only [List.getElem?_toArray, List.getElem?_cons_succ, List.getElem?_cons_zero]; exact rfl)
                        · go_simp
                          (go_at_call 23; (first | with_reducible refine (K6.out _ _ _ (hx)).mono ?_ | with_reducible refine (K6.out _ _ _ (hx.alloc _)).mono ?_); rintro e wx ⟨rfl, hx⟩; dsimp only)
                          refine hK.out _ _ ?_ (fun hHeld => ?_)
                          · (try dsimp only) <;> (first | exact hx | exact hx.alloc_ _ | exact (hx.alloc_ _).alloc_ _ | exact St.weaken (A := [_]) hx)
                          clear hK K
                          try simp only [Act.put, List.setIfInBounds_toArray, List.set_cons_zero, List.set_cons_succ]
                          refine wpAnyH_take (i := 29) (oi := ?_) (v := ?_) ?_ ?_ ?_ ?_ ?_ ?_ ?_ ?_
                          rotate_left 2
                          · (simp only [List.getElem?_toArray, List.getElem?_cons_succ, List.getElem?_cons_zero]; exact rfl)
                          · kernel_rfl
                          · kernel_rfl
                          · kernel_rfl
                          · exact fun _ _ _ h => h
                          · (refine Or.inl ⟨by rfl, ?_⟩; intro w hSw; (try dsimp only at hSw); go_simp; try with_reducible rfl)
                          · assumption
                          try simp only [Act.put, List.setIfInBounds_toArray, List.set_cons_zero, List.set_cons_succ]
                          refine wpAnyH_take (i := 30) (oi := ?_) (v := ?_) ?_ ?_ ?_ ?_ ?_ ?_ ?_ ?_
                          rotate_left 2
                          · (simp only [List.getElem?_toArray, List.getElem?_cons_succ, List.getElem?_cons_zero]; exact rfl)
                          · kernel_rfl
                          · kernel_rfl
                          · kernel_rfl
                          · exact fun _ _ _ h => h
                          · (refine Or.inl ⟨by rfl, ?_⟩; intro w hSw; (try dsimp only at hSw); go_simp; try with_reducible rfl)
                          · assumption
                          try simp only [Act.put, List.setIfInBounds_toArray, List.set_cons_zero, List.set_cons_succ]
                          refine wpAnyH_take (i := 31) (oi := ?_) (v := ?_) ?_ ?_ ?_ ?_ ?_ ?_ ?_ ?_
                          rotate_left 2
                          · (simp only [List.getElem?_toArray, List.getElem?_cons_succ, List.getElem?_cons_zero]; exact rfl)
                          · kernel_rfl
                          · kernel_rfl
                          · kernel_rfl
                          · exact fun _ _ _ h => h
                          · (refine Or.inl ⟨by rfl, ?_⟩; intro w hSw; (try dsimp only at hSw); go_simp; try with_reducible rfl)
                          · assumption
                          try simp only [Act.put, List.setIfInBounds_toArray, List.set_cons_zero, List.set_cons_succ]
                          refine wpAnyH_done (by kernel_rfl) ?_ _
                          have hfin := hx.below HLE.out
                          go_wp2_with fail
                          go_ret
                          exact ⟨rfl, hfin⟩
                        exact AllReadyH.nil
                      exact AllReadyH.nil
                    refine AllReadyH.cons (o := ?_) ?_ (fun K hK => ?_) ?_
                    rotate_left 1
                    · (simp only [List.getElem?_toArray, List.getElem?_cons_succ, List.getElem?_cons_zero]; exact rfl)
                    · go_simp
                      refine hK.out _ _ ?_ (fun hHeld => ?_)
                      · (try dsimp only) <;> (first | exact hx | exact hx.alloc_ _ | exact (hx.alloc_ _).alloc_ _ | exact St.weaken (A := [_]) hx)
                      clear hK K
                      try simp only [Act.put, List.setIfInBounds_toArray, List.set_cons_zero, List.set_cons_succ]
                      refine wpAnyH_ready (rs := [24]) (by kernel_rfl) (by simp) ?_
                      refine AllReadyH.cons (o := ?_) ?_ (fun K hK => ?_) ?_
                      rotate_left 1
                      · (simp only [List.getElem?_toArray, List.getElem?_cons_succ, List.getElem?_cons_zero]; exact rfl)
                      · go_simp
                        (go_at_call 23; (first | with_reducible refine (K5.out _ _ _ (hx.alloc _)).mono ?_ | with_reducible refine (K5.out _ _ _ (hx.alloc2 _ _)).mono ?_ | with_reducible refine (K5.out _ _ _ (hx.alloc2' _ _)).mono ?_); rintro e wx ⟨rfl, hx⟩; dsimp only)
                        refine hK.out _ _ ?_ (fun hHeld => ?_)
                        · (try dsimp only) <;> (first | exact hx | exact hx.alloc_ _ | exact (hx.alloc_ _).alloc_ _ | exact St.weaken (A := [_]) hx)
                        clear hK K
                        try simp only [Act.put, List.setIfInBounds_toArray, List.set_cons_zero, List.set_cons_succ]
                        refine wpAnyH_ready (rs := [28]) (by kernel_rfl) (by simp) ?_
                        refine AllReadyH.cons (o := ?_) ?_ (fun K hK => ?_) ?_
                        rotate_left 1
                        · (simp only [List.getElem?_toArray, List.getElem?_cons_succ, List.getElem?_cons_zero]; exact rfl)
                        · go_simp
                          (go_at_call 23; (first | with_reducible refine (K6.out _ _ _ (hx)).mono ?_ | with_reducible refine (K6.out _ _ _ (hx.alloc _)).mono ?_); rintro e wx ⟨rfl, hx⟩; dsimp only)
                          refine hK.out _ _ ?_ (fun hHeld => ?_)
                          · (try dsimp only) <;> (first | exact hx | exact hx.alloc_ _ | exact (hx.alloc_ _).alloc_ _ | exact St.weaken (A := [_]) hx)
                          clear hK K
                          try simp only [Act.put, List.setIfInBounds_toArray, List.set_cons_zero, List.set_cons_succ]
                          refine wpAnyH_take (i := 29) (oi := ?_) (v := ?_) ?_ ?_ ?_ ?_ ?_ ?_ ?_ ?_
                          rotate_left 2
                          · (simp only [List.getElem?_toArray, List.getElem?_cons_succ, List.getElem?_cons_zero]; exact rfl)
                          · kernel_rfl
                          · kernel_rfl
                          · kernel_rfl
                          · exact fun _ _ _ h => h
                          · (refine Or.inl ⟨by rfl, ?_⟩; intro w hSw; (try dsimp only at hSw); go_simp; try with_reducible rfl)
                          · assumption
                          try simp only [Act.put, List.setIfInBounds_toArray, List.set_cons_zero, List.set_cons_succ]
                          refine wpAnyH_take (i := 30) (oi := ?_) (v := ?_) ?_ ?_ ?_ ?_ ?_ ?_ ?_ ?_
                          rotate_left 2
                          · (simp only [List.getElem?_toArray, List.getElem?_cons_succ, List.getElem?_cons_zero]; exact rfl)
                          · kernel_rfl
                          · kernel_rfl
                          · kernel_rfl
                          · exact fun _ _ _ h => h
                          · (refine Or.inl ⟨by rfl, ?_⟩; intro w hSw; (try dsimp only at hSw); go_simp; try with_reducible rfl)
                          · assumption
                          try simp only [Act.put, List.setIfInBounds_toArray, List.set_cons_zero, List.set_cons_succ]
                          refine wpAnyH_take (i := 31) (oi := ?_) (v := ?_) ?_ ?_ ?_ ?_ ?_ ?_ ?_ ?_
                          rotate_left 2
                          · (simp only [List.getElem?_toArray, List.getElem?_cons_succ, List.getElem?_cons_zero]; exact rfl)
                          · kernel_rfl
                          · kernel_rfl
                          · kernel_rfl
                          · exact fun _ _ _ h => h
                          · (refine Or.inl ⟨by rfl, ?_⟩; intro w hSw; (try dsimp only at hSw); go_simp; try with_reducible rfl)
                          · assumption
                          try simp only [Act.put, List.setIfInBounds_toArray, List.set_cons_zero, List.set_cons_succ]
                          refine wpAnyH_done (by kernel_rfl) ?_ _
                          have hfin := hx.below HLE.out
                          go_wp2_with fail
                          go_ret
                          exact ⟨rfl, hfin⟩
                        exact AllReadyH.nil
                      exact AllReadyH.nil
                    exact AllReadyH.nil
                  refine AllReadyH.cons (o := ?_) ?_ (fun K hK => ?_) ?_
                  rotate_left 1
                  · (simp only [List.getElem?_toArray, List.getElem?_cons_succ, List.getElem?_cons_zero]; exact rfl)
                  · go_simp
                    refine hK.out _ _ ?_ (fun hHeld => ?_)
                    · (try dsimp only) <;> (first | exact hx | exact hx.alloc_ _ | exact (hx.alloc_ _).alloc_ _ | exact St.weaken (A := [_]) hx)
                    clear hK K
                    try simp only [Act.put, List.setIfInBounds_toArray, List.set_cons_zero, List.set_cons_succ]
                    refine wpAnyH_ready (rs := [23]) (by kernel_rfl) (by simp) ?_
                    refine AllReadyH.cons (o := ?_) ?_ (fun K hK => ?_) ?_
                    rotate_left 1
                    · (simp only [List.getElem?_toArray, List.getElem?_cons_succ, List.getElem?_cons_zero]; exact rfl)
                    · go_simp
                      refine hK.out _ _ ?_ (fun hHeld => ?_)
                      · (try dsimp only) <;> (first | exact hx | exact hx.alloc_ _ | exact (hx.alloc_ _).alloc_ _ | exact St.weaken (A := [_]) hx)
                      clear hK K
                      try simp only [Act.put, List.setIfInBounds_toArray, List.set_cons_zero, List.set_cons_succ]
                      refine wpAnyH_ready (rs := [24]) (by kernel_rfl) (by simp) ?_
                      refine AllReadyH.cons (o := ?_) ?_ (fun K hK => ?_) ?_
                      rotate_left 1
                      · (simp only [List.getElem?_toArray, List.getElem?_cons_succ, List.getElem?_cons_zero]; exact rfl)
                      · go_simp
                        (go_at_call 23; (first | with_reducible refine (K5.out _ _ _ (hx.alloc _)).mono ?_ | with_reducible refine (K5.out _ _ _ (hx.alloc2 _ _)).mono ?_ | with_reducible refine (K5.out _ _ _ (hx.alloc2' _ _)).mono ?_); rintro e wx ⟨rfl, hx⟩; dsimp only)
                        refine hK.out _ _ ?_ (fun hHeld => ?_)
                        · (try dsimp only) <;> (first | exact hx | exact hx.alloc_ _ | exact (hx.alloc_ _).alloc_ _ | exact St.weaken (A := [_]) hx)
                        clear hK K
                        try simp only [Act.put, List.setIfInBounds_toArray, List.set_cons_zero, List.set_cons_succ]
                        refine wpAnyH_ready (rs := [28]) (by kernel_rfl) (by simp) ?_
                        refine AllReadyH.cons (o := ?_) ?_ (fun K hK => ?_) ?_
                        rotate_left 1
                        · (simp only [List.getElem?_toArray, List.getElem?_cons_succ, List.getElem?_cons_zero]; exact rfl)
                        · go_simp
                          (go_at_call 23; (first | with_reducible refine (K6.out _ _ _ (hx)).mono ?_ | with_reducible refine (K6.out _ _ _ (hx.alloc _)).mono ?_); rintro e wx ⟨rfl, hx⟩; dsimp only)
                          refine hK.out _ _ ?_ (fun hHeld => ?_)
                          · (try dsimp only) <;> (first | exact hx | exact hx.alloc_ _ | exact (hx.alloc_ _).alloc_ _ | exact St.weaken (A := [_]) hx)
                          clear hK K
                          try simp only [Act.put, List.setIfInBounds_toArray, List.set_cons_zero, List.set_cons_succ]
                          refine wpAnyH_take (i := 29) (oi := ?_) (v := ?_) ?_ ?_ ?_ ?_ ?_ ?_ ?_ ?_
                          rotate_left 2
                          · (simp only [List.getElem?_toArray, List.getElem?_cons_succ, List.getElem?_cons_zero]; exact rfl)
                          · kernel_rfl
                          · kernel_rfl
                          · kernel_rfl
                          · exact fun _ _ _ h => h
                          · (refine Or.inl ⟨by rfl, ?_⟩; intro w hSw; (try dsimp only at hSw); go_simp; try with_reducible rfl)
                          · assumption
                          try simp only [Act.put, List.setIfInBounds_toArray, List.set_cons_zero, List.set_cons_succ]
                          refine wpAnyH_take (i := 30) (oi := ?_) (v := ?_) ?_ ?_ ?_ ?_ ?_ ?_ ?_ ?_
                          rotate_left 2
                          · (simp only [List.getElem?_toArray, List.getElem?_cons_succ, List.getElem?_cons_zero]; exact rfl)
                          · kernel_rfl
                          · kernel_rfl
                          · kernel_rfl
                          · exact fun _ _ _ h => h
                          · (refine Or.inl ⟨by rfl, ?_⟩; intro w hSw; (try dsimp only at hSw); go_simp; try with_reducible rfl)
                          · assumption
                          try simp only [Act.put, List.setIfInBounds_toArray, List.set_cons_zero, List.set_cons_succ]
                          refine wpAnyH_take (i := 31) (oi := ?_) (v := ?_) ?_ ?_ ?_ ?_ ?_ ?_ ?_ ?_
                          rotate_left 2
                          · (simp only [List.getElem?_toArray, List.getElem?_cons_succ, List.getElem?_cons_zero]; exact rfl)
                          · kernel_rfl
                          · kernel_rfl
                          · kernel_rfl
                          · exact fun _ _ _ h => h
                          · (refine Or.inl ⟨by rfl, ?_⟩; intro w hSw; (try dsimp only at hSw); go_simp; try with_reducible rfl)
                          · assumption
                          try simp only [Act.put, List.setIfInBounds_toArray, List.set_cons_zero, List.set_cons_succ]
                          refine wpAnyH_done (by kernel_rfl) ?_ _
                          have hfin := hx.below HLE.out
                          go_wp2_with fail
                          go_ret
                          exact ⟨rfl, hfin⟩
                        exact AllReadyH.nil
                      exact AllReadyH.nil
                    exact AllReadyH.nil
                  exact AllReadyH.nil
                exact AllReadyH.nil
              exact AllReadyH.nil
            exact AllReadyH.nil
          refine AllReadyH.cons (o := ?_) ?_ (fun K hK => ?_) ?_
          rotate_left 1
          · (simp only [List.getElem?_toArray, List.getElem?_cons_succ, List.getElem?_cons_zero]; exact rfl)
          · go_simp
            refine hK.out _ _ ?_ (fun hHeld => ?_)
            · (try dsimp only) <;> (first | exact hx | exact hx.alloc_ _ | exact (hx.alloc_ _).alloc_ _ | exact St.weaken (A := [_]) hx)
            clear hK K
            try simp only [Act.put, List.setIfInBounds_toArray, List.set_cons_zero, List.set_cons_succ]
            refine wpAnyH_ready (rs := [12]) (by kernel_rfl) (by simp) ?_
            refine AllReadyH.cons (o := ?_) ?_ (fun K hK => ?_) ?_
            rotate_left 1
            · (simp only [List.getElem?_toArray, List.getElem?_cons_succ, List.getElem?_cons_zero]; exact rfl)
            · go_simp
              refine hK.out _ _ ?_ (fun hHeld => ?_)
              · (try dsimp only) <;> (first | exact hx | exact hx.alloc_ _ | exact (hx.alloc_ _).alloc_ _ | exact St.weaken (A := [_]) hx)
              clear hK K
              try simp only [Act.put, List.setIfInBounds_toArray, List.set_cons_zero, List.set_cons_succ]
              refine wpAnyH_ready (rs := [13]) (by kernel_rfl) (by simp) ?_
              refine AllReadyH.cons (o := ?_) ?_ (fun K hK => ?_) ?_
              rotate_left 1
              · (simp only [List.getElem?_toArray, List.getElem?_cons_succ, List.getElem?_cons_zero]; exact rfl)
              · go_simp
                (go_at_call 23; (first | with_reducible refine (K3.out _ _ _ (hx.alloc _)).mono ?_ | with_reducible refine (K3.out _ _ _ (hx.alloc2 _ _)).mono ?_ | with_reducible refine (K3.out _ _ _ (hx.alloc2' _ _)).mono ?_); rintro e wx ⟨rfl, hx⟩; dsimp only)
                refine hK.out _ _ ?_ (fun hHeld => ?_)
                · (try dsimp only) <;> (first | exact hx | exact hx.alloc_ _ | exact (hx.alloc_ _).alloc_ _ | exact St.weaken (A := [_]) hx)
                clear hK K
                try simp only [Act.put, List.setIfInBounds_toArray, List.set_cons_zero, List.set_cons_succ]
                refine wpAnyH_ready (rs := [17]) (by kernel_rfl) (by simp) ?_
                refine AllReadyH.cons (o := ?_) ?_ (fun K hK => ?_) ?_
                rotate_left 1
                · (simp only [List.getElem?_toArray, List.getElem?_cons_succ, List.getElem?_cons_zero]; exact rfl)
                · go_simp
                  (go_at_call 23; (first | with_reducible refine (K4.out _ _ _ (hx)).mono ?_ | with_reducible refine (K4.out _ _ _ (hx.alloc _)).mono ?_); rintro e wx ⟨rfl, hx⟩; dsimp only)
                  refine hK.out _ _ ?_ (fun hHeld => ?_)
                  · (try dsimp only) <;> (first | exact hx | exact hx.alloc_ _ | exact (hx.alloc_ _).alloc_ _ | exact St.weaken (A := [_]) hx)
                  clear hK K
                  try simp only [Act.put, List.setIfInBounds_toArray, List.set_cons_zero, List.set_cons_succ]
                  refine wpAnyH_take (i := 18) (oi := ?_) (v := ?_) ?_ ?_ ?_ ?_ ?_ ?_ ?_ ?_
                  rotate_left 2
                  · (simp only [List.getElem?_toArray, List.getElem?_cons_succ, List.getElem?_cons_zero]; exact rfl)
                  · kernel_rfl
                  · kernel_rfl
                  · kernel_rfl
                  · exact fun _ _ _ h => h
                  · (refine Or.inl ⟨by rfl, ?_⟩; intro w hSw; (try dsimp only at hSw); go_simp; try with_reducible rfl)
                  · assumption
                  try simp only [Act.put, List.setIfInBounds_toArray, List.set_cons_zero, List.set_cons_succ]
                  refine wpAnyH_take (i := 19) (oi := ?_) (v := ?_) ?_ ?_ ?_ ?_ ?_ ?_ ?_ ?_
                  rotate_left 2
                  · (simp only [List.getElem?_toArray, List.getElem?_cons_succ, List.getElem?_cons_zero]; exact rfl)
                  · kernel_rfl
                  · kernel_rfl
                  · kernel_rfl
                  · exact fun _ _ _ h => h
                  · (refine Or.inl ⟨by rfl, ?_⟩; intro w hSw; (try dsimp only at hSw); go_simp; try with_reducible rfl)
                  · assumption
                  try simp only [Act.put, List.setIfInBounds_toArray, List.set_cons_zero, List.set_cons_succ]
                  refine wpAnyH_take (i := 20) (oi := ?_) (v := ?_) ?_ ?_ ?_ ?_ ?_ ?_ ?_ ?_
                  rotate_left 2
                  · (simp only [List.getElem?_toArray, List.getElem?_cons_succ, List.getElem?_cons_zero]; exact rfl)
                  · kernel_rfl
                  · kernel_rfl
                  · kernel_rfl
                  · exact fun _ _ _ h => h
                  · (refine Or.inl ⟨by rfl, ?_⟩; intro w hSw; (try dsimp only at hSw); go_simp; try with_reducible rfl)
                  · assumption
                  try simp only [Act.put, List.setIfInBounds_toArray, List.set_cons_zero, List.set_cons_succ]
                  refine wpAnyH_take (i := 21) (oi := ?_) (v := ?_) ?_ ?_ ?_ ?_ ?_ ?_ ?_ ?_
                  rotate_left 2
                  · (simp only [List.getElem?_toArray, List.getElem?_cons_succ, List.getElem?_cons_zero]; exact rfl)
                  · kernel_rfl
                  · kernel_rfl
                  · kernel_rfl
                  · exact fun _ _ _ h => h
                  · (refine Or.inl ⟨by rfl, ?_⟩; intro w hSw; (try dsimp only at hSw); go_simp; try with_reducible rfl)
                  · assumption
                  try simp only [Act.put, List.setIfInBounds_toArray, List.set_cons_zero, List.set_cons_succ]
                  refine wpAnyH_take (i := 22) (oi := ?_) (v := ?_) ?_ ?_ ?_ ?_ ?_ ?_ ?_ ?_
                  rotate_left 2
                  · (simp only [List.getElem?_toArray, List.getElem?_cons_succ, List.getElem?_cons_zero]; exact rfl)
                  · kernel_rfl
                  · kernel_rfl
                  · kernel_rfl
                  · exact fun _ _ _ h => h
                  · (refine Or.inl ⟨by rfl, ?_⟩; intro w hSw; (try dsimp only at hSw); go_simp; try with_reducible rfl)
                  · assumption
                  try simp only [Act.put, List.setIfInBounds_toArray, List.set_cons_zero, List.set_cons_succ]
                  refine wpAnyH_take (i := 25) (oi := ?_) (v := ?_) ?_ ?_ ?_ ?_ ?_ ?_ ?_ ?_
                  rotate_left 2
                  · (simp only [List.getElem?_toArray, List.getElem?_cons_succ, List.getElem?_cons_zero]; exact rfl)
                  · kernel_rfl
                  · kernel_rfl
                  · kernel_rfl
                  · exact fun _ _ _ h => h
                  · (refine Or.inl ⟨by rfl, ?_⟩; intro w hSw; (try dsimp only at hSw); go_simp; try with_reducible rfl)
                  · assumption
                  try simp only [Act.put, List.setIfInBounds_toArray, List.set_cons_zero, List.set_cons_succ]
                  refine wpAnyH_take (i := 26) (oi := ?_) (v := ?_) ?_ ?_ ?_ ?_ ?_ ?_ ?_ ?_
                  rotate_left 2
                  · (simp only [List.getElem?_toArray, List.getElem?_cons_succ, List.getElem?_cons_zero]; exact rfl)
                  · kernel_rfl
                  · kernel_rfl
                  · kernel_rfl
                  · exact fun _ _ _ h => h
                  · (refine Or.inl ⟨by rfl, ?_⟩; intro w hSw; (try dsimp only at hSw); go_simp; try with_reducible rfl)
                  · assumption
                  try simp only [Act.put, List.setIfInBounds_toArray, List.set_cons_zero, List.set_cons_succ]
                  refine wpAnyH_ready (rs := [23, 27]) (by kernel_rfl) (by simp) ?_
                  refine AllReadyH.cons (o := ?_) ?_ (fun K hK => ?_) ?_
                  rotate_left 1
                  · (simp only [List.getElem?_toArray, List.getElem?_cons_succ, List.getElem?_cons_zero]; exact rfl)
                  · go_simp
                    refine hK.out _ _ ?_ (fun hHeld => ?_)
                    · (try dsimp only) <;> (first | exact hx | exact hx.alloc_ _ | exact (hx.alloc_ _).alloc_ _ | exact St.weaken (A := [_]) hx)
                    clear hK K
                    try simp only [Act.put, List.setIfInBounds_toArray, List.set_cons_zero, List.set_cons_succ]
                    refine wpAnyH_ready (rs := [24, 27]) (by kernel_rfl) (by simp) ?_
                    refine AllReadyH.cons (o := ?_) ?_ (fun K hK => ?_) ?_
                    rotate_left 1
                    · (simp only [List.getElem?_toArray, List.getElem?_cons_succ, List.getElem?_cons_zero]; exact rfl)
                    · go_simp
                      (go_at_call 23; (first | with_reducible refine (K5.out _ _ _ (hx.alloc _)).mono ?_ | with_reducible refine (K5.out _ _ _ (hx.alloc2 _ _)).mono ?_ | with_reducible refine (K5.out _ _ _ (hx.alloc2' _ _)).mono ?_); rintro e wx ⟨rfl, hx⟩; dsimp only)
                      refine hK.out _ _ ?_ (fun hHeld => ?_)
                      · (try dsimp only) <;> (first | exact hx | exact hx.alloc_ _ | exact (hx.alloc_ _).alloc_ _ | exact St.weaken (A := [_]) hx)
                      clear hK K
                      try simp only [Act.put, List.setIfInBounds_toArray, List.set_cons_zero, List.set_cons_succ]
                      refine wpAnyH_ready (rs := [27]) (by kernel_rfl) (by simp) ?_
                      refine AllReadyH.cons (o := ?_) ?_ (fun K hK => ?_) ?_
                      rotate_left 1
                      · (simp only [List.getElem?_toArray, List.getElem?_cons_succ, List.getElem?_cons_zero]; exact rfl)
                      · go_simp
                        refine hK.out _ _ ?_ (fun hHeld => ?_)
                        · (try dsimp only) <;> (first | exact hx | exact hx.alloc_ _ | exact (hx.alloc_ _).alloc_ _ | exact St.weaken (A := [_]) hx)
                        clear hK K
                        try simp only [Act.put, List.setIfInBounds_toArray, List.set_cons_zero, List.set_cons_succ]
                        refine wpAnyH_ready (rs := [28]) (by kernel_rfl) (by simp) ?_
                        refine AllReadyH.cons (o := ?_) ?_ (fun K hK => ?_) ?_
                        rotate_left 1
                        · (simp only [List.getElem?_toArray, List.getElem?_cons_succ, List.getElem?_cons_zero]; exact rfl)
                        · go_simp
                          (go_at_call 23; (first | with_reducible refine (K6.out _ _ _ (hx)).mono ?_ | with_reducible refine (K6.out _ _ _ (hx.alloc _)).mono ?_); rintro e wx ⟨rfl, hx⟩; dsimp only)
                          refine hK.out _ _ ?_ (fun hHeld => ?_)
                          · (try dsimp only) <;> (first | exact hx | exact hx.alloc_ _ | exact (hx.alloc_ _).alloc_ _ | exact St.weaken (A := [_]) hx)
                          clear hK K
                          try simp only [Act.put, List.setIfInBounds_toArray, List.set_cons_zero, List.set_cons_succ]
                          refine wpAnyH_take (i := 29) (oi := ?_) (v := ?_) ?_ ?_ ?_ ?_ ?_ ?_ ?_ ?_
                          rotate_left 2
                          · (simp only [List.getElem?_toArray, List.getElem?_cons_succ, List.getElem?_cons_zero]; exact rfl)
                          · kernel_rfl
                          · kernel_rfl
                          · kernel_rfl
                          · exact fun _ _ _ h => h
                          · (refine Or.inl ⟨by rfl, ?_⟩; intro w hSw; (try dsimp only at hSw); go_simp; try with_reducible rfl)
                          · assumption
                          try simp only [Act.put, List.setIfInBounds_toArray, List.set_cons_zero, List.set_cons_succ]
                          refine wpAnyH_take (i := 30) (oi := ?_) (v := ?_) ?_ ?_ ?_ ?_ ?_ ?_ ?_ ?_
                          rotate_left 2
                          · (simp only [List.getElem?_toArray, List.getElem?_cons_succ, List.getElem?_cons_zero]; exact rfl)
                          · kernel_rfl
                          · kernel_rfl
                          · kernel_rfl
                          · exact fun _ _ _ h => h
                          · (refine Or.inl ⟨by rfl, ?_⟩; intro w hSw; (try dsimp only at hSw); go_simp; try with_reducible rfl)
                          · assumption
                          try simp only [Act.put, List.setIfInBounds_toArray, List.set_cons_zero, List.set_cons_succ]
                          refine wpAnyH_take (i := 31) (oi := ?_) (v := ?_) ?_ ?_ ?_ ?_ ?_ ?_ ?_ ?_
                          rotate_left 2
                          · (simp only [List.getElem?_toArray, List.getElem?_cons_succ, List.getElem?_cons_zero]; exact rfl)
                          · kernel_rfl
                          · kernel_rfl
                          · kernel_rfl
                          · exact fun _ _ _ h => h
                          · (refine Or.inl ⟨by rfl, ?_⟩; intro w hSw; (try dsimp only at hSw); go_simp; try with_reducible rfl)
                          · assumption
                          try simp only [Act.put, List.setIfInBounds_toArray, List.set_cons_zero, List.set_cons_succ]
                          refine wpAnyH_done (by kernel_rfl) ?_ _
                          have hfin := hx.below HLE.out
                          go_wp2_with fail
                          go_ret
                          exact ⟨rfl, hfin⟩
                        exact AllReadyH.nil
                      exact AllReadyH.nil
                    refine AllReadyH.cons (o := ?_) ?_ (fun K hK => ?_) ?_
                    rotate_left 1
                    · (simp only [List.getElem?_toArray, List.getElem?_cons_succ, List.getElem?_cons_zero]; exact rfl)
                    · go_simp
                      refine hK.out _ _ ?_ (fun hHeld => ?_)
                      · (try dsimp only) <;> (first | exact hx | exact hx.alloc_ _ | exact (hx.alloc_ _).alloc_ _ | exact St.weaken (A := [_]) hx)
                      clear hK K
                      try simp only [Act.put, List.setIfInBounds_toArray, List.set_cons_zero, List.set_cons_succ]
                      refine wpAnyH_ready (rs := [24]) (by kernel_rfl) (by simp) ?_
                      refine AllReadyH.cons (o := ?_) ?_ (fun K hK => ?_) ?_
                      rotate_left 1
                      · (simp only [List.getElem?_toArray, List.getElem?_cons_succ, List.getElem?_cons_zero]; exact rfl)
                      · go_simp
                        (go_at_call 23; (first | with_reducible refine (K5.out _ _ _ (hx.alloc _)).mono ?_ | with_reducible refine (K5.out _ _ _ (hx.alloc2 _ _)).mono ?_ | with_reducible refine (K5.out _ _ _ (hx.alloc2' _ _)).mono ?_); rintro e wx ⟨rfl, hx⟩; dsimp only)
                        refine hK.out _ _ ?_ (fun hHeld => ?_)
                        · (try dsimp only) <;> (first | exact hx | exact hx.alloc_ _ | exact (hx.alloc_ _).alloc_ _ | exact St.weaken (A := [_]) hx)
                        clear hK K
                        try simp only [Act.put, List.setIfInBounds_toArray, List.set_cons_zero, List.set_cons_succ]
                        refine wpAnyH_ready (rs := [28]) (by kernel_rfl) (by simp) ?_
                        refine AllReadyH.cons (o := ?_) ?_ (fun K hK => ?_) ?_
                        rotate_left 1
                        · (simp only [List.getElem?_toArray, List.getElem?_cons_succ, List.getElem?_cons_zero]; exact rfl)
                        · go_simp
                          (go_at_call 23; (first | with_reducible refine (K6.out _ _ _ (hx)).mono ?_ | with_reducible refine (K6.out _ _ _ (hx.alloc _)).mono ?_); rintro e wx ⟨rfl, hx⟩; dsimp only)
                          refine hK.out _ _ ?_ (fun hHeld => ?_)
                          · (try dsimp only) <;> (first | exact hx | exact hx.alloc_ _ | exact (hx.alloc_ _).alloc_ _ | exact St.weaken (A := [_]) hx)
                          clear hK K
                          try simp only [Act.put, List.setIfInBounds_toArray, List.set_cons_zero, List.set_cons_succ]
                          refine wpAnyH_take (i := 29) (oi := ?_) (v := ?_) ?_ ?_ ?_ ?_ ?_ ?_ ?_ ?_
                          rotate_left 2
                          · (simp only [List.getElem?_toArray, List.getElem?_cons_succ, List.getElem?_cons_zero]; exact rfl)
                          · kernel_rfl
                          · kernel_rfl
                          · kernel_rfl
                          · exact fun _ _ _ h => h
                          · (refine Or.inl ⟨by rfl, ?_⟩; intro w hSw; (try dsimp only at hSw); go_simp; try with_reducible rfl)
                          · assumption
                          try simp only [Act.put, List.setIfInBounds_toArray, List.set_cons_zero, List.set_cons_succ]
                          refine wpAnyH_take (i := 30) (oi := ?_) (v := ?_) ?_ ?_ ?_ ?_ ?_ ?_ ?_ ?_
                          rotate_left 2
                          · (simp only [List.getElem?_toArray, List.getElem?_cons_succ, List.getElem?_cons_zero]; exact rfl)
                          · kernel_rfl
                          · kernel_rfl
                          · kernel_rfl
                          · exact fun _ _ _ h => h
                          · (refine Or.inl ⟨by rfl, ?_⟩; intro w hSw; (try dsimp only at hSw); go_simp; try with_reducible rfl)
                          · assumption
                          try simp only [Act.put, List.setIfInBounds_toArray, List.set_cons_zero, List.set_cons_succ]
                          refine wpAnyH_take (i := 31) (oi := ?_) (v := ?_) ?_ ?_ ?_ ?_ ?_ ?_ ?_ ?_
                          rotate_left 2
                          · (simp only [List.getElem?_toArray, List.getElem?_cons_succ, List.getElem?_cons_zero]; exact rfl)
                          · kernel_rfl
                          · kernel_rfl
                          · kernel_rfl
                          · exact fun _ _ _ h => h
                          · (refine Or.inl ⟨by rfl, ?_⟩; intro w hSw; (try dsimp only at hSw); go_simp; try with_reducible rfl)
                          · assumption
                          try simp only [Act.put, List.setIfInBounds_toArray, List.set_cons_zero, List.set_cons_succ]
                          refine wpAnyH_done (by kernel_rfl) ?_ _
                          have hfin := hx.below HLE.out
                          go_wp2_with fail
                          go_ret
                          exact ⟨rfl, hfin⟩
                        exact AllReadyH.nil
                      exact AllReadyH.nil
                    exact AllReadyH.nil
                  refine AllReadyH.cons (o := ?_) ?_ (fun K hK => ?_) ?_
                  rotate_left 1
                  · (simp only [List.getElem?_toArray, List.getElem?_cons_succ, List.getElem?_cons_zero]; exact rfl)
                  · go_simp
                    refine hK.out _ _ ?_ (fun hHeld => ?_)
                    · (try dsimp only) <;> (first | exact hx | exact hx.alloc_ _ | exact (hx.alloc_ _).alloc_ _ | exact St.weaken (A := [_]) hx)
                    clear hK K
                    try simp only [Act.put, List.setIfInBounds_toArray, List.set_cons_zero, List.set_cons_succ]
                    refine wpAnyH_ready (rs := [23]) (by kernel_rfl) (by simp) ?_
                    refine AllReadyH.cons (o := ?_) ?_ (fun K hK => ?_) ?_
                    rotate_left 1
                    · (simp only [List.getElem?_toArray, List.getElem?_cons_succ, List.getElem?_cons_zero]; exact rfl)
                    · go_simp
                      refine hK.out _ _ ?_ (fun hHeld => ?_)
                      · (try dsimp only) <;> (first | exact hx | exact hx.alloc_ _ | exact (hx.alloc_ _).alloc_ _ | exact St.weaken (A := [_]) hx)
                      clear hK K
                      try simp only [Act.put, List.setIfInBounds_toArray, List.set_cons_zero, List.set_cons_succ]
                      refine wpAnyH_ready (rs := [24]) (by kernel_rfl) (by simp) ?_
                      refine AllReadyH.cons (o := ?_) ?_ (fun K hK => ?_) ?_
                      rotate_left 1
                      · (simp only [List.getElem?_toArray, List.getElem?_cons_succ, List.getElem?_cons_zero]; exact rfl)
                      · go_simp
                        (go_at_call 23; (first | with_reducible refine (K5.out _ _ _ (hx.alloc _)).mono ?_ | with_reducible refine (K5.out _ _ _ (hx.alloc2 _ _)).mono ?_ | with_reducible refine (K5.out _ _ _ (hx.alloc2' _ _)).mono ?_); rintro e wx ⟨rfl, hx⟩; dsimp only)
                        refine hK.out _ _ ?_ (fun hHeld => ?_)
                        · (try dsimp only) <;> (first | exact hx | exact hx.alloc_ _ | exact (hx.alloc_ _).alloc_ _ | exact St.weaken (A := [_]) hx)
                        clear hK K
                        try simp only [Act.put, List.setIfInBounds_toArray, List.set_cons_zero, List.set_cons_succ]
                        refine wpAnyH_ready (rs := [28]) (by kernel_rfl) (by simp) ?_
                        refine AllReadyH.cons (o := ?_) ?_ (fun K hK => ?_) ?_
                        rotate_left 1
                        · (simp only [List.getElem?_toArray, List.getElem?_cons_succ, List.getElem?_cons_zero]; exact rfl)
                        · go_simp
                          (go_at_call 23; (first | with_reducible refine (K6.out _ _ _ (hx)).mono ?_ | with_reducible refine (K6.out _ _ _ (hx.alloc _)).mono ?_); rintro e wx ⟨rfl, hx⟩; dsimp only)
                          refine hK.out _ _ ?_ (fun hHeld => ?_)
                          · (try dsimp only) <;> (first | exact hx | exact hx.alloc_ _ | exact (hx.alloc_ _).alloc_ _ | exact St.weaken (A := [_]) hx)
                          clear hK K
                          try simp only [Act.put, List.setIfInBounds_toArray, List.set_cons_zero, List.set_cons_succ]
                          refine wpAnyH_take (i := 29) (oi := ?_) (v := ?_) ?_ ?_ ?_ ?_ ?_ ?_ ?_ ?_
                          rotate_left 2
                          · (simp only [List.getElem?_toArray, List.getElem?_cons_succ, List.getElem?_cons_zero]; exact rfl)
                          · kernel_rfl
                          · kernel_rfl
                          · kernel_rfl
                          · exact fun _ _ _ h => h
                          · (refine Or.inl ⟨by rfl, ?_⟩; intro w hSw; (try dsimp only at hSw); go_simp; try with_reducible rfl)
                          · assumption
                          try simp only [Act.put, List.setIfInBounds_toArray, List.set_cons_zero, List.set_cons_succ]
                          refine wpAnyH_take (i := 30) (oi := ?_) (v := ?_) ?_ ?_ ?_ ?_ ?_ ?_ ?_ ?_
                          rotate_left 2
                          · (simp only [List.getElem?_toArray, List.getElem?_cons_succ, List.getElem?_cons_zero]; exact rfl)
                          · kernel_rfl
                          · kernel_rfl
                          · kernel_rfl
                          · exact fun _ _ _ h => h
                          · (refine Or.inl ⟨by rfl, ?_⟩; intro w hSw; (try dsimp only at hSw); go_simp; try with_reducible rfl)
                          · assumption
                          try simp only [Act.put, List.setIfInBounds_toArray, List.set_cons_zero, List.set_cons_succ]
                          refine wpAnyH_take (i := 31) (oi := ?_) (v := ?_) ?_ ?_ ?_ ?_ ?_ ?_ ?_ ?_
                          rotate_left 2
                          · (simp only [List.getElem?_toArray, List.getElem?_cons_succ, List.getElem?_cons_zero]; exact rfl)
                          · kernel_rfl
                          · kernel_rfl
                          · kernel_rfl
                          · exact fun _ _ _ h => h
                          · (refine Or.inl ⟨by rfl, ?_⟩; intro w hSw; (try dsimp only at hSw); go_simp; try with_reducible rfl)
                          · assumption
                          try simp only [Act.put, List.setIfInBounds_toArray, List.set_cons_zero, List.set_cons_succ]
                          refine wpAnyH_done (by kernel_rfl) ?_ _
                          have hfin := hx.below HLE.out
                          go_wp2_with fail
                          go_ret
                          exact ⟨rfl, hfin⟩
                        exact AllReadyH.nil
                      exact AllReadyH.nil
                    exact AllReadyH.nil
                  exact AllReadyH.nil
                exact AllReadyH.nil
              exact AllReadyH.nil
            exact AllReadyH.nil
          exact AllReadyH.nil
        exact AllReadyH.nil
      exact AllReadyH.nil
    exact AllReadyH.nil
  refine AllReadyH.cons (o := ?_) ?_ (fun K hK => ?_) ?_
  rotate_left 1
  · (simp only [List.getElem?_toArray, List.getElem?_cons_succ, List.getElem?_cons_zero]; exact rfl)
  · go_simp
    refine hK.out _ _ ?_ (fun hHeld => ?_)
    · (try dsimp only) <;> (first | exact hx | exact hx.alloc_ _ | exact (hx.alloc_ _).alloc_ _ | exact St.weaken (A := [_]) hx)
    clear hK K
    try simp only [Act.put, List.setIfInBounds_toArray, List.set_cons_zero, List.set_cons_succ]
    refine wpAnyH_ready (rs := [2]) (by kernel_rfl) (by simp) ?_
    refine AllReadyH.cons (o := ?_) ?_ (fun K hK => ?_) ?_
    rotate_left 1
    · (simp only [List.getElem?_toArray, List.getElem?_cons_succ, List.getElem?_cons_zero]; exact rfl)
    · go_simp
      refine hK.out _ _ ?_ (fun hHeld => ?_)
      · (try dsimp only) <;> (first | exact hx | exact hx.alloc_ _ | exact (hx.alloc_ _).alloc_ _ | exact St.weaken (A := [_]) hx)
      clear hK K
      try simp only [Act.put, List.setIfInBounds_toArray, List.set_cons_zero, List.set_cons_succ]
      refine wpAnyH_ready (rs := [3]) (by kernel_rfl) (by simp) ?_
      refine AllReadyH.cons (o := ?_) ?_ (fun K hK => ?_) ?_
      rotate_left 1
      · (simp only [List.getElem?_toArray, List.getElem?_cons_succ, List.getElem?_cons_zero]; exact rfl)
      · go_simp
        (go_at_call 23; (first | with_reducible refine (K1.out _ _ _ (hx.alloc _)).mono ?_ | with_reducible refine (K1.out _ _ _ (hx.alloc2 _ _)).mono ?_ | with_reducible refine (K1.out _ _ _ (hx.alloc2' _ _)).mono ?_); rintro e wx ⟨rfl, hx⟩; dsimp only)
        refine hK.out _ _ ?_ (fun hHeld => ?_)
        · (try dsimp only) <;> (first | exact hx | exact hx.alloc_ _ | exact (hx.alloc_ _).alloc_ _ | exact St.weaken (A := [_]) hx)
        clear hK K
        try simp only [Act.put, List.setIfInBounds_toArray, List.set_cons_zero, List.set_cons_succ]
        refine wpAnyH_ready (rs := [7]) (by kernel_rfl) (by simp) ?_
        refine AllReadyH.cons (o := ?_) ?_ (fun K hK => ?_) ?_
        rotate_left 1
        · (simp only [List.getElem?_toArray, List.getElem?_cons_succ, List.getElem?_cons_zero]; exact rfl)
        · go_simp
          (go_at_call 23; (first | with_reducible refine (K2.out _ _ _ (hx)).mono ?_ | with_reducible refine (K2.out _ _ _ (hx.alloc _)).mono ?_); rintro e wx ⟨rfl, hx⟩; dsimp only)
          refine hK.out _ _ ?_ (fun hHeld => ?_)
          · (try dsimp only) <;> (first | exact hx | exact hx.alloc_ _ | exact (hx.alloc_ _).alloc_ _ | exact St.weaken (A := [_]) hx)
          clear hK K
          try simp only [Act.put, List.setIfInBounds_toArray, List.set_cons_zero, List.set_cons_succ]
          refine wpAnyH_take (i := 8) (oi := ?_) (v := ?_) ?_ ?_ ?_ ?_ ?_ ?_ ?_ ?_
          rotate_left 2
          · (simp only [List.getElem?_toArray, List.getElem?_cons_succ, List.getElem?_cons_zero]; exact rfl)
          · kernel_rfl
          · kernel_rfl
          · kernel_rfl
          · exact fun _ _ _ h => h
          · (refine Or.inl ⟨by rfl, ?_⟩; intro w hSw; (try dsimp only at hSw); go_simp; try with_reducible rfl)
          · assumption
          try simp only [Act.put, List.setIfInBounds_toArray, List.set_cons_zero, List.set_cons_succ]
          refine wpAnyH_take (i := 9) (oi := ?_) (v := ?_) ?_ ?_ ?_ ?_ ?_ ?_ ?_ ?_
          rotate_left 2
          · (simp only [List.getElem?_toArray, List.getElem?_cons_succ, List.getElem?_cons_zero]; exact rfl)
          · kernel_rfl
          · kernel_rfl
          · kernel_rfl
          · exact fun _ _ _ h => h
          · (refine Or.inl ⟨by rfl, ?_⟩; intro w hSw; (try dsimp only at hSw); go_simp; try with_reducible rfl)
          · assumption
          try simp only [Act.put, List.setIfInBounds_toArray, List.set_cons_zero, List.set_cons_succ]
          refine wpAnyH_take (i := 10) (oi := ?_) (v := ?_) ?_ ?_ ?_ ?_ ?_ ?_ ?_ ?_
          rotate_left 2
          · (simp only [List.getElem?_toArray, List.getElem?_cons_succ, List.getElem?_cons_zero]; exact rfl)
          · kernel_rfl
          · kernel_rfl
          · kernel_rfl
          · exact fun _ _ _ h => h
          · (refine Or.inl ⟨by rfl, ?_⟩; intro w hSw; (try dsimp only at hSw); go_simp; try with_reducible rfl)
          · assumption
          try simp only [Act.put, List.setIfInBounds_toArray, List.set_cons_zero, List.set_cons_succ]
          refine wpAnyH_take (i := 11) (oi := ?_) (v := ?_) ?_ ?_ ?_ ?_ ?_ ?_ ?_ ?_
          rotate_left 2
          · (simp only [List.getElem?_toArray, List.getElem?_cons_succ, List.getElem?_cons_zero]; exact rfl)
          · kernel_rfl
          · kernel_rfl
          · kernel_rfl
          · exact fun _ _ _ h => h
          · (refine Or.inl ⟨by rfl, ?_⟩; intro w hSw; (try dsimp only at hSw); go_simp; try with_reducible rfl)
          · assumption
          try simp only [Act.put, List.setIfInBounds_toArray, List.set_cons_zero, List.set_cons_succ]
          refine wpAnyH_take (i := 14) (oi := ?_) (v := ?_) ?_ ?_ ?_ ?_ ?_ ?_ ?_ ?_
          rotate_left 2
          · (simp only [List.getElem?_toArray, List.getElem?_cons_succ, List.getElem?_cons_zero]; exact rfl)
          · kernel_rfl
          · kernel_rfl
          · kernel_rfl
          · exact fun _ _ _ h => h
          · (refine Or.inl ⟨by rfl, ?_⟩; intro w hSw; (try dsimp only at hSw); go_simp; try with_reducible rfl)
          · assumption
          try simp only [Act.put, List.setIfInBounds_toArray, List.set_cons_zero, List.set_cons_succ]
          refine wpAnyH_take (i := 15) (oi := ?_) (v := ?_) ?_ ?_ ?_ ?_ ?_ ?_ ?_ ?_
          rotate_left 2
          · (simp only [List.getElem?_toArray, List.getElem?_cons_succ, List.getElem?_cons_zero]; exact rfl)
          · kernel_rfl
          · kernel_rfl
          · kernel_rfl
          · exact fun _ _ _ h => h
          · (refine Or.inl ⟨by rfl, ?_⟩; intro w hSw; (try dsimp only at hSw); go_simp; try with_reducible rfl)
          · assumption
          try simp only [Act.put, List.setIfInBounds_toArray, List.set_cons_zero, List.set_cons_succ]
          refine wpAnyH_ready (rs := [12, 16]) (by kernel_rfl) (by simp) ?_
          refine AllReadyH.cons (o := ?_) ?_ (fun K hK => ?_) ?_
          rotate_left 1
          · (simp only [List.getElem?_toArray, List.getElem?_cons_succ, List.getElem?_cons_zero]; exact rfl)
          · go_simp
            refine hK.out _ _ ?_ (fun hHeld => ?_)
            · (try dsimp only) <;> (first | exact hx | exact hx.alloc_ _ | exact (hx.alloc_ _).alloc_ _ | exact St.weaken (A := [_]) hx)
            clear hK K
            try simp only [Act.put, List.setIfInBounds_toArray, List.set_cons_zero, List.set_cons_succ]
            refine wpAnyH_ready (rs := [13, 16]) (by kernel_rfl) (by simp) ?_
            refine AllReadyH.cons (o := ?_) ?_ (fun K hK => ?_) ?_
            rotate_left 1
            · (simp only [List.getElem?_toArray, List.getElem?_cons_succ, List.getElem?_cons_zero]; exact rfl)
            · go_simp
              (go_at_call 23; (first | with_reducible refine (K3.out _ _ _ (hx.alloc _)).mono ?_ | with_reducible refine (K3.out _ _ _ (hx.alloc2 _ _)).mono ?_ | with_reducible refine (K3.out _ _ _ (hx.alloc2' _ _)).mono ?_); rintro e wx ⟨rfl, hx⟩; dsimp only)
              refine hK.out _ _ ?_ (fun hHeld => ?_)
              · (try dsimp only) <;> (first | exact hx | exact hx.alloc_ _ | exact (hx.alloc_ _).alloc_ _ | exact St.weaken (A := [_]) hx)
              clear hK K
              try simp only [Act.put, List.setIfInBounds_toArray, List.set_cons_zero, List.set_cons_succ]
              refine wpAnyH_ready (rs := [16]) (by kernel_rfl) (by simp) ?_
              refine AllReadyH.cons (o := ?_) ?_ (fun K hK => ?_) ?_
              rotate_left 1
              · (simp only [List.getElem?_toArray, List.getElem?_cons_succ, List.getElem?_cons_zero]; exact rfl)
              · go_simp
                refine hK.out _ _ ?_ (fun hHeld => ?_)
                · (try dsimp only) <;> (first | exact hx | exact hx.alloc_ _ | exact (hx.alloc_ _).alloc_ _ | exact St.weaken (A := [_]) hx)
                clear hK K
                try simp only [Act.put, List.setIfInBounds_toArray, List.set_cons_zero, List.set_cons_succ]
                refine wpAnyH_ready (rs := [17]) (by kernel_rfl) (by simp) ?_
                refine AllReadyH.cons (o := ?_) ?_ (fun K hK => ?_) ?_
                rotate_left 1
                · (simp only [List.getElem?_toArray, List.getElem?_cons_succ, List.getElem?_cons_zero]; exact rfl)
                · go_simp
                  (go_at_call 23; (first | with_reducible refine (K4.out _ _ _ (hx)).mono ?_ | with_reducible refine (K4.out _ _ _ (hx.alloc _)).mono ?_); rintro e wx ⟨rfl, hx⟩; dsimp only)
                  refine hK.out _ _ ?_ (fun hHeld => ?_)
                  · (try dsimp only) <;> (first | exact hx | exact hx.alloc_ _ | exact (hx.alloc_ _).alloc_ _ | exact St.weaken (A := [_]) hx)
                  clear hK K
                  try simp only [Act.put, List.setIfInBounds_toArray, List.set_cons_zero, List.set_cons_succ]
                  refine wpAnyH_take (i := 18) (oi := ?_) (v := ?_) ?_ ?_ ?_ ?_ ?_ ?_ ?_ ?_
                  rotate_left 2
                  · (simp only [List.getElem?_toArray, List.getElem?_cons_succ, List.getElem?_cons_zero]; exact rfl)
                  · kernel_rfl
                  · kernel_rfl
                  · kernel_rfl
                  · exact fun _ _ _ h => h
                  · (refine Or.inl ⟨by rfl, ?_⟩; intro w hSw; (try dsimp only at hSw); go_simp; try with_reducible rfl)
                  · assumption
                  try simp only [Act.put, List.setIfInBounds_toArray, List.set_cons_zero, List.set_cons_succ]
                  refine wpAnyH_take (i := 19) (oi := ?_) (v := ?_) ?_ ?_ ?_ ?_ ?_ ?_ ?_ ?_
                  rotate_left 2
                  · (simp only [List.getElem?_toArray, List.getElem?_cons_succ, List.getElem?_cons_zero]; exact rfl)
                  · kernel_rfl
                  · kernel_rfl
                  · kernel_rfl
                  · exact fun _ _ _ h => h
                  · (refine Or.inl ⟨by rfl, ?_⟩; intro w hSw; (try dsimp only at hSw); go_simp; try with_reducible rfl)
                  · assumption
                  try simp only [Act.put, List.setIfInBounds_toArray, List.set_cons_zero, List.set_cons_succ]
                  refine wpAnyH_take (i := 20) (oi := ?_) (v := ?_) ?_ ?_ ?_ ?_ ?_ ?_ ?_ ?_
                  rotate_left 2
                  · (simp only [List.getElem?_toArray, List.getElem?_cons_succ, List.getElem?_cons_zero]; exact rfl)
                  · kernel_rfl
                  · kernel_rfl
                  · kernel_rfl
                  · exact fun _ _ _ h => h
                  · (refine Or.inl ⟨by rfl, ?_⟩; intro w hSw; (try dsimp only at hSw); go_simp; try with_reducible rfl)
                  · assumption
                  try simp only [Act.put, List.setIfInBounds_toArray, List.set_cons_zero, List.set_cons_succ]
                  refine wpAnyH_take (i := 21) (oi := ?_) (v := ?_) ?_ ?_ ?_ ?_ ?_ ?_ ?_ ?_
                  rotate_left 2
                  · (simp only [List.getElem?_toArray, List.getElem?_cons_succ, List.getElem?_cons_zero]; exact rfl)
                  · kernel_rfl
                  · kernel_rfl
                  · kernel_rfl
                  · exact fun _ _ _ h => h
                  · (refine Or.inl ⟨by rfl, ?_⟩; intro w hSw; (try dsimp only at hSw); go_simp; try with_reducible rfl)
                  · assumption
                  try simp only [Act.put, List.setIfInBounds_toArray, List.set_cons_zero, List.set_cons_succ]
                  refine wpAnyH_take (i := 22) (oi := ?_) (v := ?_) ?_ ?_ ?_ ?_ ?_ ?_ ?_ ?_
                  rotate_left 2
                  · (simp only [List.getElem?_toArray, List.getElem?_cons_succ, List.getElem?_cons_zero]; exact rfl)
                  · kernel_rfl
                  · kernel_rfl
                  · kernel_rfl
                  · exact fun _ _ _ h => h
                  · (refine Or.inl ⟨by rfl, ?_⟩; intro w hSw; (try dsimp only at hSw); go_simp; try with_reducible rfl)
                  · assumption
                  try simp only [Act.put, List.setIfInBounds_toArray, List.set_cons_zero, List.set_cons_succ]
                  refine wpAnyH_take (i := 25) (oi := ?_) (v := ?_) ?_ ?_ ?_ ?_ ?_ ?_ ?_ ?_
                  rotate_left 2
                  · (simp only [List.getElem?_toArray, List.getElem?_cons_succ, List.getElem?_cons_zero]; exact rfl)
                  · kernel_rfl
                  · kernel_rfl
                  · kernel_rfl
                  · exact fun _ _ _ h => h
                  · (refine Or.inl ⟨by rfl, ?_⟩; intro w hSw; (try dsimp only at hSw); go_simp; try with_reducible rfl)
                  · assumption
                  try simp only [Act.put, List.setIfInBounds_toArray, List.set_cons_zero, List.set_cons_succ]
                  refine wpAnyH_take (i := 26) (oi := ?_) (v := ?_) ?_ ?_ ?_ ?_ ?_ ?_ ?_ ?_
                  rotate_left 2
                  · (simp only [List.getElem?_toArray, List.getElem?_cons_succ, List.getElem?_cons_zero]; exact rfl)
                  · kernel_rfl
                  · kernel_rfl
                  · kernel_rfl
                  · exact fun _ _ _ h => h
                  · (refine Or.inl ⟨by rfl, ?_⟩; intro w hSw; (try dsimp only at hSw); go_simp; try with_reducible rfl)
                  · assumption
                  try simp only [Act.put, List.setIfInBounds_toArray, List.set_cons_zero, List.set_cons_succ]
                  refine wpAnyH_ready (rs := [23, 27]) (by kernel_rfl) (by simp) ?_
                  refine AllReadyH.cons (o := ?_) ?_ (fun K hK => ?_) ?_
                  rotate_left 1
                  · (simp only [List.getElem?_toArray, List.getElem?_cons_succ, List.getElem?_cons_zero]; exact rfl)
                  · go_simp
                    refine hK.out _ _ ?_ (fun hHeld => ?_)
                    · (try dsimp only) <;> (first | exact hx | exact hx.alloc_ _ | exact (hx.alloc_ _).alloc_ _ | exact St.weaken (A := [_]) hx)
                    clear hK K
                    try simp only [Act.put, List.setIfInBounds_toArray, List.set_cons_zero, List.set_cons_succ]
                    refine wpAnyH_ready (rs := [24, 27]) (by kernel_rfl) (by simp) ?_
                    refine AllReadyH.cons (o := ?_) ?_ (fun K hK => ?_) ?_
                    rotate_left 1
                    · (simp only [List.getElem?_toArray, List.getElem?_cons_succ, List.getElem?_cons_zero]; exact rfl)
                    · go_simp
                      (go_at_call 23; (first | with_reducible refine (K5.out _ _ _ (hx.alloc _)).mono ?_ | with_reducible refine (K5.out _ _ _ (hx.alloc2 _ _)).mono ?_ | with_reducible refine (K5.out _ _ _ (hx.alloc2' _ _)).mono ?_); rintro e wx ⟨rfl, hx⟩; dsimp only)
                      refine hK.out _ _ ?_ (fun hHeld => ?_)
                      · (try dsimp only) <;> (first | exact hx | exact hx.alloc_ _ | exact (hx.alloc_ _).alloc_ _ | exact St.weaken (A := [_]) hx)
                      clear hK K
                      try simp only [Act.put, List.setIfInBounds_toArray, List.set_cons_zero, List.set_cons_succ]
                      refine wpAnyH_ready (rs := [27]) (by kernel_rfl) (by simp) ?_
                      refine AllReadyH.cons (o := ?_) ?_ (fun K hK => ?_) ?_
                      rotate_left 1
                      · (simp only [List.getElem?_toArray, List.getElem?_cons_succ, List.getElem?_cons_zero]; exact rfl)
                      · go_simp
                        refine hK.out _ _ ?_ (fun hHeld => ?_)
                        · (try dsimp only) <;> (first | exact hx | exact hx.alloc_ _ | exact (hx.alloc_ _).alloc_ _ | exact St.weaken (A := [_]) hx)
                        clear hK K
                        try simp only [Act.put, List.setIfInBounds_toArray, List.set_cons_zero, List.set_cons_succ]
                        refine wpAnyH_ready (rs := [28]) (by kernel_rfl) (by simp) ?_
                        refine AllReadyH.cons (o := ?_) ?_ (fun K hK => ?_) ?_
                        rotate_left 1
                        · (simp only [List.getElem?_toArray, List.getElem?_cons_succ, List.getElem?_cons_zero]; exact rfl)
                        · go_simp
                          (go_at_call 23; (first | with_reducible refine (K6.out _ _ _ (hx)).mono ?_ | with_reducible refine (K6.out _ _ _ (hx.alloc _)).mono ?_); rintro e wx ⟨rfl, hx⟩; dsimp only)
                          refine hK.out _ _ ?_ (fun hHeld => ?_)
                          · (try dsimp only) <;> (first | exact hx | exact hx.alloc_ _ | exact (hx.alloc_ _).alloc_ _ | exact St.weaken (A := [_]) hx)
                          clear hK K
                          try simp only [Act.put, List.setIfInBounds_toArray, List.set_cons_zero, List.set_cons_succ]
                          refine wpAnyH_take (i := 29) (oi := ?_) (v := ?_) ?_ ?_ ?_ ?_ ?_ ?_ ?_ ?_
                          rotate_left 2
                          · (simp only [List.getElem?_toArray, List.getElem?_cons_succ, List.getElem?_cons_zero]; exact rfl)
                          · kernel_rfl
                          · kernel_rfl
                          · kernel_rfl
                          · exact fun _ _ _ h => h
                          · (refine Or.inl ⟨by rfl, ?_⟩; intro w hSw; (try dsimp only at hSw); go_simp; try with_reducible rfl)
                          · assumption
                          try simp only [Act.put, List.setIfInBounds_toArray, List.set_cons_zero, List.set_cons_succ]
                          refine wpAnyH_take (i := 30) (oi := ?_) (v := ?_) ?_ ?_ ?_ ?_ ?_ ?_ ?_ ?_
                          rotate_left 2
                          · (simp only [List.getElem?_toArray, List.getElem?_cons_succ, List.getElem?_cons_zero]; exact rfl)
                          · kernel_rfl
                          · kernel_rfl
                          · kernel_rfl
                          · exact fun _ _ _ h => h
                          · (refine Or.inl ⟨by rfl, ?_⟩; intro w hSw; (try dsimp only at hSw); go_simp; try with_reducible rfl)
                          · assumption
                          try simp only [Act.put, List.setIfInBounds_toArray, List.set_cons_zero, List.set_cons_succ]
                          refine wpAnyH_take (i := 31) (oi := ?_) (v := ?_) ?_ ?_ ?_ ?_ ?_ ?_ ?_ ?_
                          rotate_left 2
                          · (simp only [List.getElem?_toArray, List.getElem?_cons_succ, List.getElem?_cons_zero]; exact rfl)
                          · kernel_rfl
                          · kernel_rfl
                          · kernel_rfl
                          · exact fun _ _ _ h => h
                          · (refine Or.inl ⟨by rfl, ?_⟩; intro w hSw; (try dsimp only at hSw); go_simp; try with_reducible rfl)
                          · assumption
                          try simp only [Act.put, List.setIfInBounds_toArray, List.set_cons_zero, List.set_cons_succ]
                          refine wpAnyH_done (by kernel_rfl) ?_ _
                          have hfin := hx.below HLE.out
                          go_wp2_with fail
                          go_ret
                          exact ⟨rfl, hfin⟩
                        exact AllReadyH.nil
                      exact AllReadyH.nil
                    refine AllReadyH.cons (o := ?_) ?_ (fun K hK => ?_) ?_
                    rotate_left 1
                    · (simp only [List.getElem?_toArray, List.getElem?_cons_succ, List.getElem?_cons_zero]; exact rfl)
                    · go_simp
                      refine hK.out _ _ ?_ (fun hHeld => ?_)
                      · (try dsimp only) <;> (first | exact hx | exact hx.alloc_ _ | exact (hx.alloc_ _).alloc_ _ | exact St.weaken (A := [_]) hx)
                      clear hK K
                      try simp only [Act.put, List.setIfInBounds_toArray, List.set_cons_zero, List.set_cons_succ]
                      refine wpAnyH_ready (rs := [24]) (by kernel_rfl) (by simp) ?_
                      refine AllReadyH.cons (o := ?_) ?_ (fun K hK => ?_) ?_
                      rotate_left 1
                      · (simp only [List.getElem?_toArray, List.getElem?_cons_succ, List.getElem?_cons_zero]; exact rfl)
                      · go_simp
                        (go_at_call 23; (first | with_reducible refine (K5.out _ _ _ (hx.alloc _)).mono ?_ | with_reducible refine (K5.out _ _ _ (hx.alloc2 _ _)).mono ?_ | with_reducible refine (K5.out _ _ _ (hx.alloc2' _ _)).mono ?_); rintro e wx ⟨rfl, hx⟩; dsimp only)
                        refine hK.out _ _ ?_ (fun hHeld => ?_)
                        · (try dsimp only) <;> (first | exact hx | exact hx.alloc_ _ | exact (hx.alloc_ _).alloc_ _ | exact St.weaken (A := [_]) hx)
                        clear hK K
                        try simp only [Act.put, List.setIfInBounds_toArray, List.set_cons_zero, List.set_cons_succ]
                        refine wpAnyH_ready (rs := [28]) (by kernel_rfl) (by simp) ?_
                        refine AllReadyH.cons (o := ?_) ?_ (fun K hK => ?_) ?_
                        rotate_left 1
                        · (simp only [List.getElem?_toArray, List.getElem?_cons_succ, List.getElem?_cons_zero]; exact rfl)
                        · go_simp
                          (go_at_call 23; (first | with_reducible refine (K6.out _ _ _ (hx)).mono ?_ | with_reducible refine (K6.out _ _ _ (hx.alloc _)).mono ?_); rintro e wx ⟨rfl, hx⟩; dsimp only)
                          refine hK.out _ _ ?_ (fun hHeld => ?_)
                          · (try dsimp only) <;> (first | exact hx | exact hx.alloc_ _ | exact (hx.alloc_ _).alloc_ _ | exact St.weaken (A := [_]) hx)
                          clear hK K
                          try simp only [Act.put, List.setIfInBounds_toArray, List.set_cons_zero, List.set_cons_succ]
                          refine wpAnyH_take (i := 29) (oi := ?_) (v := ?_) ?_ ?_ ?_ ?_ ?_ ?_ ?_ ?_
                          rotate_left 2
                          · (simp only [List.getElem?_toArray, List.getElem?_cons_succ, List.getElem?_cons_zero]; exact rfl)
                          · kernel_rfl
                          · kernel_rfl
                          · kernel_rfl
                          · exact fun _ _ _ h => h
                          · (refine Or.inl ⟨by rfl, ?_⟩; intro w hSw; (try dsimp only at hSw); go_simp; try with_reducible rfl)
                          · assumption
                          try simp only [Act.put, List.setIfInBounds_toArray, List.set_cons_zero, List.set_cons_succ]
                          refine wpAnyH_take (i := 30) (oi := ?_) (v := ?_) ?_ ?_ ?_ ?_ ?_ ?_ ?_ ?_
                          rotate_left 2
                          · (simp only [List.getElem?_toArray, List.getElem?_cons_succ, List.getElem?_cons_zero]; exact rfl)
                          · kernel_rfl
                          · kernel_rfl
                          · kernel_rfl
                          · exact fun _ _ _ h => h
                          · (refine Or.inl ⟨by rfl, ?_⟩; intro w hSw; (try dsimp only at hSw); go_simp; try with_reducible rfl)
                          · assumption
                          try simp only [Act.put, List.setIfInBounds_toArray, List.set_cons_zero, List.set_cons_succ]
                          refine wpAnyH_take (i := 31) (oi := ?_) (v := ?_) ?_ ?_ ?_ ?_ ?_ ?_ ?_ ?_
                          rotate_left 2
                          · (simp only [List.getElem?_toArray, List.getElem?_cons_succ, List.getElem?_cons_zero]; exact rfl)
                          · kernel_rfl
                          · kernel_rfl
                          · kernel_rfl
                          · exact fun _ _ _ h => h
                          · (refine Or.inl ⟨by rfl, ?_⟩; intro w hSw; (try dsimp only at hSw); go_simp; try with_reducible rfl)
                          · assumption
                          try simp only [Act.put, List.setIfInBounds_toArray, List.set_cons_zero, List.set_cons_succ]
                          refine wpAnyH_done (by kernel_rfl) ?_ _
                          have hfin := hx.below HLE.out
                          go_wp2_with fail
                          go_ret
                          exact ⟨rfl, hfin⟩
                        exact AllReadyH.nil
                      exact AllReadyH.nil
                    exact AllReadyH.nil
                  refine AllReadyH.cons (o := ?_) ?_ (fun K hK => ?_) ?_
                  rotate_left 1
                  · (simp only [List.getElem?_toArray, List.getElem?_cons_succ, List.getElem?_cons_zero]; exact rfl)
                  · go_simp
                    refine hK.out _ _ ?_ (fun hHeld => ?_)
                    · (try dsimp only) <;> (first | exact hx | exact hx.alloc_ _ | exact (hx.alloc_ _).alloc_ _ | exact St.weaken (A := [_]) hx)
                    clear hK K
                    try simp only [Act.put, List.setIfInBounds_toArray, List.set_cons_zero, List.set_cons_succ]
                    refine wpAnyH_ready (rs := [23]) (by kernel_rfl) (by simp) ?_
                    refine AllReadyH.cons (o := ?_) ?_ (fun K hK => ?_) ?_
                    rotate_left 1
                    · (simp only [List.getElem?_toArray, List.getElem?_cons_succ, List.getElem?_cons_zero]; exact rfl)
                    · go_simp
                      refine hK.out _ _ ?_ (fun hHeld => ?_)
                      · (try dsimp only) <;> (first | exact hx | exact hx.alloc_ _ | exact (hx.alloc_ _).alloc_ _ | exact St.weaken (A := [_]) hx)
                      clear hK K
                      try simp only [Act.put, List.setIfInBounds_toArray, List.set_cons_zero, List.set_cons_succ]
                      refine wpAnyH_ready (rs := [24]) (by kernel_rfl) (by simp) ?_
                      refine AllReadyH.cons (o := ?_) ?_ (fun K hK => ?_) ?_
                      rotate_left 1
                      · (simp only [List.getElem?_toArray, List.getElem?_cons_succ, List.getElem?_cons_zero]; exact rfl)
                      · go_simp
                        (go_at_call 23; (first | with_reducible refine (K5.out _ _ _ (hx.alloc _)).mono ?_ | with_reducible refine (K5.out _ _ _ (hx.alloc2 _ _)).mono ?_ | with_reducible refine (K5.out _ _ _ (hx.alloc2' _ _)).mono ?_); rintro e wx ⟨rfl, hx⟩; dsimp only)
                        refine hK.out _ _ ?_ (fun hHeld => ?_)
                        · (try dsimp only) <;> (first | exact hx | exact hx.alloc_ _ | exact (hx.alloc_ _).alloc_ _ | exact St.weaken (A := [_]) hx)
                        clear hK K
                        try simp only [Act.put, List.setIfInBounds_toArray, List.set_cons_zero, List.set_cons_succ]
                        refine wpAnyH_ready (rs := [28]) (by kernel_rfl) (by simp) ?_
                        refine AllReadyH.cons (o := ?_) ?_ (fun K hK => ?_) ?_
                        rotate_left 1
                        · (simp only [List.getElem?_toArray, List.getElem?_cons_succ, List.getElem?_cons_zero]; exact rfl)
                        · go_simp
                          (go_at_call 23; (first | with_reducible refine (K6.out _ _ _ (hx)).mono ?_ | with_reducible refine (K6.out _ _ _ (hx.alloc _)).mono ?_); rintro e wx ⟨rfl, hx⟩; dsimp only)
                          refine hK.out _ _ ?_ (fun hHeld => ?_)
                          · (try dsimp only) <;> (first | exact hx | exact hx.alloc_ _ | exact (hx.alloc_ _).alloc_ _ | exact St.weaken (A := [_]) hx)
                          clear hK K
                          try simp only [Act.put, List.setIfInBounds_toArray, List.set_cons_zero, List.set_cons_succ]
                          refine wpAnyH_take (i := 29) (oi := ?_) (v := ?_) ?_ ?_ ?_ ?_ ?_ ?_ ?_ ?_
                          rotate_left 2
                          · (simp only [List.getElem?_toArray, List.getElem?_cons_succ, List.getElem?_cons_zero]; exact rfl)
                          · kernel_rfl
                          · kernel_rfl
                          · kernel_rfl
                          · exact fun _ _ _ h => h
                          · (refine Or.inl ⟨by rfl, ?_⟩; intro w hSw; (try dsimp only at hSw); go_simp; try with_reducible rfl)
                          · assumption
                          try simp only [Act.put, List.setIfInBounds_toArray, List.set_cons_zero, List.set_cons_succ]
                          refine wpAnyH_take (i := 30) (oi := ?_) (v := ?_) ?_ ?_ ?_ ?_ ?_ ?_ ?_ ?_
                          rotate_left 2
                          · (simp only [List.getElem?_toArray, List.getElem?_cons_succ, List.getElem?_cons_zero]; exact rfl)
                          · kernel_rfl
                          · kernel_rfl
                          · kernel_rfl
                          · exact fun _ _ _ h => h
                          · (refine Or.inl ⟨by rfl, ?_⟩; intro w hSw; (try dsimp only at hSw); go_simp; try with_reducible rfl)
                          · assumption
                          try simp only [Act.put, List.setIfInBounds_toArray, List.set_cons_zero, List.set_cons_succ]
                          refine wpAnyH_take (i := 31) (oi := ?_) (v := ?_) ?_ ?_ ?_ ?_ ?_ ?_ ?_ ?_
                          rotate_left 2
                          · (simp only [List.getElem?_toArray, List.getElem?_cons_succ, List.getElem?_cons_zero]; exact rfl)
                          · kernel_rfl
                          · kernel_rfl
                          · kernel_rfl
                          · exact fun _ _ _ h => h
                          · (refine Or.inl ⟨by rfl, ?_⟩; intro w hSw; (try dsimp only at hSw); go_simp; try with_reducible rfl)
                          · assumption
                          try simp only [Act.put, List.setIfInBounds_toArray, List.set_cons_zero, List.set_cons_succ]
                          refine wpAnyH_done (by kernel_rfl) ?_ _
                          have hfin := hx.below HLE.out
                          go_wp2_with fail
                          go_ret
                          exact ⟨rfl, hfin⟩
                        exact AllReadyH.nil
                      exact AllReadyH.nil
                    exact AllReadyH.nil
                  exact AllReadyH.nil
                exact AllReadyH.nil
              exact AllReadyH.nil
            refine AllReadyH.cons (o := ?_) ?_ (fun K hK => ?_) ?_
            rotate_left 1
            · (simp only [List.getElem?_toArray, List.getElem?_cons_succ, List.getElem?_cons_zero]; exact rfl)
            · go_simp
              refine hK.out _ _ ?_ (fun hHeld => ?_)
              · (try dsimp only) <;> (first | exact hx | exact hx.alloc_ _ | exact (hx.alloc_ _).alloc_ _ | exact St.weaken (A := [_]) hx)
              clear hK K
              try simp only [Act.put, List.setIfInBounds_toArray, List.set_cons_zero, List.set_cons_succ]
              refine wpAnyH_ready (rs := [13]) (by kernel_rfl) (by simp) ?_
              refine AllReadyH.cons (o := ?_) ?_ (fun K hK => ?_) ?_
              rotate_left 1
              · (simp only [List.getElem?_toArray, List.getElem?_cons_succ, List.getElem?_cons_zero]; exact rfl)
              · go_simp
                (go_at_call 23; (first | with_reducible refine (K3.out _ _ _ (hx.alloc _)).mono ?_ | with_reducible refine (K3.out _ _ _ (hx.alloc2 _ _)).mono ?_ | with_reducible refine (K3.out _ _ _ (hx.alloc2' _ _)).mono ?_); rintro e wx ⟨rfl, hx⟩; dsimp only)
                refine hK.out _ _ ?_ (fun hHeld => ?_)
                · (try dsimp only) <;> (first | exact hx | exact hx.alloc_ _ | exact (hx.alloc_ _).alloc_ _ | exact St.weaken (A := [_]) hx)
                clear hK K
                try simp only [Act.put, List.setIfInBounds_toArray, List.set_cons_zero, List.set_cons_succ]
                refine wpAnyH_ready (rs := [17]) (by kernel_rfl) (by simp) ?_
                refine AllReadyH.cons (o := ?_) ?_ (fun K hK => ?_) ?_
                rotate_left 1
                · (simp only [List.getElem?_toArray, List.getElem?_cons_succ, List.getElem?_cons_zero]; exact rfl)
                · go_simp
                  (go_at_call 23; (first | with_reducible refine (K4.out _ _ _ (hx)).mono ?_ | with_reducible refine (K4.out _ _ _ (hx.alloc _)).mono ?_); rintro e wx ⟨rfl, hx⟩; dsimp only)
                  refine hK.out _ _ ?_ (fun hHeld => ?_)
                  · (try dsimp only) <;> (first | exact hx | exact hx.alloc_ _ | exact (hx.alloc_ _).alloc_ _ | exact St.weaken (A := [_]) hx)
                  clear hK K
                  try simp only [Act.put, List.setIfInBounds_toArray, List.set_cons_zero, List.set_cons_succ]
                  refine wpAnyH_take (i := 18) (oi := ?_) (v := ?_) ?_ ?_ ?_ ?_ ?_ ?_ ?_ ?_
                  rotate_left 2
                  · (simp only [List.getElem?_toArray, List.getElem?_cons_succ, List.getElem?_cons_zero]; exact rfl)
                  · kernel_rfl
                  · kernel_rfl
                  · kernel_rfl
                  · exact fun _ _ _ h => h
                  · (refine Or.inl ⟨by rfl, ?_⟩; intro w hSw; (try dsimp only at hSw); go_simp; try with_reducible rfl)
                  · assumption
                  try simp only [Act.put, List.setIfInBounds_toArray, List.set_cons_zero, List.set_cons_succ]
                  refine wpAnyH_take (i := 19) (oi := ?_) (v := ?_) ?_ ?_ ?_ ?_ ?_ ?_ ?_ ?_
                  rotate_left 2
                  · (simp only [List.getElem?_toArray, List.getElem?_cons_succ, List.getElem?_cons_zero]; exact rfl)
                  · kernel_rfl
                  · kernel_rfl
                  · kernel_rfl
                  · exact fun _ _ _ h => h
                  · (refine Or.inl ⟨by rfl, ?_⟩; intro w hSw; (try dsimp only at hSw); go_simp; try with_reducible rfl)
                  · assumption
                  try simp only [Act.put, List.setIfInBounds_toArray, List.set_cons_zero, List.set_cons_succ]
                  refine wpAnyH_take (i := 20) (oi := ?_) (v := ?_) ?_ ?_ ?_ ?_ ?_ ?_ ?_ ?_
                  rotate_left 2
                  · (simp only [List.getElem?_toArray, List.getElem?_cons_succ, List.getElem?_cons_zero]; exact rfl)
                  · kernel_rfl
                  · kernel_rfl
                  · kernel_rfl
                  · exact fun _ _ _ h => h
                  · (refine Or.inl ⟨by rfl, ?_⟩; intro w hSw; (try dsimp only at hSw); go_simp; try with_reducible rfl)
                  · assumption
                  try simp only [Act.put, List.setIfInBounds_toArray, List.set_cons_zero, List.set_cons_succ]
                  refine wpAnyH_take (i := 21) (oi := ?_) (v := ?_) ?_ ?_ ?_ ?_ ?_ ?_ ?_ ?_
                  rotate_left 2
                  · (simp only [List.getElem?_toArray, List.getElem?_cons_succ, List.getElem?_cons_zero]; exact rfl)
                  · kernel_rfl
                  · kernel_rfl
                  · kernel_rfl
                  · exact fun _ _ _ h => h
                  · (refine Or.inl ⟨by rfl, ?_⟩; intro w hSw; (try dsimp only at hSw); go_simp; try with_reducible rfl)
                  · assumption
                  try simp only [Act.put, List.setIfInBounds_toArray, List.set_cons_zero, List.set_cons_succ]
                  refine wpAnyH_take (i := 22) (oi := ?_) (v := ?_) ?_ ?_ ?_ ?_ ?_ ?_ ?_ ?_
                  rotate_left 2
                  · (simp only [List.getElem?_toArray, List.getElem?_cons_succ, List.getElem?_cons_zero]; exact rfl)
                  · kernel_rfl
                  · kernel_rfl
                  · kernel_rfl
                  · exact fun _ _ _ h => h
                  · (refine Or.inl ⟨by rfl, ?_⟩; intro w hSw; (try dsimp only at hSw); go_simp; try with_reducible rfl)
                  · assumption
                  try simp only [Act.put, List.setIfInBounds_toArray, List.set_cons_zero, List.set_cons_succ]
                  refine wpAnyH_take (i := 25) (oi := ?_) (v := ?_) ?_ ?_ ?_ ?_ ?_ ?_ ?_ ?_
                  rotate_left 2
                  · (simp only [List.getElem?_toArray, List.getElem?_cons_succ, List.getElem?_cons_zero]; exact rfl)
                  · kernel_rfl
                  · kernel_rfl
                  · kernel_rfl
                  · exact fun _ _ _ h => h
                  · (refine Or.inl ⟨by rfl, ?_⟩; intro w hSw; (try dsimp only at hSw); go_simp; try with_reducible rfl)
                  · assumption
                  try simp only [Act.put, List.setIfInBounds_toArray, List.set_cons_zero, List.set_cons_succ]
                  refine wpAnyH_take (i := 26) (oi := ?_) (v := ?_) ?_ ?_ ?_ ?_ ?_ ?_ ?_ ?_
                  rotate_left 2
                  · (simp only [List.getElem?_toArray, List.getElem?_cons_succ, List.getElem?_cons_zero]; exact rfl)
                  · kernel_rfl
                  · kernel_rfl
                  · kernel_rfl
                  · exact fun _ _ _ h => h
                  · (refine Or.inl ⟨by rfl, ?_⟩; intro w hSw; (try dsimp only at hSw); go_simp; try with_reducible rfl)
                  · assumption
                  try simp only [Act.put, List.setIfInBounds_toArray, List.set_cons_zero, List.set_cons_succ]
                  refine wpAnyH_ready (rs := [23, 27]) (by kernel_rfl) (by simp) ?_
                  refine AllReadyH.cons (o := ?_) ?_ (fun K hK => ?_) ?_
                  rotate_left 1
                  · (simp only [List.getElem?_toArray, List.getElem?_cons_succ, List.getElem?_cons_zero]; exact rfl)
                  · go_simp
                    refine hK.out _ _ ?_ (fun hHeld => ?_)
                    · (try dsimp only) <;> (first | exact hx | exact hx.alloc_ _ | exact (hx.alloc_ _).alloc_ _ | exact St.weaken (A := [_]) hx)
                    clear hK K
                    try simp only [Act.put, List.setIfInBounds_toArray, List.set_cons_zero, List.set_cons_succ]
                    refine wpAnyH_ready (rs := [24, 27]) (by kernel_rfl) (by simp) ?_
                    refine AllReadyH.cons (o := ?_) ?_ (fun K hK => ?_) ?_
                    rotate_left 1
                    · (simp only [List.getElem?_toArray, List.getElem?_cons_succ, List.getElem?_cons_zero]; exact rfl)
                    · go_simp
                      (go_at_call 23; (first | with_reducible refine (K5.out _ _ _ (hx.alloc _)).mono ?_ | with_reducible refine (K5.out _ _ _ (hx.alloc2 _ _)).mono ?_ | with_reducible refine (K5.out _ _ _ (hx.alloc2' _ _)).mono ?_); rintro e wx ⟨rfl, hx⟩; dsimp only)
                      refine hK.out _ _ ?_ (fun hHeld => ?_)
                      · (try dsimp only) <;> (first | exact hx | exact hx.alloc_ _ | exact (hx.alloc_ _).alloc_ _ | exact St.weaken (A := [_]) hx)
                      clear hK K
                      try simp only [Act.put, List.setIfInBounds_toArray, List.set_cons_zero, List.set_cons_succ]
                      refine wpAnyH_ready (rs := [27]) (by kernel_rfl) (by simp) ?_
                      refine AllReadyH.cons (o := ?_) ?_ (fun K hK => ?_) ?_
                      rotate_left 1
                      · (simp only [List.getElem?_toArray, List.getElem?_cons_succ, List.getElem?_cons_zero]; exact rfl)
                      · go_simp
                        refine hK.out _ _ ?_ (fun hHeld => ?_)
                        · (try dsimp only) <;> (first | exact hx | exact hx.alloc_ _ | exact (hx.alloc_ _).alloc_ _ | exact St.weaken (A := [_]) hx)
                        clear hK K
                        try simp only [Act.put, List.setIfInBounds_toArray, List.set_cons_zero, List.set_cons_succ]
                        refine wpAnyH_ready (rs := [28]) (by kernel_rfl) (by simp) ?_
                        refine AllReadyH.cons (o := ?_) ?_ (fun K hK => ?_) ?_
                        rotate_left 1
                        · (simp only [List.getElem?_toArray, List.getElem?_cons_succ, List.getElem?_cons_zero]; exact rfl)
                        · go_simp
                          (go_at_call 23; (first | with_reducible refine (K6.out _ _ _ (hx)).mono ?_ | with_reducible refine (K6.out _ _ _ (hx.alloc _)).mono ?_); rintro e wx ⟨rfl, hx⟩; dsimp only)
                          refine hK.out _ _ ?_ (fun hHeld => ?_)
                          · (try dsimp only) <;> (first | exact hx | exact hx.alloc_ _ | exact (hx.alloc_ _).alloc_ _ | exact St.weaken (A := [_]) hx)
                          clear hK K
                          try simp only [Act.put, List.setIfInBounds_toArray, List.set_cons_zero, List.set_cons_succ]
                          refine wpAnyH_take (i := 29) (oi := ?_) (v := ?_) ?_ ?_ ?_ ?_ ?_ ?_ ?_ ?_
                          rotate_left 2
                          · (simp only [List.getElem?_toArray, List.getElem?_cons_succ, List.getElem?_cons_zero]; exact rfl)
                          · kernel_rfl
                          · kernel_rfl
                          · kernel_rfl
                          · exact fun _ _ _ h => h
                          · (refine Or.inl ⟨by rfl, ?_⟩; intro w hSw; (try dsimp only at hSw); go_simp; try with_reducible rfl)
                          · assumption
                          try simp only [Act.put, List.setIfInBounds_toArray, List.set_cons_zero, List.set_cons_succ]
                          refine wpAnyH_take (i := 30) (oi := ?_) (v := ?_) ?_ ?_ ?_ ?_ ?_ ?_ ?_ ?_
                          rotate_left 2
                          · (simp only [List.getElem?_toArray, List.getElem?_cons_succ, List.getElem?_cons_zero]; exact rfl)
                          · kernel_rfl
                          · kernel_rfl
                          · kernel_rfl
                          · exact fun _ _ _ h => h
                          · (refine Or.inl ⟨by rfl, ?_⟩; intro w hSw; (try dsimp only at hSw); go_simp; try with_reducible rfl)
                          · assumption
                          try simp only [Act.put, List.setIfInBounds_toArray, List.set_cons_zero, List.set_cons_succ]
                          refine wpAnyH_take (i := 31) (oi := ?_) (v := ?_) ?_ ?_ ?_ ?_ ?_ ?_ ?_ ?_
                          rotate_left 2
                          · (simp only [List.getElem?_toArray, List.getElem?_cons_succ, List.getElem?_cons_zero]; exact rfl)
                          · kernel_rfl
                          · kernel_rfl
                          · kernel_rfl
                          · exact fun _ _ _ h => h
                          · (refine Or.inl ⟨by rfl, ?_⟩; intro w hSw; (try dsimp only at hSw); go_simp; try with_reducible rfl)
                          · assumption
                          try simp only [Act.put, List.setIfInBounds_toArray, List.set_cons_zero, List.set_cons_succ]
                          refine wpAnyH_done (by kernel_rfl) ?_ _
                          have hfin := hx.below HLE.out
                          go_wp2_with fail
                          go_ret
                          exact ⟨rfl, hfin⟩
                        exact AllReadyH.nil
                      exact AllReadyH.nil
                    refine AllReadyH.cons (o := ?_) ?_ (fun K hK => ?_) ?_
                    rotate_left 1
                    · (simp only [List.getElem?_toArray, List.getElem?_cons_succ, List.getElem?_cons_zero]; exact rfl)
                    · go_simp
                      refine hK.out _ _ ?_ (fun hHeld => ?_)
                      · (try dsimp only) <;> (first | exact hx | exact hx.alloc_ _ | exact (hx.alloc_ _).alloc_ _ | exact St.weaken (A := [_]) hx)
                      clear hK K
                      try simp only [Act.put, List.setIfInBounds_toArray, List.set_cons_zero, List.set_cons_succ]
                      refine wpAnyH_ready (rs := [24]) (by kernel_rfl) (by simp) ?_
                      refine AllReadyH.cons (o := ?_) ?_ (fun K hK => ?_) ?_
                      rotate_left 1
                      · (simp only [List.getElem?_toArray, List.getElem?_cons_succ, List.getElem?_cons_zero]; exact rfl)
                      · go_simp
                        (go_at_call 23; (first | with_reducible refine (K5.out _ _ _ (hx.alloc _)).mono ?_ | with_reducible refine (K5.out _ _ _ (hx.alloc2 _ _)).mono ?_ | with_reducible refine (K5.out _ _ _ (hx.alloc2' _ _)).mono ?_); rintro e wx ⟨rfl, hx⟩; dsimp only)
                        refine hK.out _ _ ?_ (fun hHeld => ?_)
                        · (try dsimp only) <;> (first | exact hx | exact hx.alloc_ _ | exact (hx.alloc_ _).alloc_ _ | exact St.weaken (A := [_]) hx)
                        clear hK K
                        try simp only [Act.put, List.setIfInBounds_toArray, List.set_cons_zero, List.set_cons_succ]
                        refine wpAnyH_ready (rs := [28]) (by kernel_rfl) (by simp) ?_
                        refine AllReadyH.cons (o := ?_) ?_ (fun K hK => ?_) ?_
                        rotate_left 1
                        · (simp only [List.getElem?_toArray, List.getElem?_cons_succ, List.getElem?_cons_zero]; exact rfl)
                        · go_simp
                          (go_at_call 23; (first | with_reducible refine (K6.out _ _ _ (hx)).mono ?_ | with_reducible refine (K6.out _ _ _ (hx.alloc _)).mono ?_); rintro e wx ⟨rfl, hx⟩; dsimp only)
                          refine hK.out _ _ ?_ (fun hHeld => ?_)
                          · (try dsimp only) <;> (first | exact hx | exact hx.alloc_ _ | exact (hx.alloc_ _).alloc_ _ | exact St.weaken (A := [_]) hx)
                          clear hK K
                          try simp only [Act.put, List.setIfInBounds_toArray, List.set_cons_zero, List.set_cons_succ]
                          refine wpAnyH_take (i := 29) (oi := ?_) (v := ?_) ?_ ?_ ?_ ?_ ?_ ?_ ?_ ?_
                          rotate_left 2
                          · (simp only [List.getElem?_toArray, List.getElem?_cons_succ, List.getElem?_cons_zero]; exact rfl)
                          · kernel_rfl
                          · kernel_rfl
                          · kernel_rfl
                          · exact fun _ _ _ h => h
                          · (refine Or.inl ⟨by rfl, ?_⟩; intro w hSw; (try dsimp only at hSw); go_simp; try with_reducible rfl)
                          · assumption
                          try simp only [Act.put, List.setIfInBounds_toArray, List.set_cons_zero, List.set_cons_succ]
                          refine wpAnyH_take (i := 30) (oi := ?_) (v := ?_) ?_ ?_ ?_ ?_ ?_ ?_ ?_ ?_
                          rotate_left 2
                          · (simp only [List.getElem?_toArray, List.getElem?_cons_succ, List.getElem?_cons_zero]; exact rfl)
                          · kernel_rfl
                          · kernel_rfl
                          · kernel_rfl
                          · exact fun _ _ _ h => h
                          · (refine Or.inl ⟨by rfl, ?_⟩; intro w hSw; (try dsimp only at hSw); go_simp; try with_reducible rfl)
                          · assumption
                          try simp only [Act.put, List.setIfInBounds_toArray, List.set_cons_zero, List.set_cons_succ]
                          refine wpAnyH_take (i := 31) (oi := ?_) (v := ?_) ?_ ?_ ?_ ?_ ?_ ?_ ?_ ?_
                          rotate_left 2
                          · (simp only [List.getElem?_toArray, List.getElem?_cons_succ, List.getElem?_cons_zero]; exact rfl)
                          · kernel_rfl
                          · kernel_rfl
                          · kernel_rfl
                          · exact fun _ _ _ h => h
                          · (refine Or.inl ⟨by rfl, ?_⟩; intro w hSw; (try dsimp only at hSw); go_simp; try with_reducible rfl)
                          · assumption
                          try simp only [Act.put, List.setIfInBounds_toArray, List.set_cons_zero, List.set_cons_succ]
                          refine wpAnyH_done (by kernel_rfl) ?_ _
                          have hfin := hx.below HLE.out
                          go_wp2_with fail
                          go_ret
                          exact ⟨rfl, hfin⟩
                        exact AllReadyH.nil
                      exact AllReadyH.nil
                    exact AllReadyH.nil
                  refine AllReadyH.cons (o := ?_) ?_ (fun K hK => ?_) ?_
                  rotate_left 1
                  · (simp only [List.getElem?_toArray, List.getElem?_cons_succ, List.getElem?_cons_zero]; exact rfl)
                  · go_simp
                    refine hK.out _ _ ?_ (fun hHeld => ?_)
                    · (try dsimp only) <;> (first | exact hx | exact hx.alloc_ _ | exact (hx.alloc_ _).alloc_ _ | exact St.weaken (A := [_]) hx)
                    clear hK K
                    try simp only [Act.put, List.setIfInBounds_toArray, List.set_cons_zero, List.set_cons_succ]
                    refine wpAnyH_ready (rs := [23]) (by kernel_rfl) (by simp) ?_
                    refine AllReadyH.cons (o := ?_) ?_ (fun K hK => ?_) ?_
                    rotate_left 1
                    · (simp only [List.getElem?_toArray, List.getElem?_cons_succ, List.getElem?_cons_zero]; exact rfl)
                    · go_simp
                      refine hK.out _ _ ?_ (fun hHeld => ?_)
                      · (try dsimp only) <;> (first | exact hx | exact hx.alloc_ _ | exact (hx.alloc_ _).alloc_ _ | exact St.weaken (A := [_]) hx)
                      clear hK K
                      try simp only [Act.put, List.setIfInBounds_toArray, List.set_cons_zero, List.set_cons_succ]
                      refine wpAnyH_ready (rs := [24]) (by kernel_rfl) (by simp) ?_
                      refine AllReadyH.cons (o := ?_) ?_ (fun K hK => ?_) ?_
                      rotate_left 1
                      · (simp only [List.getElem?_toArray, List.getElem?_cons_succ, List.getElem?_cons_zero]; exact rfl)
                      · go_simp
                        (go_at_call 23; (first | with_reducible refine (K5.out _ _ _ (hx.alloc _)).mono ?_ | with_reducible refine (K5.out _ _ _ (hx.alloc2 _ _)).mono ?_ | with_reducible refine (K5.out _ _ _ (hx.alloc2' _ _)).mono ?_); rintro e wx ⟨rfl, hx⟩; dsimp only)
                        refine hK.out _ _ ?_ (fun hHeld => ?_)
                        · (try dsimp only) <;> (first | exact hx | exact hx.alloc_ _ | exact (hx.alloc_ _).alloc_ _ | exact St.weaken (A := [_]) hx)
                        clear hK K
                        try simp only [Act.put, List.setIfInBounds_toArray, List.set_cons_zero, List.set_cons_succ]
                        refine wpAnyH_ready (rs := [28]) (by kernel_rfl) (by simp) ?_
                        refine AllReadyH.cons (o := ?_) ?_ (fun K hK => ?_) ?_
                        rotate_left 1
                        · (simp only [List.getElem?_toArray, List.getElem?_cons_succ, List.getElem?_cons_zero]; exact rfl)
                        · go_simp
                          (go_at_call 23; (first | with_reducible refine (K6.out _ _ _ (hx)).mono ?_ | with_reducible refine (K6.out _ _ _ (hx.alloc _)).mono ?_); rintro e wx ⟨rfl, hx⟩; dsimp only)
                          refine hK.out _ _ ?_ (fun hHeld => ?_)
                          · (try dsimp only) <;> (first | exact hx | exact hx.alloc_ _ | exact (hx.alloc_ _).alloc_ _ | exact St.weaken (A := [_]) hx)
                          clear hK K
                          try simp only [Act.put, List.setIfInBounds_toArray, List.set_cons_zero, List.set_cons_succ]
                          refine wpAnyH_take (i := 29) (oi := ?_) (v := ?_) ?_ ?_ ?_ ?_ ?_ ?_ ?_ ?_
                          rotate_left 2
                          · (simp only [List.getElem?_toArray, List.getElem?_cons_succ, List.getElem?_cons_zero]; exact rfl)
                          · kernel_rfl
                          · kernel_rfl
                          · kernel_rfl
                          · exact fun _ _ _ h => h
                          · (refine Or.inl ⟨by rfl, ?_⟩; intro w hSw; (try dsimp only at hSw); go_simp; try with_reducible rfl)
                          · assumption
                          try simp only [Act.put, List.setIfInBounds_toArray, List.set_cons_zero, List.set_cons_succ]
                          refine wpAnyH_take (i := 30) (oi := ?_) (v := ?_) ?_ ?_ ?_ ?_ ?_ ?_ ?_ ?_
                          rotate_left 2
                          · (simp only [List.getElem?_toArray, List.getElem?_cons_succ, List.getElem?_cons_zero]; exact rfl)
                          · kernel_rfl
                          · kernel_rfl
                          · kernel_rfl
                          · exact fun _ _ _ h => h
                          · (refine Or.inl ⟨by rfl, ?_⟩; intro w hSw; (try dsimp only at hSw); go_simp; try with_reducible rfl)
                          · assumption
                          try simp only [Act.put, List.setIfInBounds_toArray, List.set_cons_zero, List.set_cons_succ]
                          refine wpAnyH_take (i := 31) (oi := ?_) (v := ?_) ?_ ?_ ?_ ?_ ?_ ?_ ?_ ?_
                          rotate_left 2
                          · (simp only [List.getElem?_toArray, List.getElem?_cons_succ, List.getElem?_cons_zero]; exact rfl)
                          · kernel_rfl
                          · kernel_rfl
                          · kernel_rfl
                          · exact fun _ _ _ h => h
                          · (refine Or.inl ⟨by rfl, ?_⟩; intro w hSw; (try dsimp only at hSw); go_simp; try with_reducible rfl)
                          · assumption
                          try simp only [Act.put, List.setIfInBounds_toArray, List.set_cons_zero, List.set_cons_succ]
                          refine wpAnyH_done (by kernel_rfl) ?_ _
                          have hfin := hx.below HLE.out
                          go_wp2_with fail
                          go_ret
                          exact ⟨rfl, hfin⟩
                        exact AllReadyH.nil
                      exact AllReadyH.nil
                    exact AllReadyH.nil
                  exact AllReadyH.nil
                exact AllReadyH.nil
              exact AllReadyH.nil
            exact AllReadyH.nil
          refine AllReadyH.cons (o := ?_) ?_ (fun K hK => ?_) ?_
          rotate_left 1
          · (simp only [List.getElem?_toArray, List.getElem?_cons_succ, List.getElem?_cons_zero]; exact rfl)
          · go_simp
            refine hK.out _ _ ?_ (fun hHeld => ?_)
            · (try dsimp only) <;> (first | exact hx | exact hx.alloc_ _ | exact (hx.alloc_ _).alloc_ _ | exact St.weaken (A := [_]) hx)
            clear hK K
            try simp only [Act.put, List.setIfInBounds_toArray, List.set_cons_zero, List.set_cons_succ]
            refine wpAnyH_ready (rs := [12]) (by kernel_rfl) (by simp) ?_
            refine AllReadyH.cons (o := ?_) ?_ (fun K hK => ?_) ?_
            rotate_left 1
            · (simp only [List.getElem?_toArray, List.getElem?_cons_succ, List.getElem?_cons_zero]; exact rfl)
            · go_simp
              refine hK.out _ _ ?_ (fun hHeld => ?_)
              · (try dsimp only) <;> (first | exact hx | exact hx.alloc_ _ | exact (hx.alloc_ _).alloc_ _ | exact St.weaken (A := [_]) hx)
              clear hK K
              try simp only [Act.put, List.setIfInBounds_toArray, List.set_cons_zero, List.set_cons_succ]
              refine wpAnyH_ready (rs := [13]) (by kernel_rfl) (by simp) ?_
              refine AllReadyH.cons (o := ?_) ?_ (fun K hK => ?_) ?_
              rotate_left 1
              · (simp only [List.getElem?_toArray, List.getElem?_cons_succ, List.getElem?_cons_zero]; exact rfl)
              · go_simp
                (go_at_call 23; (first | with_reducible refine (K3.out _ _ _ (hx.alloc _)).mono ?_ | with_reducible refine (K3.out _ _ _ (hx.alloc2 _ _)).mono ?_ | with_reducible refine (K3.out _ _ _ (hx.alloc2' _ _)).mono ?_); rintro e wx ⟨rfl, hx⟩; dsimp only)
                refine hK.out _ _ ?_ (fun hHeld => ?_)
                · (try dsimp only) <;> (first | exact hx | exact hx.alloc_ _ | exact (hx.alloc_ _).alloc_ _ | exact St.weaken (A := [_]) hx)
                clear hK K
                try simp only [Act.put, List.setIfInBounds_toArray, List.set_cons_zero, List.set_cons_succ]
                refine wpAnyH_ready (rs := [17]) (by kernel_rfl) (by simp) ?_
                refine AllReadyH.cons (o := ?_) ?_ (fun K hK => ?_) ?_
                rotate_left 1
                · (simp only [List.getElem?_toArray, List.getElem?_cons_succ, List.getElem?_cons_zero]; exact rfl)
                · go_simp
                  (go_at_call 23; (first | with_reducible refine (K4.out _ _ _ (hx)).mono ?_ | with_reducible refine (K4.out _ _ _ (hx.alloc _)).mono ?_); rintro e wx ⟨rfl, hx⟩; dsimp only)
                  refine hK.out _ _ ?_ (fun hHeld => ?_)
                  · (try dsimp only) <;> (first | exact hx | exact hx.alloc_ _ | exact (hx.alloc_ _).alloc_ _ | exact St.weaken (A := [_]) hx)
                  clear hK K
                  try simp only [Act.put, List.setIfInBounds_toArray, List.set_cons_zero, List.set_cons_succ]
                  refine wpAnyH_take (i := 18) (oi := ?_) (v := ?_) ?_ ?_ ?_ ?_ ?_ ?_ ?_ ?_
                  rotate_left 2
                  · (simp only [List.getElem?_toArray, List.getElem?_cons_succ, List.getElem?_cons_zero]; exact rfl)
                  · kernel_rfl
                  · kernel_rfl
                  · kernel_rfl
                  · exact fun _ _ _ h => h
                  · (refine Or.inl ⟨by rfl, ?_⟩; intro w hSw; (try dsimp only at hSw); go_simp; try with_reducible rfl)
                  · assumption
                  try simp only [Act.put, List.setIfInBounds_toArray, List.set_cons_zero, List.set_cons_succ]
                  refine wpAnyH_take (i := 19) (oi := ?_) (v := ?_) ?_ ?_ ?_ ?_ ?_ ?_ ?_ ?_
                  rotate_left 2
                  · (simp only [List.getElem?_toArray, List.getElem?_cons_succ, List.getElem?_cons_zero]; exact rfl)
                  · kernel_rfl
                  · kernel_rfl
                  · kernel_rfl
                  · exact fun _ _ _ h => h
                  · (refine Or.inl ⟨by rfl, ?_⟩; intro w hSw; (try dsimp only at hSw); go_simp; try with_reducible rfl)
                  · assumption
                  try simp only [Act.put, List.setIfInBounds_toArray, List.set_cons_zero, List.set_cons_succ]
                  refine wpAnyH_take (i := 20) (oi := ?_) (v := ?_) ?_ ?_ ?_ ?_ ?_ ?_ ?_ ?_
                  rotate_left 2
                  · (simp only [List.getElem?_toArray, List.getElem?_cons_succ, List.getElem?_cons_zero]; exact rfl)
                  · kernel_rfl
                  · kernel_rfl
                  · kernel_rfl
                  · exact fun _ _ _ h => h
                  · (refine Or.inl ⟨by rfl, ?_⟩; intro w hSw; (try dsimp only at hSw); go_simp; try with_reducible rfl)
                  · assumption
                  try simp only [Act.put, List.setIfInBounds_toArray, List.set_cons_zero, List.set_cons_succ]
                  refine wpAnyH_take (i := 21) (oi := ?_) (v := ?_) ?_ ?_ ?_ ?_ ?_ ?_ ?_ ?_
                  rotate_left 2
                  · (simp only [List.getElem?_toArray, List.getElem?_cons_succ, List.getElem?_cons_zero]; exact rfl)
                  · kernel_rfl
                  · kernel_rfl
                  · kernel_rfl
                  · exact fun _ _ _ h => h
                  · (refine Or.inl ⟨by rfl, ?_⟩; intro w hSw; (try dsimp only at hSw); go_simp; try with_reducible rfl)
                  · assumption
                  try simp only [Act.put, List.setIfInBounds_toArray, List.set_cons_zero, List.set_cons_succ]
                  refine wpAnyH_take (i := 22) (oi := ?_) (v := ?_) ?_ ?_ ?_ ?_ ?_ ?_ ?_ ?_
                  rotate_left 2
                  · (simp only [List.getElem?_toArray, List.getElem?_cons_succ, List.getElem?_cons_zero]; exact rfl)
                  · kernel_rfl
                  · kernel_rfl
                  · kernel_rfl
                  · exact fun _ _ _ h => h
                  · (refine Or.inl ⟨by rfl, ?_⟩; intro w hSw; (try dsimp only at hSw); go_simp; try with_reducible rfl)
                  · assumption
                  try simp only [Act.put, List.setIfInBounds_toArray, List.set_cons_zero, List.set_cons_succ]
                  refine wpAnyH_take (i := 25) (oi := ?_) (v := ?_) ?_ ?_ ?_ ?_ ?_ ?_ ?_ ?_
                  rotate_left 2
                  · (simp only [List.getElem?_toArray, List.getElem?_cons_succ, List.getElem?_cons_zero]; exact rfl)
                  · kernel_rfl
                  · kernel_rfl
                  · kernel_rfl
                  · exact fun _ _ _ h => h
                  · (refine Or.inl ⟨by rfl, ?_⟩; intro w hSw; (try dsimp only at hSw); go_simp; try with_reducible rfl)
                  · assumption
                  try simp only [Act.put, List.setIfInBounds_toArray, List.set_cons_zero, List.set_cons_succ]
                  refine wpAnyH_take (i := 26) (oi := ?_) (v := ?_) ?_ ?_ ?_ ?_ ?_ ?_ ?_ ?_
                  rotate_left 2
                  · (simp only [List.getElem?_toArray, List.getElem?_cons_succ, List.getElem?_cons_zero]; exact rfl)
                  · kernel_rfl
                  · kernel_rfl
                  · kernel_rfl
                  · exact fun _ _ _ h => h
                  · (refine Or.inl ⟨by rfl, ?_⟩; intro w hSw; (try dsimp only at hSw); go_simp; try with_reducible rfl)
                  · assumption
                  try simp only [Act.put, List.setIfInBounds_toArray, List.set_cons_zero, List.set_cons_succ]
                  refine wpAnyH_ready (rs := [23, 27]) (by kernel_rfl) (by simp) ?_
                  refine AllReadyH.cons (o := ?_) ?_ (fun K hK => ?_) ?_
                  rotate_left 1
                  · (simp only [List.getElem?_toArray, List.getElem?_cons_succ, List.getElem?_cons_zero]; exact rfl)
                  · go_simp
                    refine hK.out _ _ ?_ (fun hHeld => ?_)
                    · (try dsimp only) <;> (first | exact hx | exact hx.alloc_ _ | exact (hx.alloc_ _).alloc_ _ | exact St.weaken (A := [_]) hx)
                    clear hK K
                    try simp only [Act.put, List.setIfInBounds_toArray, List.set_cons_zero, List.set_cons_succ]
                    refine wpAnyH_ready (rs := [24, 27]) (by kernel_rfl) (by simp) ?_
                    refine AllReadyH.cons (o := ?_) ?_ (fun K hK => ?_) ?_
                    rotate_left 1
                    · (simp only [List.getElem?_toArray, List.getElem?_cons_succ, List.getElem?_cons_zero]; exact rfl)
                    · go_simp
                      (go_at_call 23; (first | with_reducible refine (K5.out _ _ _ (hx.alloc _)).mono ?_ | with_reducible refine (K5.out _ _ _ (hx.alloc2 _ _)).mono ?_ | with_reducible refine (K5.out _ _ _ (hx.alloc2' _ _)).mono ?_); rintro e wx ⟨rfl, hx⟩; dsimp only)
                      refine hK.out _ _ ?_ (fun hHeld => ?_)
                      · (try dsimp only) <;> (first | exact hx | exact hx.alloc_ _ | exact (hx.alloc_ _).alloc_ _ | exact St.weaken (A := [_]) hx)
                      clear hK K
                      try simp only [Act.put, List.setIfInBounds_toArray, List.set_cons_zero, List.set_cons_succ]
                      refine wpAnyH_ready (rs := [27]) (by kernel_rfl) (by simp) ?_
                      refine AllReadyH.cons (o := ?_) ?_ (fun K hK => ?_) ?_
                      rotate_left 1
                      · (simp only [List.getElem?_toArray, List.getElem?_cons_succ, List.getElem?_cons_zero]; exact rfl)
                      · go_simp
                        refine hK.out _ _ ?_ (fun hHeld => ?_)
                        · (try dsimp only) <;> (first | exact hx | exact hx.alloc_ _ | exact (hx.alloc_ _).alloc_ _ | exact St.weaken (A := [_]) hx)
                        clear hK K
                        try simp only [Act.put, List.setIfInBounds_toArray, List.set_cons_zero, List.set_cons_succ]
                        refine wpAnyH_ready (rs := [28]) (by kernel_rfl) (by simp) ?_
                        refine AllReadyH.cons (o := ?_) ?_ (fun K hK => ?_) ?_
                        rotate_left 1
                        · (simp only [List.getElem?_toArray, List.getElem?_cons_succ, List.getElem?_cons_zero]; exact rfl)
                        · go_simp
                          (go_at_call 23; (first | with_reducible refine (K6.out _ _ _ (hx)).mono ?_ | with_reducible refine (K6.out _ _ _ (hx.alloc _)).mono ?_); rintro e wx ⟨rfl, hx⟩; dsimp only)
                          refine hK.out _ _ ?_ (fun hHeld => ?_)
                          · (try dsimp only) <;> (first | exact hx | exact hx.alloc_ _ | exact (hx.alloc_ _).alloc_ _ | exact St.weaken (A := [_]) hx)
                          clear hK K
                          try simp only [Act.put, List.setIfInBounds_toArray, List.set_cons_zero, List.set_cons_succ]
                          refine wpAnyH_take (i := 29) (oi := ?_) (v := ?_) ?_ ?_ ?_ ?_ ?_ ?_ ?_ ?_
                          rotate_left 2
                          · (simp only [List.getElem?_toArray, List.getElem?_cons_succ, List.getElem?_cons_zero]; exact rfl)
                          · kernel_rfl
                          · kernel_rfl
                          · kernel_rfl
                          · exact fun _ _ _ h => h
                          · (refine Or.inl ⟨by rfl, ?_⟩; intro w hSw; (try dsimp only at hSw); go_simp; try with_reducible rfl)
                          · assumption
                          try simp only [Act.put, List.setIfInBounds_toArray, List.set_cons_zero, List.set_cons_succ]
                          refine wpAnyH_take (i := 30) (oi := ?_) (v := ?_) ?_ ?_ ?_ ?_ ?_ ?_ ?_ ?_
                          rotate_left 2
                          · (simp only [List.getElem?_toArray, List.getElem?_cons_succ, List.getElem?_cons_zero]; exact rfl)
                          · kernel_rfl
                          · kernel_rfl
                          · kernel_rfl
                          · exact fun _ _ _ h => h
                          · (refine Or.inl ⟨by rfl, ?_⟩; intro w hSw; (try dsimp only at hSw); go_simp; try with_reducible rfl)
                          · assumption
                          try simp only [Act.put, List.setIfInBounds_toArray, List.set_cons_zero, List.set_cons_succ]
                          refine wpAnyH_take (i := 31) (oi := ?_) (v := ?_) ?_ ?_ ?_ ?_ ?_ ?_ ?_ ?_
                          rotate_left 2
                          · (simp only [List.getElem?_toArray, List.getElem?_cons_succ, List.getElem?_cons_zero]; exact rfl)
                          · kernel_rfl
                          · kernel_rfl
                          · kernel_rfl
                          · exact fun _ _ _ h => h
                          · (refine Or.inl ⟨by rfl, ?_⟩; intro w hSw; (try dsimp only at hSw); go_simp; try with_reducible rfl)
                          · assumption
                          try simp only [Act.put, List.setIfInBounds_toArray, List.set_cons_zero, List.set_cons_succ]
                          refine wpAnyH_done (by kernel_rfl) ?_ _
                          have hfin := hx.below HLE.out
                          go_wp2_with fail
                          go_ret
                          exact ⟨rfl, hfin⟩
                        exact AllReadyH.nil
                      exact AllReadyH.nil
                    refine AllReadyH.cons (o := ?_) ?_ (fun K hK => ?_) ?_
                    rotate_left 1
                    · (simp only [List.getElem?_toArray, List.getElem?_cons_succ, List.getElem?_cons_zero]; exact rfl)
                    · go_simp
                      refine hK.out _ _ ?_ (fun hHeld => ?_)
                      · (try dsimp only) <;> (first | exact hx | exact hx.alloc_ _ | exact (hx.alloc_ _).alloc_ _ | exact St.weaken (A := [_]) hx)
                      clear hK K
                      try simp only [Act.put, List.setIfInBounds_toArray, List.set_cons_zero, List.set_cons_succ]
                      refine wpAnyH_ready (rs := [24]) (by kernel_rfl) (by simp) ?_
                      refine AllReadyH.cons (o := ?_) ?_ (fun K hK => ?_) ?_
                      rotate_left 1
                      · (simp only [List.getElem?_toArray, List.getElem?_cons_succ, List.getElem?_cons_zero]; exact rfl)
                      · go_simp
                        (go_at_call 23; (first | with_reducible refine (K5.out _ _ _ (hx.alloc _)).mono ?_ | with_reducible refine (K5.out _ _ _ (hx.alloc2 _ _)).mono ?_ | with_reducible refine (K5.out _ _ _ (hx.alloc2' _ _)).mono ?_); rintro e wx ⟨rfl, hx⟩; dsimp only)
                        refine hK.out _ _ ?_ (fun hHeld => ?_)
                        · (try dsimp only) <;> (first | exact hx | exact hx.alloc_ _ | exact (hx.alloc_ _).alloc_ _ | exact St.weaken (A := [_]) hx)
                        clear hK K
                        try simp only [Act.put, List.setIfInBounds_toArray, List.set_cons_zero, List.set_cons_succ]
                        refine wpAnyH_ready (rs := [28]) (by kernel_rfl) (by simp) ?_
                        refine AllReadyH.cons (o := ?_) ?_ (fun K hK => ?_) ?_
                        rotate_left 1
                        · (simp only [List.getElem?_toArray, List.getElem?_cons_succ, List.getElem?_cons_zero]; exact rfl)
                        · go_simp
                          (go_at_call 23; (first | with_reducible refine (K6.out _ _ _ (hx)).mono ?_ | with_reducible refine (K6.out _ _ _ (hx.alloc _)).mono ?_); rintro e wx ⟨rfl, hx⟩; dsimp only)
                          refine hK.out _ _ ?_ (fun hHeld => ?_)
                          · (try dsimp only) <;> (first | exact hx | exact hx.alloc_ _ | exact (hx.alloc_ _).alloc_ _ | exact St.weaken (A := [_]) hx)
                          clear hK K
                          try simp only [Act.put, List.setIfInBounds_toArray, List.set_cons_zero, List.set_cons_succ]
                          refine wpAnyH_take (i := 29) (oi := ?_) (v := ?_) ?_ ?_ ?_ ?_ ?_ ?_ ?_ ?_
                          rotate_left 2
                          · (simp only [List.getElem?_toArray, List.getElem?_cons_succ, List.getElem?_cons_zero]; exact rfl)
                          · kernel_rfl
                          · kernel_rfl
                          · kernel_rfl
                          · exact fun _ _ _ h => h
                          · (refine Or.inl ⟨by rfl, ?_⟩; intro w hSw; (try dsimp only at hSw); go_simp; try with_reducible rfl)
                          · assumption
                          try simp only [Act.put, List.setIfInBounds_toArray, List.set_cons_zero, List.set_cons_succ]
                          refine wpAnyH_take (i := 30) (oi := ?_) (v := ?_) ?_ ?_ ?_ ?_ ?_ ?_ ?_ ?_
                          rotate_left 2
                          · (simp only [List.getElem?_toArray, List.getElem?_cons_succ, List.getElem?_cons_zero]; exact rfl)
                          · kernel_rfl
                          · kernel_rfl
                          · kernel_rfl
                          · exact fun _ _ _ h => h
                          · (refine Or.inl ⟨by rfl, ?_⟩; intro w hSw; (try dsimp only at hSw); go_simp; try with_reducible rfl)
                          · assumption
                          try simp only [Act.put, List.setIfInBounds_toArray, List.set_cons_zero, List.set_cons_succ]
                          refine wpAnyH_take (i := 31) (oi := ?_) (v := ?_) ?_ ?_ ?_ ?_ ?_ ?_ ?_ ?_
                          rotate_left 2
                          · (simp only [List.getElem?_toArray, List.getElem?_cons_succ, List.getElem?_cons_zero]; exact rfl)
                          · kernel_rfl
                          · kernel_rfl
                          · kernel_rfl
                          · exact fun _ _ _ h => h
                          · (refine Or.inl ⟨by rfl, ?_⟩; intro w hSw; (try dsimp only at hSw); go_simp; try with_reducible rfl)
                          · assumption
                          try simp only [Act.put, List.setIfInBounds_toArray, List.set_cons_zero, List.set_cons_succ]
                          refine wpAnyH_done (by kernel_rfl) ?_ _
                          have hfin := hx.below HLE.out
                          go_wp2_with fail
                          go_ret
                          exact ⟨rfl, hfin⟩
                        exact AllReadyH.nil
                      exact AllReadyH.nil
                    exact AllReadyH.nil
                  refine AllReadyH.cons (o := ?_) ?_ (fun K hK => ?_) ?_
                  rotate_left 1
                  · (simp only [List.getElem?_toArray, List.getElem?_cons_succ, List.getElem?_cons_zero]; exact rfl)
                  · go_simp
                    refine hK.out _ _ ?_ (fun hHeld => ?_)
                    · (try dsimp only) <;> (first | exact hx | exact hx.alloc_ _ | exact (hx.alloc_ _).alloc_ _ | exact St.weaken (A := [_]) hx)
                    clear hK K
                    try simp only [Act.put, List.setIfInBounds_toArray, List.set_cons_zero, List.set_cons_succ]
                    refine wpAnyH_ready (rs := [23]) (by kernel_rfl) (by simp) ?_
                    refine AllReadyH.cons (o := ?_) ?_ (fun K hK => ?_) ?_
                    rotate_left 1
                    · (simp only [List.getElem?_toArray, List.getElem?_cons_succ, List.getElem?_cons_zero]; exact rfl)
                    · go_simp
                      refine hK.out _ _ ?_ (fun hHeld => ?_)
                      · (try dsimp only) <;> (first | exact hx | exact hx.alloc_ _ | exact (hx.alloc_ _).alloc_ _ | exact St.weaken (A := [_]) hx)
                      clear hK K
                      try simp only [Act.put, List.setIfInBounds_toArray, List.set_cons_zero, List.set_cons_succ]
                      refine wpAnyH_ready (rs := [24]) (by kernel_rfl) (by simp) ?_
                      refine AllReadyH.cons (o := ?_) ?_ (fun K hK => ?_) ?_
                      rotate_left 1
                      · (simp only [List.getElem?_toArray, List.getElem?_cons_succ, List.getElem?_cons_zero]; exact rfl)
                      · go_simp
                        (go_at_call 23; (first | with_reducible refine (K5.out _ _ _ (hx.alloc _)).mono ?_ | with_reducible refine (K5.out _ _ _ (hx.alloc2 _ _)).mono ?_ | with_reducible refine (K5.out _ _ _ (hx.alloc2' _ _)).mono ?_); rintro e wx ⟨rfl, hx⟩; dsimp only)
                        refine hK.out _ _ ?_ (fun hHeld => ?_)
                        · (try dsimp only) <;> (first | exact hx | exact hx.alloc_ _ | exact (hx.alloc_ _).alloc_ _ | exact St.weaken (A := [_]) hx)
                        clear hK K
                        try simp only [Act.put, List.setIfInBounds_toArray, List.set_cons_zero, List.set_cons_succ]
                        refine wpAnyH_ready (rs := [28]) (by kernel_rfl) (by simp) ?_
                        refine AllReadyH.cons (o := ?_) ?_ (fun K hK => ?_) ?_
                        rotate_left 1
                        · (simp only [List.getElem?_toArray, List.getElem?_cons_succ, List.getElem?_cons_zero]; exact rfl)
                        · go_simp
                          (go_at_call 23; (first | with_reducible refine (K6.out _ _ _ (hx)).mono ?_ | with_reducible refine (K6.out _ _ _ (hx.alloc _)).mono ?_); rintro e wx ⟨rfl, hx⟩; dsimp only)
                          refine hK.out _ _ ?_ (fun hHeld => ?_)
                          · (try dsimp only) <;> (first | exact hx | exact hx.alloc_ _ | exact (hx.alloc_ _).alloc_ _ | exact St.weaken (A := [_]) hx)
                          clear hK K
                          try simp only [Act.put, List.setIfInBounds_toArray, List.set_cons_zero, List.set_cons_succ]
                          refine wpAnyH_take (i := 29) (oi := ?_) (v := ?_) ?_ ?_ ?_ ?_ ?_ ?_ ?_ ?_
                          rotate_left 2
                          · (simp only [List.getElem?_toArray, List.getElem?_cons_succ, List.getElem?_cons_zero]; exact rfl)
                          · kernel_rfl
                          · kernel_rfl
                          · kernel_rfl
                          · exact fun _ _ _ h => h
                          · (refine Or.inl ⟨by rfl, ?_⟩; intro w hSw; (try dsimp only at hSw); go_simp; try with_reducible rfl)
                          · assumption
                          try simp only [Act.put, List.setIfInBounds_toArray, List.set_cons_zero, List.set_cons_succ]
                          refine wpAnyH_take (i := 30) (oi := ?_) (v := ?_) ?_ ?_ ?_ ?_ ?_ ?_ ?_ ?_
                          rotate_left 2
                          · (simp only [List.getElem?_toArray, List.getElem?_cons_succ, List.getElem?_cons_zero]; exact rfl)
                          · kernel_rfl
                          · kernel_rfl
                          · kernel_rfl
                          · exact fun _ _ _ h => h
                          · (refine Or.inl ⟨by rfl, ?_⟩; intro w hSw; (try dsimp only at hSw); go_simp; try with_reducible rfl)
                          · assumption
                          try simp only [Act.put, List.setIfInBounds_toArray, List.set_cons_zero, List.set_cons_succ]
                          refine wpAnyH_take (i := 31) (oi := ?_) (v := ?_) ?_ ?_ ?_ ?_ ?_ ?_ ?_ ?_
                          rotate_left 2
                          · (simp only [List.getElem?_toArray, List.getElem?_cons_succ, List.getElem?_cons_zero]; exact rfl)
                          · kernel_rfl
                          · kernel_rfl
                          · kernel_rfl
                          · exact fun _ _ _ h => h
                          · (refine Or.inl ⟨by rfl, ?_⟩; intro w hSw; (try dsimp only at hSw); go_simp; try with_reducible rfl)
                          · assumption
                          try simp only [Act.put, List.setIfInBounds_toArray, List.set_cons_zero, List.set_cons_succ]
                          refine wpAnyH_done (by kernel_rfl) ?_ _
                          have hfin := hx.below HLE.out
                          go_wp2_with fail
                          go_ret
                          exact ⟨rfl, hfin⟩
                        exact AllReadyH.nil
                      exact AllReadyH.nil
                    exact AllReadyH.nil
                  exact AllReadyH.nil
                exact AllReadyH.nil
              exact AllReadyH.nil
            exact AllReadyH.nil
          exact AllReadyH.nil
        exact AllReadyH.nil
      exact AllReadyH.nil
    exact AllReadyH.nil
  exact AllReadyH.nil
end Go.Proofs.Ytjkepnddmpgljaa
