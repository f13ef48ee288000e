/- ImageSectors: the walk of the law. -/
import Derived.Test.YtkpgliaahibjgaaDoorImgV
namespace Go.Proofs.YtkpgliaahibjgaaDoor
set_option linter.unusedVariables false
set_option linter.unusedSimpArgs false
open Go.RowKit Go.Lib

theorem hcells_getN (sz : Nat) : ∀ (hs : List (List UInt8)) (k j : Nat) (h : List UInt8), (∀ h ∈ hs, h.length = sz) → hs[k]? = some h → j < sz → (hcells hs)[k * sz + j]? = (h.map bval)[j]?
  | [], k, j, h, _, hk, _ => by simp at hk
  | q :: l, 0, j, h, hl, hk, hj => by
    simp at hk
    subst hk
    have := hl q (by simp)
    simp only [hcells, List.flatMap_cons, Nat.zero_mul, Nat.zero_add]
    rw [List.getElem?_append_left (by rw [List.length_map]; omega)]
  | q :: l, k + 1, j, h, hl, hk, hj => by
    have := hl q (by simp)
    simp only [hcells, List.flatMap_cons]
    rw [List.getElem?_append_right (by rw [List.length_map, Nat.add_mul]; omega), show (k + 1) * sz + j - (q.map bval).length = k * sz + j by rw [List.length_map, Nat.add_mul]; omega]
    exact hcells_getN sz l k j h (fun x hx => hl x (by simp [hx])) (by simpa using hk) hj
theorem row_range {W : World} {I : Nat → Option Obj} {E : TypeId} {sz n c : Nat} {A : Option Addr} {ss : List (List UInt8)} {L0 : List (Nat × Obj)} (hr : Row E sz (.slice A n c) n (hcells ss) L0) (hl : ∀ s ∈ ss, s.length = sz) (h0 : 0 < sz) {k : Nat} {x : List UInt8} (hk : ss[k]? = some x) :
    ∃ g off, A = some ⟨g, off, none⟩ ∧ ∀ v X, St W v I X → (∀ p ∈ L0, p ∈ X) → v.rangeAt g (off + k * sz) (x.map bval) := by
  have hx := hl x (List.mem_of_getElem? hk)
  have key : ∀ j, j < sz → ∃ g off cur, A = some (⟨g, off, none⟩ : Addr) ∧ L0 = [(g, Obj.cells cur E (0, 0))] ∧ cur[off + (k * sz + j)]? = (x.map bval)[j]? := fun j hj => by
    have h1 := hcells_getN sz ss k j x hl hk hj
    have hjl : j < (x.map bval).length := by rw [List.length_map]; omega
    rw [List.getElem?_eq_getElem hjl] at h1
    obtain ⟨g, off, cap, cur, hv, hL, hc⟩ := hr.cells h1
    injection hv with hv
    exact ⟨g, off, cur, hv, hL, by rw [hc, List.getElem?_eq_getElem hjl]⟩
  obtain ⟨g, off, cur, hA, hL, _⟩ := key 0 h0
  refine ⟨g, off, hA, fun v X hv hX j u hu => ?_⟩
  have hjl : j < sz := by have := (List.getElem?_eq_some_iff.1 hu).1; rw [List.length_map] at this; omega
  obtain ⟨g', off', cur', hA', hL', h3⟩ := key j hjl
  rw [hA] at hA'
  injection hA' with hA'
  injection hA' with e1 e2
  subst e1; subst e2
  rw [hL] at hL'
  injection hL' with hL' _
  injection hL' with _ hL'
  injection hL' with hL' _ _
  subst hL'
  rw [Nat.add_assoc, hv.cell (g := g) (cs := cur) (t := E) (fr := (0, 0)) (hX _ (by rw [hL]; simp)), h3, hu]
theorem eq_sector (xs : List UInt8) (hx : xs.length = 64) (w : World) : (Op.equalIn 10000 27 (.agg (bcells xs)) (.agg (bcells xs))).run Tryd.prog w = .ok true w := by
  have := run_equalIn_bytes w 9998 27 5 64 Tryd.underlying27 Tryd.underlying5 Tryd.sizeOf5 xs xs hx hx
  rw [beq_self_eq_true] at this
  exact this

set_option maxRecDepth 100000 in
set_option maxHeartbeats 4000000 in
theorem walk_imageSectors (W : World) (tabs : Tabs W) {H : Type} {enc : TypeId × Value → H} {v0 : Value} (a0 : Arg enc Tryd.prog W 22 v0) :
    Calls Tryd.prog 3 #[v0] W fun e w' => e = .returned (.bool true) ∧ Below W.heap.size W w' := by
  obtain ⟨A, n, c, xs, rfl, rfl, hc, hcm, hin⟩ := a0.bytes Tryd.underlying22 Tryd.underlying5 (by kernel_rfl)
  have t := TB.start tabs
  have kA := image_alive t (St.start W)
  have KA := Lib.hid kA; have HIN := Lib.hid hin; have HC := Lib.hid hc
  clear kA hin a0 hcm tabs t hc
  go_enter Tryd.func3, Tryd.ntmps3
  go_wp2_with fail
  refine KA.out.mono ?_
  rintro e w1 ⟨rfl, h1⟩
  clear KA
  by_cases hl : (3000 : Int) < xs.length
  · have hfin := h1.below (Le.refl _)
    clear h1
    go_wp2_with fail
    go_ret
    exact ⟨rfl, hfin⟩
  have kS := isectors ⟨A, c, xs⟩ HIN.out (by simp only; omega) HC.out h1
  have cv1 := conv_str (P := Tryd.prog) Tryd.underlying22 Tryd.underlying5 Tryd.underlying9 (c := c) (HIN.out _ _ h1)
  simp only at kS cv1
  have KS := Lib.hid kS
  have hle : (xs.length : Int) ≤ 3000 := by omega
  clear kS h1
  go_wp2_with fail
  refine KS.out.mono ?_
  rintro e w2 ⟨A1, c1, L1, rfl, hr1, h2⟩
  have kR := rsectors ⟨A, c, xs⟩ HIN.out (by simp only; omega) h2
  simp only at kR
  have KR := Lib.hid kR
  clear kR h2 cv1 KS
  go_wp2_with fail
  refine KR.out.mono ?_
  rintro e w3 ⟨A2, c2, L2, rfl, hr2, h3⟩
  have cv3 := conv_str (P := Tryd.prog) Tryd.underlying22 Tryd.underlying5 Tryd.underlying9 (c := c) (HIN.out _ _ h3)
  simp only at cv3
  have hn : secN xs ≤ 1000 := by unfold secN; omega
  have hsl := sects_len xs (secN xs)
  have h64 : ∀ s ∈ sects xs (secN xs), s.length = 64 := by
    intro s hs
    obtain ⟨k, _, rfl⟩ := List.mem_map.1 hs
    exact secF_len _ _
  generalize secN xs = N at *
  generalize hss : sects xs N = ss at *
  rw [List.append_nil] at h3
  have H3 := Lib.hid h3; have HR1 := Lib.hid hr1; have HR2 := Lib.hid hr2; have HSS := Lib.hid hss; have H64 := Lib.hid h64; have HSL := Lib.hid hsl
  clear h3 hr1 hr2 hss h64 hsl KR hl
  have hbne : ∀ s : ByteArray, (s.toList != s.toList) = false := fun s => by simp
  go_wp2_with fail
  go_loopw [31] (fun i wr => ∃ k : Nat, i = .int .i64 k ∧ k ≤ N ∧ St W wr (fun b => W.heap[b]?) (L2 ++ L1)) (fun i _ => N - (intOf i).toNat)
  case atStart => exact ⟨0, rfl, by omega, H3.out⟩
  case round =>
    obtain ⟨k, rfl, hk, hst⟩ := hrel
    clear H3 cv3
    by_cases hkl : k < N
    · obtain ⟨x, hx⟩ : ∃ x, ss[k]? = some x := ⟨_, List.getElem?_eq_getElem (by rw [HSL.out]; exact hkl)⟩
      have hx64 := H64.out x (List.mem_of_getElem? hx)
      obtain ⟨g1, o1, e1, hg1⟩ := row_range (W := W) (I := fun b => W.heap[b]?) HR1.out H64.out (by omega) hx
      obtain ⟨g2, o2, e2, hg2⟩ := row_range (W := W) (I := fun b => W.heap[b]?) HR2.out H64.out (by omega) hx
      have X1 : ∀ v, (∃ y : CW (fun v => St W v (fun b => W.heap[b]?) (L2 ++ L1)), v = y.w) → v.rangeAt g1 (o1 + k * 64) (bcells x).toList := by rintro _ ⟨y, rfl⟩; simpa [bcells] using hg1 _ _ y.ok (fun p hp => by simp [hp])
      have X2 : ∀ v, (∃ y : CW (fun v => St W v (fun b => W.heap[b]?) (L2 ++ L1)), v = y.w) → v.rangeAt g2 (o2 + k * 64) (bcells x).toList := by rintro _ ⟨y, rfl⟩; simpa [bcells] using hg2 _ _ y.ok (fun p hp => by simp [hp])
      have E1 := eq_sector x hx64
      have ix : (Tryd.prog.info? 27).map (·.size) = some (bcells x).size := by rw [bcells_size, hx64]; kernel_rfl
      have hki : (k : Int) < (N : Int) := by omega
      have HX1 := Lib.hid X1; have HX2 := Lib.hid X2; have IX := Lib.hid ix; have HDW := Lib.hid (St.drew1 hst)
      have hne : Nonempty (CW (fun v => St W v (fun b => W.heap[b]?) (L2 ++ L1))) := ⟨⟨_, HDW.out⟩⟩
      clear X1 X2 ix hst hg1 hg2 hx64 hx
      subst e1; subst e2
      go_wp2_with fail
      refine wp_region_cw (fun v => St W v (fun b => W.heap[b]?) (L2 ++ L1)) HDW.out (by kernel_rfl) (by kernel_rfl) ?_
      repeat (first
        | (go_big_quiet_want; refine quiet_load_rowK 27 (.tmp 36) rfl (b := g1) (off := o1 + k * 64) rfl (bcells x) _ HX1.out Tryd.underlying27 rfl IX.out ?_; simp only [Act.put, List.setIfInBounds_toArray, List.set_cons_zero, List.set_cons_succ]; go_big_quiet_on)
        | (go_big_quiet_want; refine quiet_load_rowK 27 (.tmp 40) rfl (b := g2) (off := o2 + k * 64) rfl (bcells x) _ HX2.out Tryd.underlying27 rfl IX.out ?_; simp only [Act.put, List.setIfInBounds_toArray, List.set_cons_zero, List.set_cons_succ]; go_big_quiet_on)
        | go_big_quiet_step (fail))
      refine wpQuiet_nil ?_
      rintro _ ⟨y, rfl⟩
      have HFIN := Lib.hid y.ok
      clear HX1 HX2 hne HDW
      (try simp only [Bool.not_true])
      go_wp2_with fail
      go_roundw
      case rel => exact ⟨k + 1, by go_num, by omega, HFIN.out⟩
      case measure => simp [intOf]; omega
    · obtain rfl : k = N := by omega
      have hfin := hst.below (Le.refl _)
      clear hst
      go_wp2_with fail
      go_ret
      exact ⟨rfl, hfin⟩
end Go.Proofs.YtkpgliaahibjgaaDoor
