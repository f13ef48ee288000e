/- SlotReads: the walk of the law. -/
import Derived.Test.YtpjfmgifddoppaaDoorRsrd
import Derived.Test.YtpjfmgifddoppaaDoorSlX
import Derived.Deep.RegionWith
import Derived.Deep.RegionHeld3
namespace Go.Proofs.YtpjfmgifddoppaaDoor
set_option linter.unusedVariables false
set_option linter.unusedSimpArgs false
open Go.RowKit Go.Lib

theorem rd_len (s : Rs) : (rdS s).1.1.dig.length = 32 := by
  unfold rdS
  cases h : (tk 46 s).2 with
  | none => exact zeros_len
  | some r => exact chk_len _ (sOf_ok _ (tk_some h).2).dig
theorem RdE.facts {W : World} {I : Nat → Option Obj} {s : Rs} {A : Option Addr} {n c : Nat} {e : Int} (h : RdE W I s A n c e) : n = (s.getD []).length ∧ e = errE s := by
  cases s with
  | none => exact ⟨h.2.2.1, h.1⟩
  | some r => exact ⟨h.2.1, h.1⟩
theorem perm4 {α : Type} (a b c d : α) : [a, b, c, d].Perm [d, b, a, c] := (List.perm_append_comm (l₁ := [a, b, c]) (l₂ := [d])).trans (List.Perm.cons _ (List.Perm.swap b a [c]))
/-- Both readers, of the same bytes. -/
def TwoR (W v : World) (I : Nat → Option Obj) (g k : Nat) (s : Rs) : Prop :=
  ∃ A n c e A' n' c' e', RdE W I s A n c e ∧ RdE W I s A' n' c' e' ∧ St W v I [(g, .cells #[.slice A n c, .int .i64 e] 90 (0, 0)), (k, .cells #[.slice A' n' c', .int .i64 e'] 51 (0, 0))]
set_option maxRecDepth 100000 in
set_option maxHeartbeats 8000000 in
theorem walk_slotReads (W : World) (sv : SV0 W) {H : Type} {enc : TypeId × Value → H} {v0 : Value} (a0 : Arg enc Tryd.prog W 40 v0) :
    Calls Tryd.prog 9 #[v0] W fun e w' => e = .returned (.bool true) ∧ Below W.heap.size W w' := by
  obtain ⟨A0, n0, c0, xs, rfl, hxl, hnc, hcm, hin⟩ := a0.bytes Tryd.underlying40 Tryd.underlying5 (by kernel_rfl)
  subst hxl
  have kA := slot_alive sv (St.start W)
  have kN := fun (v : World) (F : List (Nat × Obj)) (hl : xs.length ≤ 1000000) (hv : St W v (fun b => W.heap[b]?) F) => code_newE ⟨A0, c0, xs⟩ hin hl hnc hv
  simp only [Part.val] at kN
  have KA := Lib.hid kA; have KN := Lib.hid kN; have HIN := Lib.hid hin
  clear kA kN hin a0 sv
  go_enter Tryd.func9, Tryd.ntmps9
  go_wp2_with fail
  refine KA.out.mono ?_
  rintro e w1 ⟨rfl, h1⟩
  have H1 := Lib.hid h1
  have HF : Hid (Below W.heap.size W w1) := Lib.hid (h1.below (Le.refl _))
  clear KA h1
  by_cases g1 : 200 < xs.length
  · have g1' : (200 : Int) < (xs.length : Int) := by omega
    clear g1
    go_wp2_with fail
    go_ret
    exact ⟨rfl, HF.out⟩
  have g1' : ¬ ((200 : Int) < (xs.length : Int)) := by omega
  clear HF
  go_wp2_with fail
  refine (KN.out _ _ (by omega) H1.out).mono ?_
  rintro e w2 ⟨rfl, h2⟩
  obtain ⟨A, n, c, x, hr, hst⟩ := h2
  obtain ⟨g, hg⟩ : ∃ g, w1.heap.size = g := ⟨_, rfl⟩
  rw [hg] at hst ⊢
  have h3 := (hst.alloc (.cells #[.slice A0 xs.length c0, .int .i64 0] 51)).perm (List.Perm.swap _ _ _)
  obtain ⟨k, hk⟩ : ∃ k, w2.heap.size = k := ⟨_, rfl⟩
  rw [hk] at h3
  have hT : TwoR W (w2.alloc (.cells #[.slice A0 xs.length c0, .int .i64 0] 51)) (fun b => W.heap[b]?) g k (some xs) := ⟨A, n, c, x, A0, xs.length, c0, 0, hr, ⟨rfl, rfl, by omega, hnc, HIN.out⟩, h3⟩
  have HT := Lib.hid hT; have HK := Lib.hid hk
  clear hT h3 hst hr H1 KN HIN hg hk g1 g1' hnc hcm
  go_wp2_with fail
  rw [HK.out]
  clear HK
  go_loopw [19] (fun i wr => ∃ (j : Nat) (s : Rs), i = .int .i64 j ∧ j ≤ 3 ∧ TwoR W wr (fun b => W.heap[b]?) g k s) (fun i _ => 3 - (intOf i).toNat)
  case atStart => exact ⟨0, _, rfl, by omega, HT.out⟩
  case round =>
    obtain ⟨j, s, rfl, hj, hT⟩ := hrel
    clear HT
    by_cases hj3 : j < 3
    · obtain ⟨A, n, c, e, A', n', c', e', hr, hr', hst⟩ := hT
      have hjI : (j : Int) < 3 := by omega
      have kS := slot_read ⟨A, n, c, e, hr, hst⟩
      have kD := fun (v : World) (F : List (Nat × Obj)) (hv : St W v (fun b => W.heap[b]?) ((k, .cells #[.slice A' n' c', .int .i64 e'] 51 (0, 0)) :: F)) => ref_read ⟨A', n', c', e', hr', hv⟩
      have lx := rd_len s
      have qs := fun w => eq_slot (rdS s).1.1 (rdS s).1.1 lx lx w
      rw [same_refl] at qs
      unfold SrPost at kS
      unfold SsPost at kD
      generalize hx : (rdS s).1.1 = x at *
      generalize (rdS s).1.2 = y at *
      generalize (rdS s).2 = s' at *
      have F0 : Hid ((y != y) = false) := Lib.hid (by simp)
      have KS := Lib.hid kS; have KD := Lib.hid kD; have LX := Lib.hid lx; have QS := Lib.hid qs
      clear kS kD hr hr' hst hx qs
      have fX : 0 + (x).cells.size ≤ (#[.int .i64 0, .int .i64 0, .int .u64 0, .int .i64 0, .int .u8 0, .int .u8 0, .int .u8 0, .int .u8 0, .int .u8 0, .int .u8 0, .int .u8 0, .int .u8 0, .int .u8 0, .int .u8 0, .int .u8 0, .int .u8 0, .int .u8 0, .int .u8 0, .int .u8 0, .int .u8 0, .int .u8 0, .int .u8 0, .int .u8 0, .int .u8 0, .int .u8 0, .int .u8 0, .int .u8 0, .int .u8 0, .int .u8 0, .int .u8 0, .int .u8 0, .int .u8 0, .int .u8 0, .int .u8 0, .int .u8 0, .int .u8 0] : Array Value).size := by rw [bare_lit]; exact (slot_fit (s := zS) (t := x) zeros_len lx).1
      have mX : setMany #[.int .i64 0, .int .i64 0, .int .u64 0, .int .i64 0, .int .u8 0, .int .u8 0, .int .u8 0, .int .u8 0, .int .u8 0, .int .u8 0, .int .u8 0, .int .u8 0, .int .u8 0, .int .u8 0, .int .u8 0, .int .u8 0, .int .u8 0, .int .u8 0, .int .u8 0, .int .u8 0, .int .u8 0, .int .u8 0, .int .u8 0, .int .u8 0, .int .u8 0, .int .u8 0, .int .u8 0, .int .u8 0, .int .u8 0, .int .u8 0, .int .u8 0, .int .u8 0, .int .u8 0, .int .u8 0, .int .u8 0, .int .u8 0] 0 (x).cells.toList = (x).cells := by rw [bare_lit]; exact (slot_fit (s := zS) (t := x) zeros_len lx).2
      have iX := slot_info (s := x) lx
      have oX := Slt.one x
      have FX := Lib.hid fX; have MX := Lib.hid mX; have IX := Lib.hid iX; have OX := Lib.hid oX
      clear fX mX iX oX
      clear lx
      go_wp2_with fail
      refine KS.out.mono ?_
      rintro e9 w3 ⟨rfl, B, m, d, z, hq, h3⟩
      have HQ := Lib.hid hq
      have HX := Lib.hid h3
      clear h3 hq KS
      obtain ⟨uk, huk⟩ : ∃ u, w3 = u := ⟨_, rfl⟩
      rw [huk] at HX ⊢
      clear huk
      have hA := HX.out.alloc (.cells #[.int .i64 0, .int .i64 0, .int .u64 0, .int .i64 0, .int .u8 0, .int .u8 0, .int .u8 0, .int .u8 0, .int .u8 0, .int .u8 0, .int .u8 0, .int .u8 0, .int .u8 0, .int .u8 0, .int .u8 0, .int .u8 0, .int .u8 0, .int .u8 0, .int .u8 0, .int .u8 0, .int .u8 0, .int .u8 0, .int .u8 0, .int .u8 0, .int .u8 0, .int .u8 0, .int .u8 0, .int .u8 0, .int .u8 0, .int .u8 0, .int .u8 0, .int .u8 0, .int .u8 0, .int .u8 0, .int .u8 0, .int .u8 0] 26)
      have HA := Lib.hid hA
      clear hA
      try dsimp only
      go_wp2_with (with_reducible refine wpList_store_st rfl 26 (.tmp 5) (.tmp 24) rfl (g := uk.heap.size) (off := 0) x.cells rfl rfl HA.out FX.out IX.out OX.out ?_; intro w9 h9; refine Hid.out ?_)
      refine Lib.hid ?_
      rw [MX.out] at h9
      clear HX HA
      generalize uk.heap.size = n5 at *
      obtain ⟨vn5, hvn5⟩ : ∃ v, w9 = v := ⟨_, rfl⟩
      rw [hvn5] at h9 ⊢
      clear hvn5
      have HX := Lib.hid h9
      clear h9
      have HX2 := Lib.hid (HX.out.perm (L' := (k, .cells #[.slice A' n' c', .int .i64 e'] 51 (0, 0)) :: [(n5, .cells x.cells 26 (0, 0)), (g, .cells #[.slice B m d, .int .i64 z] 90 (0, 0))]) (by
        have p1 := List.perm_append_comm (l₁ := [(n5, Obj.cells x.cells 26 (0, 0)), (g, .cells #[.slice B m d, .int .i64 z] 90 (0, 0))]) (l₂ := [(k, Obj.cells #[.slice A' n' c', .int .i64 e'] 51 (0, 0))])
        simpa using p1))
      clear HX
      go_wp2_with fail
      refine (KD.out _ _ HX2.out).mono ?_
      rintro e9 w4 ⟨rfl, B', m', d', z', hq', h4⟩
      have HQ' := Lib.hid hq'
      have HX := Lib.hid h4
      clear h4 hq' KD HX2
      obtain ⟨ul, hul⟩ : ∃ u, w4 = u := ⟨_, rfl⟩
      rw [hul] at HX ⊢
      clear hul
      have hA := HX.out.alloc (.cells #[.int .i64 0, .int .i64 0, .int .u64 0, .int .i64 0, .int .u8 0, .int .u8 0, .int .u8 0, .int .u8 0, .int .u8 0, .int .u8 0, .int .u8 0, .int .u8 0, .int .u8 0, .int .u8 0, .int .u8 0, .int .u8 0, .int .u8 0, .int .u8 0, .int .u8 0, .int .u8 0, .int .u8 0, .int .u8 0, .int .u8 0, .int .u8 0, .int .u8 0, .int .u8 0, .int .u8 0, .int .u8 0, .int .u8 0, .int .u8 0, .int .u8 0, .int .u8 0, .int .u8 0, .int .u8 0, .int .u8 0, .int .u8 0] 26)
      have HA := Lib.hid hA
      clear hA
      try dsimp only
      go_wp2_with (with_reducible refine wpList_store_st rfl 26 (.tmp 7) (.tmp 29) rfl (g := ul.heap.size) (off := 0) x.cells rfl rfl HA.out FX.out IX.out OX.out ?_; intro w9 h9; refine Hid.out ?_)
      refine Lib.hid ?_
      rw [MX.out] at h9
      clear HX HA
      generalize ul.heap.size = n7 at *
      obtain ⟨vn7, hvn7⟩ : ∃ v, w9 = v := ⟨_, rfl⟩
      rw [hvn7] at h9 ⊢
      clear hvn7
      have HX := Lib.hid h9
      clear h9
      obtain ⟨hm, hz⟩ := HQ.out.facts
      obtain ⟨hm', hz'⟩ := HQ'.out.facts
      have hP := HX.out.perm (L' := (g, .cells #[.slice B m d, .int .i64 z] 90 (0, 0)) :: [(k, .cells #[.slice B' m' d', .int .i64 z'] 51 (0, 0)), (n7, .cells x.cells 26 (0, 0)), (n5, .cells x.cells 26 (0, 0))]) (by
        exact perm4 _ _ _ _)
      have kL := fun (v : World) (hv : St W v (fun b => W.heap[b]?) ((g, .cells #[.slice B m d, .int .i64 z] 90 (0, 0)) :: [(k, .cells #[.slice B' m' d', .int .i64 z'] 51 (0, 0)), (n7, .cells x.cells 26 (0, 0)), (n5, .cells x.cells 26 (0, 0))])) => code_left ⟨_, _, _, _, HQ.out, hv⟩
      have kE := fun (v : World) (hv : St W v (fun b => W.heap[b]?) ((g, .cells #[.slice B m d, .int .i64 z] 90 (0, 0)) :: [(k, .cells #[.slice B' m' d', .int .i64 z'] 51 (0, 0)), (n7, .cells x.cells 26 (0, 0)), (n5, .cells x.cells 26 (0, 0))])) => code_err ⟨_, _, _, _, HQ.out, hv⟩
      have sx : ∀ v, St W v (fun b => W.heap[b]?) ((g, .cells #[.slice B m d, .int .i64 z] 90 (0, 0)) :: [(k, .cells #[.slice B' m' d', .int .i64 z'] 51 (0, 0)), (n7, .cells x.cells 26 (0, 0)), (n5, .cells x.cells 26 (0, 0))]) → v.rangeAt n5 0 x.cells.toList ∧ v.rangeAt n7 0 x.cells.toList ∧ v.cell? ⟨k, 0, none⟩ = some (.slice B' m' d') ∧ v.cell? ⟨k, 1, none⟩ = some (.int .i64 z') := fun v hv => ⟨hv.rangeAt (g := n5) (cs := x.cells) (t := 26) (fr := (0, 0)) (by simp) (fun j hj => by simp), hv.rangeAt (g := n7) (cs := x.cells) (t := 26) (fr := (0, 0)) (by simp) (fun j hj => by simp), hv.cell (g := k) (cs := #[.slice B' m' d', .int .i64 z']) (t := 51) (fr := (0, 0)) (by simp) 0, hv.cell (g := k) (cs := #[.slice B' m' d', .int .i64 z']) (t := 51) (fr := (0, 0)) (by simp) 1⟩
      rw [← hm] at kL
      rw [← hz] at kE
      obtain rfl : m' = m := hm'.trans hm.symm
      obtain rfl : z' = z := hz'.trans hz.symm
      have F1 : Hid (((m' : Int) != (m' : Int)) = false) := Lib.hid (by simp)
      have F2 : Hid ((z' != z') = false) := Lib.hid (by simp)
      have hul : Tryd.prog.underlying 26 = some _ := Tryd.underlying26
      have hma : (Tryd.prog.info? 26).map (·.size) = some x.cells.toList.length := by rw [Array.length_toList]; exact slot_info LX.out
      have KL := Lib.hid kL; have KE := Lib.hid kE; have SX := Lib.hid sx; have HUL := Lib.hid hul; have HMA := Lib.hid hma
      have qs := QS.out
      have hx := hP.drew1
      clear kL kE sx hul hma hP HX hm hz hm' hz'
      go_wp2_with fail
      refine wp_region_held_drew (S := fun v => v.rangeAt n5 0 x.cells.toList ∧ v.rangeAt n7 0 x.cells.toList ∧ v.cell? ⟨k, 0, none⟩ = some (.slice B' m' d') ∧ v.cell? ⟨k, 1, none⟩ = some (.int .i64 z')) (by kernel_rfl) (SX.out _ hx) (fun hHeld => ?_)
      refine wpAnyH_take (i := 0) (oi := ?_) (v := ?_) ?_ ?_ ?_ ?_ ?_ ?_ ?_ ?_
      rotate_left 2
      · (simp only [List.getElem?_toArray, List.getElem?_cons_succ, List.getElem?_cons_zero]; exact rfl)
      · kernel_rfl
      · kernel_rfl
      · kernel_rfl
      · exact fun _ _ _ h => h
      · first | (first | ((refine yieldsIf_load_mid ?_ 26 (.tmp 5) ?_ n5 0 ?_ x.cells.toList _ ?_ HUL.out ?_ HMA.out) <;> first | rfl | exact fun w h => h.1) | ((refine yieldsIf_load_mid ?_ 26 (.tmp 7) ?_ n7 0 ?_ x.cells.toList _ ?_ HUL.out ?_ HMA.out) <;> first | rfl | exact fun w h => h.2.1) | (refine Or.inl ⟨by rfl, ?_⟩; intro w hSw; obtain ⟨hS1, hS2, hS3, hS4⟩ := hSw; go_simp; try with_reducible rfl)) | (refine Or.inr ⟨by rfl, ?_⟩; rfl)
      · assumption
      try simp only [Act.put, List.setIfInBounds_toArray, List.set_cons_zero, List.set_cons_succ]
      try simp only [F0.out, F1.out, F2.out]
      refine wpAnyH_take (i := 1) (oi := ?_) (v := ?_) ?_ ?_ ?_ ?_ ?_ ?_ ?_ ?_
      rotate_left 2
      · (simp only [List.getElem?_toArray, List.getElem?_cons_succ, List.getElem?_cons_zero]; exact rfl)
      · kernel_rfl
      · kernel_rfl
      · kernel_rfl
      · exact fun _ _ _ h => h
      · first | (first | ((refine yieldsIf_load_mid ?_ 26 (.tmp 5) ?_ n5 0 ?_ x.cells.toList _ ?_ HUL.out ?_ HMA.out) <;> first | rfl | exact fun w h => h.1) | ((refine yieldsIf_load_mid ?_ 26 (.tmp 7) ?_ n7 0 ?_ x.cells.toList _ ?_ HUL.out ?_ HMA.out) <;> first | rfl | exact fun w h => h.2.1) | (refine Or.inl ⟨by rfl, ?_⟩; intro w hSw; obtain ⟨hS1, hS2, hS3, hS4⟩ := hSw; go_simp; try with_reducible rfl)) | (refine Or.inr ⟨by rfl, ?_⟩; rfl)
      · assumption
      try simp only [Act.put, List.setIfInBounds_toArray, List.set_cons_zero, List.set_cons_succ]
      try simp only [F0.out, F1.out, F2.out]
      refine wpAnyH_take (i := 2) (oi := ?_) (v := ?_) ?_ ?_ ?_ ?_ ?_ ?_ ?_ ?_
      rotate_left 2
      · (simp only [List.getElem?_toArray, List.getElem?_cons_succ, List.getElem?_cons_zero]; exact rfl)
      · kernel_rfl
      · kernel_rfl
      · kernel_rfl
      · exact fun _ _ _ h => h
      · first | (refine Or.inl ⟨by rfl, ?_⟩; intro w hSw; (try dsimp only at hSw); go_simp; try with_reducible rfl) | (refine Or.inr ⟨by rfl, ?_⟩; rfl)
      · assumption
      try simp only [Act.put, List.setIfInBounds_toArray, List.set_cons_zero, List.set_cons_succ]
      try simp only [F0.out, F1.out, F2.out]
      refine wpAnyH_take (i := 3) (oi := ?_) (v := ?_) ?_ ?_ ?_ ?_ ?_ ?_ ?_ ?_
      rotate_left 2
      · (simp only [List.getElem?_toArray, List.getElem?_cons_succ, List.getElem?_cons_zero]; exact rfl)
      · kernel_rfl
      · kernel_rfl
      · kernel_rfl
      · exact fun _ _ _ h => h
      · first | (refine Or.inl ⟨by rfl, ?_⟩; intro w hSw; (try dsimp only at hSw); go_simp; try with_reducible rfl) | (refine Or.inr ⟨by rfl, ?_⟩; rfl)
      · assumption
      try simp only [Act.put, List.setIfInBounds_toArray, List.set_cons_zero, List.set_cons_succ]
      try simp only [F0.out, F1.out, F2.out]
      refine wpAnyH_take (i := 4) (oi := ?_) (v := ?_) ?_ ?_ ?_ ?_ ?_ ?_ ?_ ?_
      rotate_left 2
      · (simp only [List.getElem?_toArray, List.getElem?_cons_succ, List.getElem?_cons_zero]; exact rfl)
      · kernel_rfl
      · kernel_rfl
      · kernel_rfl
      · exact fun _ _ _ h => h
      · first | (refine Or.inl ⟨by rfl, ?_⟩; intro w hSw; (try dsimp only at hSw); go_simp; try with_reducible rfl) | (refine Or.inr ⟨by rfl, ?_⟩; rfl)
      · assumption
      try simp only [Act.put, List.setIfInBounds_toArray, List.set_cons_zero, List.set_cons_succ]
      try simp only [F0.out, F1.out, F2.out]
      refine wpAnyH_take (i := 5) (oi := ?_) (v := ?_) ?_ ?_ ?_ ?_ ?_ ?_ ?_ ?_
      rotate_left 2
      · (simp only [List.getElem?_toArray, List.getElem?_cons_succ, List.getElem?_cons_zero]; exact rfl)
      · kernel_rfl
      · kernel_rfl
      · kernel_rfl
      · exact fun _ _ _ h => h
      · first | (refine Or.inl ⟨by rfl, ?_⟩; intro w hSw; (try dsimp only at hSw); go_simp; try with_reducible rfl) | (refine Or.inr ⟨by rfl, ?_⟩; rfl)
      · assumption
      try simp only [Act.put, List.setIfInBounds_toArray, List.set_cons_zero, List.set_cons_succ]
      try simp only [F0.out, F1.out, F2.out]
      refine wpAnyH_take (i := 6) (oi := ?_) (v := ?_) ?_ ?_ ?_ ?_ ?_ ?_ ?_ ?_
      rotate_left 2
      · (simp only [List.getElem?_toArray, List.getElem?_cons_succ, List.getElem?_cons_zero]; exact rfl)
      · kernel_rfl
      · kernel_rfl
      · kernel_rfl
      · exact fun _ _ _ h => h
      · first | (refine Or.inl ⟨by rfl, ?_⟩; intro w hSw; (try dsimp only at hSw); go_simp; try with_reducible rfl) | (refine Or.inr ⟨by rfl, ?_⟩; rfl)
      · assumption
      try simp only [Act.put, List.setIfInBounds_toArray, List.set_cons_zero, List.set_cons_succ]
      try simp only [F0.out, F1.out, F2.out]
      refine wpAnyH_take (i := 7) (oi := ?_) (v := ?_) ?_ ?_ ?_ ?_ ?_ ?_ ?_ ?_
      rotate_left 2
      · (simp only [List.getElem?_toArray, List.getElem?_cons_succ, List.getElem?_cons_zero]; exact rfl)
      · kernel_rfl
      · kernel_rfl
      · kernel_rfl
      · exact fun _ _ _ h => h
      · first | (refine Or.inl ⟨by rfl, ?_⟩; intro w hSw; (try dsimp only at hSw); go_simp; try with_reducible rfl) | (refine Or.inr ⟨by rfl, ?_⟩; rfl)
      · assumption
      try simp only [Act.put, List.setIfInBounds_toArray, List.set_cons_zero, List.set_cons_succ]
      try simp only [F0.out, F1.out, F2.out]
      refine wpAnyH_take (i := 8) (oi := ?_) (v := ?_) ?_ ?_ ?_ ?_ ?_ ?_ ?_ ?_
      rotate_left 2
      · (simp only [List.getElem?_toArray, List.getElem?_cons_succ, List.getElem?_cons_zero]; exact rfl)
      · kernel_rfl
      · kernel_rfl
      · kernel_rfl
      · exact fun _ _ _ h => h
      · first | (refine Or.inl ⟨by rfl, ?_⟩; intro w hSw; (try dsimp only at hSw); go_simp; try with_reducible rfl) | (refine Or.inr ⟨by rfl, ?_⟩; rfl)
      · assumption
      try simp only [Act.put, List.setIfInBounds_toArray, List.set_cons_zero, List.set_cons_succ]
      try simp only [F0.out, F1.out, F2.out]
      refine wpAnyH_take (i := 9) (oi := ?_) (v := ?_) ?_ ?_ ?_ ?_ ?_ ?_ ?_ ?_
      rotate_left 2
      · (simp only [List.getElem?_toArray, List.getElem?_cons_succ, List.getElem?_cons_zero]; exact rfl)
      · kernel_rfl
      · kernel_rfl
      · kernel_rfl
      · exact fun _ _ _ h => h
      · first | (refine Or.inl ⟨by rfl, ?_⟩; intro w hSw; (try dsimp only at hSw); go_simp; try with_reducible rfl) | (refine Or.inr ⟨by rfl, ?_⟩; rfl)
      · assumption
      try simp only [Act.put, List.setIfInBounds_toArray, List.set_cons_zero, List.set_cons_succ]
      try simp only [F0.out, F1.out, F2.out]
      refine wpAnyH_take (i := 11) (oi := ?_) (v := ?_) ?_ ?_ ?_ ?_ ?_ ?_ ?_ ?_
      rotate_left 2
      · (simp only [List.getElem?_toArray, List.getElem?_cons_succ, List.getElem?_cons_zero]; exact rfl)
      · kernel_rfl
      · kernel_rfl
      · kernel_rfl
      · exact fun _ _ _ h => h
      · first | (refine Or.inl ⟨by rfl, ?_⟩; intro w hSw; (try dsimp only at hSw); go_simp; try with_reducible rfl) | (refine Or.inr ⟨by rfl, ?_⟩; rfl)
      · assumption
      try simp only [Act.put, List.setIfInBounds_toArray, List.set_cons_zero, List.set_cons_succ]
      try simp only [F0.out, F1.out, F2.out]
      refine wpAnyH_take (i := 12) (oi := ?_) (v := ?_) ?_ ?_ ?_ ?_ ?_ ?_ ?_ ?_
      rotate_left 2
      · (simp only [List.getElem?_toArray, List.getElem?_cons_succ, List.getElem?_cons_zero]; exact rfl)
      · kernel_rfl
      · kernel_rfl
      · kernel_rfl
      · exact fun _ _ _ h => h
      · first | (refine Or.inl ⟨by rfl, ?_⟩; intro w hSw; (try dsimp only at hSw); go_simp; try with_reducible rfl) | (refine Or.inr ⟨by rfl, ?_⟩; rfl)
      · assumption
      try simp only [Act.put, List.setIfInBounds_toArray, List.set_cons_zero, List.set_cons_succ]
      try simp only [F0.out, F1.out, F2.out]
      refine wpAnyH_take (i := 13) (oi := ?_) (v := ?_) ?_ ?_ ?_ ?_ ?_ ?_ ?_ ?_
      rotate_left 2
      · (simp only [List.getElem?_toArray, List.getElem?_cons_succ, List.getElem?_cons_zero]; exact rfl)
      · kernel_rfl
      · kernel_rfl
      · kernel_rfl
      · exact fun _ _ _ h => h
      · first | (refine Or.inl ⟨by rfl, ?_⟩; intro w hSw; (try dsimp only at hSw); go_simp; try with_reducible rfl) | (refine Or.inr ⟨by rfl, ?_⟩; rfl)
      · assumption
      try simp only [Act.put, List.setIfInBounds_toArray, List.set_cons_zero, List.set_cons_succ]
      try simp only [F0.out, F1.out, F2.out]
      refine wpAnyH_take (i := 14) (oi := ?_) (v := ?_) ?_ ?_ ?_ ?_ ?_ ?_ ?_ ?_
      rotate_left 2
      · (simp only [List.getElem?_toArray, List.getElem?_cons_succ, List.getElem?_cons_zero]; exact rfl)
      · kernel_rfl
      · kernel_rfl
      · kernel_rfl
      · exact fun _ _ _ h => h
      · first | (first | ((refine yieldsIf_load_mid ?_ 26 (.tmp 5) ?_ n5 0 ?_ x.cells.toList _ ?_ HUL.out ?_ HMA.out) <;> first | rfl | exact fun w h => h.1) | ((refine yieldsIf_load_mid ?_ 26 (.tmp 7) ?_ n7 0 ?_ x.cells.toList _ ?_ HUL.out ?_ HMA.out) <;> first | rfl | exact fun w h => h.2.1) | (refine Or.inl ⟨by rfl, ?_⟩; intro w hSw; obtain ⟨hS1, hS2, hS3, hS4⟩ := hSw; go_simp; try with_reducible rfl)) | (refine Or.inr ⟨by rfl, ?_⟩; rfl)
      · assumption
      try simp only [Act.put, List.setIfInBounds_toArray, List.set_cons_zero, List.set_cons_succ]
      try simp only [F0.out, F1.out, F2.out]
      refine wpAnyH_take (i := 15) (oi := ?_) (v := ?_) ?_ ?_ ?_ ?_ ?_ ?_ ?_ ?_
      rotate_left 2
      · (simp only [List.getElem?_toArray, List.getElem?_cons_succ, List.getElem?_cons_zero]; exact rfl)
      · kernel_rfl
      · kernel_rfl
      · kernel_rfl
      · exact fun _ _ _ h => h
      · first | (refine Or.inl ⟨by rfl, ?_⟩; intro w hSw; (try dsimp only at hSw); go_simp; try with_reducible rfl) | (refine Or.inr ⟨by rfl, ?_⟩; rfl)
      · assumption
      try simp only [Act.put, List.setIfInBounds_toArray, List.set_cons_zero, List.set_cons_succ]
      try simp only [F0.out, F1.out, F2.out]
      refine wpAnyH_ready (rs := [10]) (by kernel_rfl) (by simp) ?_
      refine AllReadyH.cons (o := ?_) ?_ (fun K hK => ?_) ?_
      rotate_left 1
      · (simp only [List.getElem?_toArray, List.getElem?_cons_succ, List.getElem?_cons_zero]; exact rfl)
      · go_simp
        (first | (go_at_call 39; (with_reducible refine (KL.out _ hx).mono ?_); rintro e wx ⟨rfl, rfl⟩; dsimp only) | (go_at_call 40; (with_reducible refine (KE.out _ hx).mono ?_); rintro e wx ⟨rfl, rfl⟩; dsimp only))
        refine hK.out _ _ ?_ (fun hHeld => ?_)
        · (try dsimp only) <;> (exact SX.out _ hx)
        clear hK K
        try simp only [Act.put, List.setIfInBounds_toArray, List.set_cons_zero, List.set_cons_succ]
        try simp only [F0.out, F1.out, F2.out]
        refine wpAnyH_take (i := 16) (oi := ?_) (v := ?_) ?_ ?_ ?_ ?_ ?_ ?_ ?_ ?_
        rotate_left 2
        · (simp only [List.getElem?_toArray, List.getElem?_cons_succ, List.getElem?_cons_zero]; exact rfl)
        · kernel_rfl
        · kernel_rfl
        · kernel_rfl
        · exact fun _ _ _ h => h
        · first | (refine Or.inl ⟨by rfl, ?_⟩; intro w hSw; (try dsimp only at hSw); go_simp; try with_reducible rfl) | (refine Or.inr ⟨by rfl, ?_⟩; rfl)
        · assumption
        try simp only [Act.put, List.setIfInBounds_toArray, List.set_cons_zero, List.set_cons_succ]
        try simp only [F0.out, F1.out, F2.out]
        refine wpAnyH_take (i := 17) (oi := ?_) (v := ?_) ?_ ?_ ?_ ?_ ?_ ?_ ?_ ?_
        rotate_left 2
        · (simp only [List.getElem?_toArray, List.getElem?_cons_succ, List.getElem?_cons_zero]; exact rfl)
        · kernel_rfl
        · kernel_rfl
        · kernel_rfl
        · exact fun _ _ _ h => h
        · first | (refine Or.inl ⟨by rfl, ?_⟩; intro w hSw; (try dsimp only at hSw); go_simp; try with_reducible rfl) | (refine Or.inr ⟨by rfl, ?_⟩; rfl)
        · assumption
        try simp only [Act.put, List.setIfInBounds_toArray, List.set_cons_zero, List.set_cons_succ]
        try simp only [F0.out, F1.out, F2.out]
        refine wpAnyH_take (i := 18) (oi := ?_) (v := ?_) ?_ ?_ ?_ ?_ ?_ ?_ ?_ ?_
        rotate_left 2
        · (simp only [List.getElem?_toArray, List.getElem?_cons_succ, List.getElem?_cons_zero]; exact rfl)
        · kernel_rfl
        · kernel_rfl
        · kernel_rfl
        · exact fun _ _ _ h => h
        · first | (refine Or.inl ⟨by rfl, ?_⟩; intro w hSw; (try dsimp only at hSw); go_simp; try with_reducible rfl) | (refine Or.inr ⟨by rfl, ?_⟩; rfl)
        · assumption
        try simp only [Act.put, List.setIfInBounds_toArray, List.set_cons_zero, List.set_cons_succ]
        try simp only [F0.out, F1.out, F2.out]
        refine wpAnyH_take (i := 19) (oi := ?_) (v := ?_) ?_ ?_ ?_ ?_ ?_ ?_ ?_ ?_
        rotate_left 2
        · (simp only [List.getElem?_toArray, List.getElem?_cons_succ, List.getElem?_cons_zero]; exact rfl)
        · kernel_rfl
        · kernel_rfl
        · kernel_rfl
        · exact fun _ _ _ h => h
        · first | (refine Or.inl ⟨by rfl, ?_⟩; intro w hSw; (try dsimp only at hSw); go_simp; try with_reducible rfl) | (refine Or.inr ⟨by rfl, ?_⟩; rfl)
        · assumption
        try simp only [Act.put, List.setIfInBounds_toArray, List.set_cons_zero, List.set_cons_succ]
        try simp only [F0.out, F1.out, F2.out]
        refine wpAnyH_take (i := 21) (oi := ?_) (v := ?_) ?_ ?_ ?_ ?_ ?_ ?_ ?_ ?_
        rotate_left 2
        · (simp only [List.getElem?_toArray, List.getElem?_cons_succ, List.getElem?_cons_zero]; exact rfl)
        · kernel_rfl
        · kernel_rfl
        · kernel_rfl
        · exact fun _ _ _ h => h
        · first | (refine Or.inl ⟨by rfl, ?_⟩; intro w hSw; (try dsimp only at hSw); go_simp; try with_reducible rfl) | (refine Or.inr ⟨by rfl, ?_⟩; rfl)
        · assumption
        try simp only [Act.put, List.setIfInBounds_toArray, List.set_cons_zero, List.set_cons_succ]
        try simp only [F0.out, F1.out, F2.out]
        refine wpAnyH_take (i := 22) (oi := ?_) (v := ?_) ?_ ?_ ?_ ?_ ?_ ?_ ?_ ?_
        rotate_left 2
        · (simp only [List.getElem?_toArray, List.getElem?_cons_succ, List.getElem?_cons_zero]; exact rfl)
        · kernel_rfl
        · kernel_rfl
        · kernel_rfl
        · exact fun _ _ _ h => h
        · first | (refine Or.inl ⟨by rfl, ?_⟩; intro w hSw; (try dsimp only at hSw); go_simp; try with_reducible rfl) | (refine Or.inr ⟨by rfl, ?_⟩; rfl)
        · assumption
        try simp only [Act.put, List.setIfInBounds_toArray, List.set_cons_zero, List.set_cons_succ]
        try simp only [F0.out, F1.out, F2.out]
        refine wpAnyH_take (i := 23) (oi := ?_) (v := ?_) ?_ ?_ ?_ ?_ ?_ ?_ ?_ ?_
        rotate_left 2
        · (simp only [List.getElem?_toArray, List.getElem?_cons_succ, List.getElem?_cons_zero]; exact rfl)
        · kernel_rfl
        · kernel_rfl
        · kernel_rfl
        · exact fun _ _ _ h => h
        · first | (refine Or.inl ⟨by rfl, ?_⟩; intro w hSw; (try dsimp only at hSw); go_simp; try with_reducible rfl) | (refine Or.inr ⟨by rfl, ?_⟩; rfl)
        · assumption
        try simp only [Act.put, List.setIfInBounds_toArray, List.set_cons_zero, List.set_cons_succ]
        try simp only [F0.out, F1.out, F2.out]
        refine wpAnyH_take (i := 24) (oi := ?_) (v := ?_) ?_ ?_ ?_ ?_ ?_ ?_ ?_ ?_
        rotate_left 2
        · (simp only [List.getElem?_toArray, List.getElem?_cons_succ, List.getElem?_cons_zero]; exact rfl)
        · kernel_rfl
        · kernel_rfl
        · kernel_rfl
        · exact fun _ _ _ h => h
        · first | (first | ((refine yieldsIf_load_mid ?_ 26 (.tmp 5) ?_ n5 0 ?_ x.cells.toList _ ?_ HUL.out ?_ HMA.out) <;> first | rfl | exact fun w h => h.1) | ((refine yieldsIf_load_mid ?_ 26 (.tmp 7) ?_ n7 0 ?_ x.cells.toList _ ?_ HUL.out ?_ HMA.out) <;> first | rfl | exact fun w h => h.2.1) | (refine Or.inl ⟨by rfl, ?_⟩; intro w hSw; obtain ⟨hS1, hS2, hS3, hS4⟩ := hSw; go_simp; try with_reducible rfl)) | (refine Or.inr ⟨by rfl, ?_⟩; rfl)
        · assumption
        try simp only [Act.put, List.setIfInBounds_toArray, List.set_cons_zero, List.set_cons_succ]
        try simp only [F0.out, F1.out, F2.out]
        refine wpAnyH_ready (rs := [20]) (by kernel_rfl) (by simp) ?_
        refine AllReadyH.cons (o := ?_) ?_ (fun K hK => ?_) ?_
        rotate_left 1
        · (simp only [List.getElem?_toArray, List.getElem?_cons_succ, List.getElem?_cons_zero]; exact rfl)
        · go_simp
          (first | (go_at_call 39; (with_reducible refine (KL.out _ hx).mono ?_); rintro e wx ⟨rfl, rfl⟩; dsimp only) | (go_at_call 40; (with_reducible refine (KE.out _ hx).mono ?_); rintro e wx ⟨rfl, rfl⟩; dsimp only))
          refine hK.out _ _ ?_ (fun hHeld => ?_)
          · (try dsimp only) <;> (exact SX.out _ hx)
          clear hK K
          try simp only [Act.put, List.setIfInBounds_toArray, List.set_cons_zero, List.set_cons_succ]
          try simp only [F0.out, F1.out, F2.out]
          refine wpAnyH_take (i := 25) (oi := ?_) (v := ?_) ?_ ?_ ?_ ?_ ?_ ?_ ?_ ?_
          rotate_left 2
          · (simp only [List.getElem?_toArray, List.getElem?_cons_succ, List.getElem?_cons_zero]; exact rfl)
          · kernel_rfl
          · kernel_rfl
          · kernel_rfl
          · exact fun _ _ _ h => h
          · first | (refine Or.inl ⟨by rfl, ?_⟩; intro w hSw; (try dsimp only at hSw); go_simp; try with_reducible rfl) | (refine Or.inr ⟨by rfl, ?_⟩; rfl)
          · assumption
          try simp only [Act.put, List.setIfInBounds_toArray, List.set_cons_zero, List.set_cons_succ]
          try simp only [F0.out, F1.out, F2.out]
          refine wpAnyH_take (i := 26) (oi := ?_) (v := ?_) ?_ ?_ ?_ ?_ ?_ ?_ ?_ ?_
          rotate_left 2
          · (simp only [List.getElem?_toArray, List.getElem?_cons_succ, List.getElem?_cons_zero]; exact rfl)
          · kernel_rfl
          · kernel_rfl
          · kernel_rfl
          · exact fun _ _ _ h => h
          · first | (refine Or.inl ⟨by rfl, ?_⟩; intro w hSw; (try dsimp only at hSw); go_simp; try with_reducible rfl) | (refine Or.inr ⟨by rfl, ?_⟩; rfl)
          · assumption
          try simp only [Act.put, List.setIfInBounds_toArray, List.set_cons_zero, List.set_cons_succ]
          try simp only [F0.out, F1.out, F2.out]
          refine wpAnyH_done (by kernel_rfl) ?_ _
          have HX := Lib.hid hx
          clear hx
          go_wp2_with fail
          have pp : List.Perm [(g, Obj.cells #[.slice B m' d, .int .i64 z'] 90 (0, 0)), (k, Obj.cells #[.slice B' m' d', .int .i64 z'] 51 (0, 0)), (n7, Obj.cells x.cells 26 (0, 0)), (n5, Obj.cells x.cells 26 (0, 0))] ([(n7, Obj.cells x.cells 26 (0, 0)), (n5, Obj.cells x.cells 26 (0, 0))] ++ [(g, Obj.cells #[.slice B m' d, .int .i64 z'] 90 (0, 0)), (k, Obj.cells #[.slice B' m' d', .int .i64 z'] 51 (0, 0))]) := List.perm_append_comm (l₁ := [(g, Obj.cells #[.slice B m' d, .int .i64 z'] 90 (0, 0)), (k, Obj.cells #[.slice B' m' d', .int .i64 z'] 51 (0, 0))]) (l₂ := [(n7, Obj.cells x.cells 26 (0, 0)), (n5, Obj.cells x.cells 26 (0, 0))])
          have h8 := HX.out.perm pp
          refine ⟨⟨j + 1, s', by go_num, by omega, B, m', d, z', B', m', d', z', HQ.out, HQ'.out, St.weaken h8⟩, by simp [intOf]; omega⟩
        exact AllReadyH.nil
      exact AllReadyH.nil
    · obtain rfl : j = 3 := by omega
      obtain ⟨A, n, c, e, A', n', c', e', hr, hr', hst⟩ := hT
      have HF : Hid (Below W.heap.size W wr) := Lib.hid (hst.below (Le.refl _))
      clear hst hr hr'
      go_wp2_with fail
      go_ret
      exact ⟨rfl, HF.out⟩
end Go.Proofs.YtpjfmgifddoppaaDoor
