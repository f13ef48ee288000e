/- ImageCuts: the walk of the law. -/
import Derived.Test.YtkpgliaahibjgaaDoorCutB
import Derived.Test.YtkpgliaahibjgaaDoorImgV
namespace Go.Proofs.YtkpgliaahibjgaaDoor
set_option linter.unusedVariables false
set_option linter.unusedSimpArgs false
open Go.RowKit Go.Lib

theorem cut_join {m : Man} {bs : List UInt8} (hr : rightM m = true) (hb : (bs.length : Int) = m.size) : ∀ k, k ≤ m.n → ((List.range k).map (cutAt m bs)).flatten = bs.take (min ((k : Int) * m.chunk) m.size).toNat
  | 0, _ => by
    obtain ⟨_, _, _, h1, _⟩ := (rightM_iff m).1 hr
    rw [show (min (((0 : Nat) : Int) * m.chunk) m.size).toNat = 0 by rw [show ((0 : Nat) : Int) * m.chunk = 0 by simp]; omega]
    rfl
  | k + 1, hk => by
    obtain ⟨_, _, _, h1, h2, h3, h4, _, h5, h6⟩ := (rightM_iff m).1 hr
    obtain ⟨t1, t2, t3⟩ := cntM_span m.size m.chunk h1 (by omega)
    rw [← h5] at t1 t2 t3
    rw [List.range_succ, List.map_append, List.flatten_append, cut_join hr hb k (by omega)]
    simp only [List.map_cons, List.map_nil, List.flatten_cons, List.flatten_nil, List.append_nil]
    unfold cutAt
    rw [spanM_yes hr (by omega) (by omega)]
    have p1 : (k : Int) * m.chunk ≤ ((m.n : Int) - 1) * m.chunk := Int.mul_le_mul_of_nonneg_right (by omega) (by omega)
    have p0 : 0 ≤ (k : Int) * m.chunk := Int.mul_nonneg (by omega) (by omega)
    have p2 : (((k + 1 : Nat) : Int)) * m.chunk = k * m.chunk + m.chunk := by
      rw [show (((k + 1 : Nat) : Int)) = (k : Int) + 1 by omega, Int.add_mul, Int.one_mul]
    rw [p2]
    generalize (k : Int) * m.chunk = P at *
    simp only
    rw [show (min P m.size).toNat = P.toNat by omega, show (min (P + m.chunk) m.size).toNat = P.toNat + (min m.chunk (m.size - P)).toNat by omega, List.take_add]
theorem cut_whole {m : Man} {bs : List UInt8} (hr : rightM m = true) (hb : (bs.length : Int) = m.size) : ((List.range m.n).map (cutAt m bs)).flatten = bs := by
  rw [cut_join hr hb m.n (Nat.le_refl _)]
  obtain ⟨_, _, _, h1, h2, h3, h4, _, h5, h6⟩ := (rightM_iff m).1 hr
  obtain ⟨t1, t2, t3⟩ := cntM_span m.size m.chunk h1 (by omega)
  rw [← h5] at t1 t2 t3
  exact List.take_of_length_le (by omega)
theorem cutAt_len {m : Man} {bs : List UInt8} (hr : rightM m = true) (hb : (bs.length : Int) = m.size) (k : Nat) : ((cutAt m bs k).length : Int) = (spanM m k).2 := by
  obtain ⟨r1, r2, r3⟩ := spanM_le hr k
  unfold cutAt
  rw [List.length_take, List.length_drop]
  omega
/-- The pieces so far, as a string. -/
def sAll (l : List UInt8) : ByteArray := ⟨l.toArray⟩
theorem sAll_add (a b : List UInt8) : sAll a ++ sAll b = sAll (a ++ b) := by
  apply ByteArray.ext
  simp [sAll]

set_option maxRecDepth 100000 in
set_option maxHeartbeats 4000000 in
theorem walk_imageCuts (W : World) (tabs : Tabs W) {H : Type} {enc : TypeId × Value → H} {v0 v1 : Value} (a0 : Arg enc Tryd.prog W 34 v0) (a1 : Arg enc Tryd.prog W 22 v1) :
    Calls Tryd.prog 6 #[v0, v1] W fun e w' => e = .returned (.bool true) ∧ Below W.heap.size W w' := by
  obtain ⟨m, hs, rfl, hm⟩ := a0.manifest
  obtain ⟨A, n, c, xs, rfl, rfl, hc, hcm, hin⟩ := a1.bytes Tryd.underlying22 Tryd.underlying5 (by kernel_rfl)
  have ok := hm.ok
  have hn := hm.n
  have t := TB.start tabs
  have h0 := (St.start W).alloc (.cells m.cells 34)
  have kA := image_alive t h0
  have kG := fun (v : World) (hv : St W v (fun b => W.heap[b]?) [(W.heap.size, .cells m.cells 34 (0, 0))]) => great_any m ok hv
  have hmi : (Tryd.prog.info? 34).map (·.size) = some m.cells.size := by rw [Man.cells_size ok]; kernel_rfl
  have hval : m.val = .agg m.cells := rfl
  rw [hval] at kG ⊢
  generalize hb2 : W.heap.size = b2 at *
  have KA := Lib.hid kA; have KG := Lib.hid kG; have HMI := Lib.hid hmi; have HIN := Lib.hid hin; have HC := Lib.hid hc; have OK := Lib.hid ok; have TT := Lib.hid t; have HB2 := Lib.hid hb2
  clear kA kG hmi a0 a1 tabs t h0 hm hin hc ok hn hval hcm
  go_enter Tryd.func6, Tryd.ntmps6
  go_wp2_with fail
  clear hb2
  refine KA.out.mono ?_
  rintro e w1 ⟨rfl, h1⟩
  have H1 := Lib.hid h1
  clear KA h1
  go_wp2_with (with_reducible refine wpList_load_st rfl 34 (.tmp 2) rfl (g := b2) (off := 0) rfl H1.out (List.mem_cons_self ..) m.cells (fun j hj => by rw [Nat.zero_add]) _ Tryd.underlying34 rfl HMI.out ?_)
  refine (KG.out _ H1.out).mono ?_
  rintro e w2 ⟨rfl, h2⟩
  obtain ⟨G, hG⟩ : ∃ G, (decide (300 < m.prod.size) || decide (100 < m.n)) = G := ⟨_, rfl⟩
  rw [hG]
  cases G with
  | true =>
    have hfin := h2.below (Le.refl _)
    rw [HB2.out] at hfin
    have HF := Lib.hid hfin
    clear h2 H1 KG hfin hG
    go_wp2_with fail
    go_ret
    exact ⟨rfl, HF.out⟩
  | false =>
    have hsz : m.prod.size ≤ 300 ∧ m.n ≤ 100 := by
      simp only [Bool.or_eq_false_iff, decide_eq_false_iff_not] at hG
      omega
    clear hG
    by_cases h30 : (3000 : Int) < xs.length
    · have hfin := h2.below (Le.refl _)
      rw [HB2.out] at hfin
      have HF := Lib.hid hfin
      clear h2 H1 KG hfin
      go_wp2_with fail
      go_ret
      exact ⟨rfl, HF.out⟩
    have hkl : (xs.length : Int) ≤ 3000 := by omega
    have h30d : decide ((3000 : Int) < xs.length) = false := decide_eq_false h30
    have kC := icut TT.out m OK.out (by omega) ⟨A, c, xs⟩ HIN.out (by simp only; omega) HC.out h2
    simp only at kC
    have H2 := Lib.hid h2; have KC := Lib.hid kC
    clear h2 kC H1 KG h30
    go_wp2_with (refine wpList_load_g (by rfl) 34 (.tmp 2) rfl (g := b2) (off := 0) rfl H2.out (cs := m.cells) (t := 34) (fr := (0, 0)) (by simp) m.cells (fun j hj => by rw [Nat.zero_add]) _ Tryd.underlying34 rfl HMI.out ?_)
    refine KC.out.mono ?_
    rintro e w3 hpost
    clear KC H2
    obtain ⟨R, hR⟩ : ∃ R, rightM m = R := ⟨_, rfl⟩
    by_cases hRt : R = true
    · subst hRt
      by_cases hms : (xs.length : Int) = m.size
      · obtain ⟨J, A1, c1, L0, qs, hle, rfl, hq, hin, hrow, h3⟩ := hpost.2.2 hR hms
        have tJ := TT.out.more hle
        have kR := rright13 tJ m OK.out (by omega) h3
        rw [hR, show m.val = .agg m.cells from rfl] at kR
        have hwhole := cut_whole hR hms
        have hclen := cutAt_len hR hms
        have hjl : ∀ k, k ≤ m.n → ((List.range k).map (cutAt m xs)).flatten.length ≤ xs.length := fun k hk => by rw [cut_join hR hms k hk, List.length_take]; omega
        have H3 := Lib.hid h3; have KR := Lib.hid kR; have HQ := Lib.hid hq; have HIQ := Lib.hid hin; have HROW := Lib.hid hrow; have HLE := Lib.hid hle; have TJ := Lib.hid tJ; have HWH := Lib.hid hwhole; have HCL := Lib.hid hclen; have HJL := Lib.hid hjl; have HMS := Lib.hid hms
        clear h3 kR hpost hR hq hin hrow hle tJ hwhole hclen hjl hms
        go_wp2_with (refine wpList_load_g (by rfl) 34 (.tmp 2) rfl (g := b2) (off := 0) rfl H3.out (cs := m.cells) (t := 34) (fr := (0, 0)) (by simp) m.cells (fun j hj => by rw [Nat.zero_add]) _ Tryd.underlying34 rfl HMI.out ?_)
        refine KR.out.mono ?_
        rintro e w4 ⟨rfl, h4⟩
        have e2 : w4.cell? ⟨b2, 2, none⟩ = some (.int .i64 xs.length) := ((h4.cell (g := b2) (cs := m.cells) (t := 34) (fr := (0, 0)) (by simp) 2).trans (Man.g2 m)).trans (by rw [HMS.out])
        have e36 : w4.cell? ⟨b2, 36, none⟩ = some (.slice m.A m.n m.c) := (h4.cell (g := b2) (cs := m.cells) (t := 34) (fr := (0, 0)) (by simp) 36).trans (Man.g36 OK.out)
        have H4 := Lib.hid h4
        clear h4 KR H3
        go_wp2_with fail
        clear e2 e36
        go_loopw [7, 61] (fun a i wr => ∃ k : Nat, k ≤ m.n ∧ i = .int .i64 k ∧ a = .string (sAll ((List.range k).map (cutAt m xs)).flatten) ∧ St W wr J (L0 ++ [(b2, .cells m.cells 34 (0, 0))])) (fun _ i _ => m.n - (intOf i).toNat)
        case atStart => exact ⟨0, by omega, rfl, rfl, H4.out⟩
        case round =>
          obtain ⟨k, hk, rfl, rfl, hst⟩ := hrel
          clear H4
          by_cases hkl : k < m.n
          · have hlen : qs.length = m.n := by
              have h9 := congrArg List.length HQ.out
              simpa using h9
            obtain ⟨q, hqk⟩ : ∃ q, qs[k]? = some q := ⟨_, List.getElem?_eq_getElem (by omega)⟩
            have hqb : q.bs = cutAt m xs k := by
              have h9 := congrArg (fun l => l[k]?) HQ.out
              simp only [List.getElem?_map, hqk, List.getElem?_range hkl, Option.map_some] at h9
              injection h9
            have hqv : (qs.map Part.val)[k]? = some q.val := by rw [List.getElem?_map, hqk]; rfl
            obtain ⟨g, off, cap, cur, hv, hL, hcu⟩ := HROW.out.cells hqv
            injection hv with hv hv2 hv3
            have d0 : wr.cell? ⟨g, off + k, none⟩ = some (.slice q.A q.bs.length q.c) := (hst.cell (g := g) (cs := cur) (t := 22) (fr := (0, 0)) (by rw [hL]; simp) (off + k)).trans hcu
            have hqi := HIQ.out q (List.mem_of_getElem? hqk)
            have kS : ∀ v, St W v J (L0 ++ [(b2, .cells m.cells 34 (0, 0))]) → Calls Tryd.prog 25 #[.agg m.cells, .int .i64 k] v (fun e w' => e = .returned (.tuple #[.int .i64 (spanM m k).1, .int .i64 q.bs.length]) ∧ St W w' J (L0 ++ [(b2, .cells m.cells 34 (0, 0))])) := fun v hv => by
              have h9 := rspan TJ.out m OK.out (by omega) k hv
              rw [← HCL.out k, ← hqb] at h9
              exact h9
            obtain ⟨P, hP⟩ : ∃ P, (spanM m k).1 = P := ⟨_, rfl⟩
            rw [hP] at kS
            obtain ⟨sb, hsb⟩ : ∃ sb, sAll q.bs = sb := ⟨_, rfl⟩
            obtain ⟨sa, hsa⟩ : ∃ sa, sAll ((List.range k).map (cutAt m xs)).flatten = sa := ⟨_, rfl⟩
            have hadd : sa ++ sb = sAll ((List.range (k + 1)).map (cutAt m xs)).flatten := by
              rw [← hsa, ← hsb, sAll_add, List.range_succ, List.map_append, List.flatten_append, hqb]
              simp
            have cv : ∀ v, St W v J (L0 ++ [(b2, .cells m.cells 34 (0, 0))]) → (convert 22 9 (.slice q.A q.bs.length q.c)).run Tryd.prog v = .ok (.string sb) v := fun v hv => by
              rw [← hsb]
              exact conv_str (P := Tryd.prog) Tryd.underlying22 Tryd.underlying5 Tryd.underlying9 (c := q.c) (hqi _ _ hv)
            have hcat : sa.size + sb.size ≤ 9223372036854775807 := by
              have h1 := HJL.out k hk
              have h2 : q.bs.length ≤ xs.length := by rw [hqb]; unfold cutAt; rw [List.length_take, List.length_drop]; omega
              rw [← hsa, ← hsb]
              show ((List.range k).map (cutAt m xs)).flatten.toArray.size + q.bs.toArray.size ≤ _
              rw [List.size_toArray, List.size_toArray]
              omega
            have hcat2 : ¬ (9223372036854775807 < sa.size + sb.size) := by omega
            rw [hsa]
            have hki : (k : Int) < (m.n : Int) := by omega
            have HST := Lib.hid hst; have KS := Lib.hid kS; have CV := Lib.hid cv; have HADD := Lib.hid hadd
            clear hst kS cv hadd hsa hsb hP hqi hcu hL hqv hqb hqk hlen hv2 hv3
            subst hv
            go_wp2_with (with_reducible refine wpList_load_st rfl 34 (.tmp 2) rfl (g := b2) (off := 0) rfl HST.out (List.mem_append.2 (.inr (List.mem_cons_self ..))) m.cells (fun j hj => by rw [Nat.zero_add]) _ Tryd.underlying34 rfl HMI.out ?_)
            refine (KS.out _ HST.out).mono ?_
            rintro e w5 ⟨rfl, h5⟩
            have cv5 := CV.out _ h5
            have H5 := Lib.hid h5
            clear h5 KS CV HST d0
            go_wp2_with fail
            go_roundw
            case rel => exact ⟨k + 1, by omega, by go_num, by rw [HADD.out], H5.out⟩
            case measure => simp [intOf]; omega
          · obtain rfl : k = m.n := by omega
            rw [HWH.out]
            have cv : (convert 22 9 (.slice A xs.length c)).run Tryd.prog wr = .ok (.string (sAll xs)) wr := conv_str (P := Tryd.prog) Tryd.underlying22 Tryd.underlying5 Tryd.underlying9 (c := c) ((HIN.out.mono HLE.out) _ _ hst)
            have hfin := (hst.less HLE.out).below (Le.refl _)
            rw [HB2.out] at hfin
            have HF := Lib.hid hfin
            generalize sAll xs = sx at *
            have hbe : ∀ s : ByteArray, (s.toList == s.toList) = true := fun s => by simp
            clear hfin hst
            go_wp2_with fail
            go_ret
            exact ⟨by simp, HF.out⟩
      · obtain ⟨rfl, h3⟩ := hpost.2.1 hR hms
        have kR := rright13 TT.out m OK.out (by omega) h3
        rw [hR, show m.val = .agg m.cells from rfl] at kR
        have H3 := Lib.hid h3; have KR := Lib.hid kR
        clear h3 kR hpost hR
        go_wp2_with (refine wpList_load_g (by rfl) 34 (.tmp 2) rfl (g := b2) (off := 0) rfl H3.out (cs := m.cells) (t := 34) (fr := (0, 0)) (by simp) m.cells (fun j hj => by rw [Nat.zero_add]) _ Tryd.underlying34 rfl HMI.out ?_)
        refine KR.out.mono ?_
        rintro e w4 ⟨rfl, h4⟩
        have e2 : w4.cell? ⟨b2, 2, none⟩ = some (.int .i64 m.size) := (h4.cell (g := b2) (cs := m.cells) (t := 34) (fr := (0, 0)) (by simp) 2).trans (Man.g2 m)
        have hfin := h4.below (Le.refl _)
        rw [HB2.out] at hfin
        have HF := Lib.hid hfin
        clear h4 KR H3 hfin
        go_wp2_with fail
        go_ret
        exact ⟨rfl, HF.out⟩
    · obtain rfl : R = false := by simpa using hRt
      obtain ⟨rfl, h3⟩ := hpost.1 hR
      have kR := rright13 TT.out m OK.out (by omega) h3
      rw [hR, show m.val = .agg m.cells from rfl] at kR
      have H3 := Lib.hid h3; have KR := Lib.hid kR
      clear h3 kR hpost hR hRt
      go_wp2_with (refine wpList_load_g (by rfl) 34 (.tmp 2) rfl (g := b2) (off := 0) rfl H3.out (cs := m.cells) (t := 34) (fr := (0, 0)) (by simp) m.cells (fun j hj => by rw [Nat.zero_add]) _ Tryd.underlying34 rfl HMI.out ?_)
      refine KR.out.mono ?_
      rintro e w4 ⟨rfl, h4⟩
      have hfin := h4.below (Le.refl _)
      rw [HB2.out] at hfin
      have HF := Lib.hid hfin
      clear h4 KR H3 hfin
      go_wp2_with fail
      go_ret
      exact ⟨rfl, HF.out⟩
end Go.Proofs.YtkpgliaahibjgaaDoor
