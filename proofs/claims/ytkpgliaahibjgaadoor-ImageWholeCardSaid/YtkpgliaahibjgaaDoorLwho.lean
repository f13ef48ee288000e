/- ImageWhole: the walk of the law. -/
import Derived.Test.YtkpgliaahibjgaaDoorLtak
namespace Go.Proofs.YtkpgliaahibjgaaDoor
set_option linter.unusedVariables false
set_option linter.unusedSimpArgs false
open Go.RowKit Go.Lib

section
variable {W w : World} {J : Nat → Option Obj} {s g want : Nat} {m : Man} {bs : List UInt8} {L0 X : List (Nat × Obj)}
/-- What lies beside a stream comes ahead. -/
theorem strm_row {f : FuncId} {args : Array Value} {v : Value} (hf : ∀ F, St W w J (L0 ++ F) → Calls Tryd.prog f args w fun e w' => e = .returned v ∧ St W w' J (L0 ++ F)) (h : Strm W w J s g m bs want (L0 ++ X)) :
    Calls Tryd.prog f args w fun e w' => e = .returned v ∧ Strm W w' J s g m bs want (L0 ++ X) := by
  obtain ⟨G, hb, hst⟩ := h
  have h1 := St.swap (A := G ++ [(s, Obj.cells (sCells m g want) 71 (0, 0))]) (B := L0) (F := X) (by simpa using hst)
  refine (hf _ h1).mono fun e w' ⟨he, h'⟩ => ⟨he, G, hb, ?_⟩
  have h2 := St.swap (A := L0) (B := G ++ [(s, Obj.cells (sCells m g want) 71 (0, 0))]) (F := X) h'
  simpa using h2
/-- How many bytes so many chunks have. -/
theorem span_sum {m : Man} {hs : List (List UInt8)} (hr : rightM m = true) (hn : m.n = hs.length) {want : Nat} {b : List UInt8} {l : Nat} (hw : want < hs.length) (hl : (l : Int) = min (want * m.chunk) m.size) (hb : (b.length : Int) = (spanM m want).2) : ((l + b.length : Nat) : Int) = min (((want + 1 : Nat) : Int) * m.chunk) m.size := by
  obtain ⟨_, _, _, h1, h2, h3, h4, _, h5, h6⟩ := (rightM_iff m).1 hr
  obtain ⟨t1, t2, t3⟩ := cntM_span m.size m.chunk h1 (by omega)
  rw [← h5] at t1 t2 t3
  rw [spanM_yes hr (by omega) (by omega)] at hb
  simp only at hb
  have p1 : (want : Int) * m.chunk ≤ ((m.n : Int) - 1) * m.chunk := Int.mul_le_mul_of_nonneg_right (by omega) (by omega)
  have p2 : (((want + 1 : Nat) : Int)) * m.chunk = want * m.chunk + m.chunk := by
    rw [show (((want + 1 : Nat) : Int)) = (want : Int) + 1 by omega, Int.add_mul, Int.one_mul]
  rw [p2]
  generalize (want : Int) * m.chunk = P at *
  omega
theorem span_all {m : Man} (hr : rightM m = true) : min ((m.n : Int) * m.chunk) m.size = m.size := by
  obtain ⟨_, _, _, h1, h2, h3, h4, _, h5, h6⟩ := (rightM_iff m).1 hr
  obtain ⟨t1, t2, t3⟩ := cntM_span m.size m.chunk h1 (by omega)
  rw [← h5] at t1 t2 t3
  omega
theorem takeErr_zero {m : Man} {hs : List (List UInt8)} {want : Nat} {i : Int} {b : List UInt8} (hn : m.n = hs.length) (hw : want ≤ hs.length) (h : takeErr m hs want i b = 0) : i = (want : Int) ∧ want < hs.length ∧ (b.length : Int) = (spanM m want).2 ∧ hs[want]? = some (hashOf b) := by
  unfold takeErr at h
  by_cases h1 : (want : Int) = m.n ∨ i ≠ want
  · rw [if_pos h1] at h; omega
  · rw [if_neg h1] at h
    have hi : i = (want : Int) := by omega
    have hlt : want < hs.length := by omega
    subst hi
    by_cases h2 : (b.length : Int) ≠ (spanM m want).2 ∨ hashOf b ≠ hs.getD want []
    · rw [if_pos h2] at h; omega
    · refine ⟨rfl, hlt, by omega, ?_⟩
      have h3 : hashOf b = hs.getD want [] := Classical.byContradiction fun h3 => h2 (.inr h3)
      rw [h3, List.getD_eq_getElem?_getD, List.getElem?_eq_getElem hlt]
      rfl
end

set_option maxRecDepth 100000 in
set_option maxHeartbeats 8000000 in
theorem walk_imageWhole (W : World) (tabs : Tabs W) {H : Type} {enc : TypeId × Value → H} {v0 v1 : Value} (a0 : Arg enc Tryd.prog W 34 v0) (a1 : Arg enc Tryd.prog W 35 v1) :
    Calls Tryd.prog 5 #[v0, v1] W fun e w' => e = .returned (.bool true) ∧ Below W.heap.size W w' := by
  obtain ⟨m, hs, rfl, hm⟩ := a0.manifest
  obtain ⟨CA, cc, ks, rfl, hks⟩ := a1.chunks
  have ok := hm.ok
  have hn := hm.n
  have t := TB.start tabs
  have h0 := (St.start W).alloc (.cells m.cells 34)
  have kA := image_alive t h0
  have kG := fun (v : World) (hv : St W v (fun b => W.heap[b]?) [(W.heap.size, .cells m.cells 34 (0, 0))]) => great_any m ok hv
  have hmi : (Tryd.prog.info? 34).map (·.size) = some m.cells.size := by rw [Man.cells_size ok]; kernel_rfl
  have hval : m.val = .agg m.cells := rfl
  rw [hval] at kG ⊢
  generalize hb2 : W.heap.size = b2 at *
  have KA := Lib.hid kA; have KG := Lib.hid kG; have HMI := Lib.hid hmi; have HM := Lib.hid hm; have HKS := Lib.hid hks; have OK := Lib.hid ok; have HN := Lib.hid hn; have TT := Lib.hid t; have HB2 := Lib.hid hb2
  clear kA kG hmi a0 a1 tabs t h0 hm hks ok hn hval
  go_enter Tryd.func5, Tryd.ntmps5
  go_wp2_with fail
  clear hb2
  refine KA.out.mono ?_
  rintro e w1 ⟨rfl, h1⟩
  have H1 := Lib.hid h1
  clear KA h1
  go_wp2_with (with_reducible refine wpList_load_st rfl 34 (.tmp 2) rfl (g := b2) (off := 0) rfl H1.out (List.mem_cons_self ..) m.cells (fun j hj => by rw [Nat.zero_add]) _ Tryd.underlying34 rfl HMI.out ?_)
  refine (KG.out _ H1.out).mono ?_
  rintro e w2 ⟨rfl, h2⟩
  obtain ⟨G, hG⟩ : ∃ G, (decide (300 < m.prod.size) || decide (100 < m.n)) = G := ⟨_, rfl⟩
  rw [hG]
  cases G with
  | true =>
    have hfin := h2.below (Le.refl _)
    rw [HB2.out] at hfin
    have HF := Lib.hid hfin
    clear h2 H1 KG hfin hG
    go_wp2_with fail
    go_ret
    exact ⟨rfl, HF.out⟩
  | false =>
    have hsz : m.prod.size ≤ 300 ∧ m.n ≤ 100 := by
      simp only [Bool.or_eq_false_iff, decide_eq_false_iff_not] at hG
      omega
    clear hG
    by_cases h60 : (60 : Int) < ks.length
    · have hfin := h2.below (Le.refl _)
      rw [HB2.out] at hfin
      have HF := Lib.hid hfin
      clear h2 H1 KG hfin
      go_wp2_with fail
      go_ret
      exact ⟨rfl, HF.out⟩
    have hkl : (ks.length : Int) ≤ 60 := by omega
    have h60d : decide ((60 : Int) < ks.length) = false := decide_eq_false h60
    obtain ⟨R, hR⟩ : ∃ R, rightM m = R := ⟨_, rfl⟩
    have kR := rright13 TT.out m OK.out (by omega) h2
    rw [hR, show m.val = .agg m.cells from rfl] at kR
    have H2 := Lib.hid h2; have KR := Lib.hid kR; have HR := Lib.hid hR
    clear h2 kR H1 KG h60 hR
    go_wp2_with (refine wpList_load_g (by rfl) 34 (.tmp 2) rfl (g := b2) (off := 0) rfl H2.out (cs := m.cells) (t := 34) (fr := (0, 0)) (by simp) m.cells (fun j hj => by rw [Nat.zero_add]) _ Tryd.underlying34 rfl HMI.out ?_)
    refine KR.out.mono ?_
    rintro e w3 ⟨rfl, h3⟩
    clear KR H2
    cases R with
    | false =>
      have hfin := h3.below (Le.refl _)
      rw [HB2.out] at hfin
      have HF := Lib.hid hfin
      clear h3 hfin
      go_wp2_with fail
      go_ret
      exact ⟨rfl, HF.out⟩
    | true =>
      have kN := inew TT.out m OK.out hs HN.out HM.out.hs (by omega) (by have := HN.out; omega) h3
      rw [show m.val = .agg m.cells from rfl] at kN
      have H3 := Lib.hid h3; have KN := Lib.hid kN
      clear h3 kN
      go_wp2_with (with_reducible refine wpList_load_st rfl 34 (.tmp 2) rfl (g := b2) (off := 0) rfl H3.out (List.mem_cons_self ..) m.cells (fun j hj => by rw [Nat.zero_add]) _ Tryd.underlying34 rfl HMI.out ?_)
      refine KN.out.mono ?_
      rintro e w4 ⟨hyes, -⟩
      obtain ⟨J, A', c', s, g, hle, rfl, hh, h4⟩ := hyes HR.out
      have hmo : ({ m with A := A', n := hs.length, c := c' } : Man) = m.at_ hs A' c' := rfl
      rw [hmo] at h4
      have h5 := Digs.alloc h4 (.cells #[] 5)
      have H5 := Lib.hid h5; have HLE := Lib.hid hle; have HH := Lib.hid hh
      clear hyes h4 hle hh hmo KN H3 h5
      generalize hr : w4.heap.size = r at *
      go_wp2_with fail
      have h6 : Strm W (w4.alloc (.cells #[] 5)) J s g (m.at_ hs A' c') [] 0 ([(r, .cells #[] 5 (0, 0))] ++ [(b2, .cells m.cells 34 (0, 0))]) := Digs.permF H5.out (List.Perm.swap _ _ _)
      have H6 := Lib.hid h6; have HR0 := Lib.hid (Row.empty 5 1 r)
      clear h6 H5 hr
      go_loopw [7, 8, 40] (fun a mn i wr => ∃ (k wo : Nat) (bo : List UInt8) (A : Option Addr) (c : Nat) (L0 : List (Nat × Obj)), a = .slice A bo.length c ∧ mn = .int .i64 wo ∧ i = .int .i64 k ∧ k ≤ ks.length ∧ wo ≤ hs.length ∧ bo.length ≤ k * 1500 ∧ (bo.length : Int) = min (wo * m.chunk) m.size ∧ Row 5 1 (.slice A bo.length c) bo.length (bo.map bval) L0 ∧ Strm W wr J s g (m.at_ hs A' c') bo wo (L0 ++ [(b2, Obj.cells m.cells 34 (0, 0))])) (fun _ _ i _ => ks.length - (intOf i).toNat)
      case atStart =>
        have hms : 1 ≤ m.size := ((rightM_iff m).1 HR.out).2.2.2.1
        exact ⟨0, 0, [], _, 0, _, rfl, rfl, rfl, by omega, by omega, by simp, by simp; omega, HR0.out, H6.out⟩
      case round =>
        obtain ⟨k, wo, bo, A, c, L0, rfl, rfl, rfl, hk, hwo, hbo, hbm, hrow, hst⟩ := hrel
        clear H6 HR0
        have hhn : hs.length ≤ 100 := by have := HN.out; omega
        have okA := Man.at_ok (A := A') (c := c') OK.out HN.out
        have hmn : (((m.at_ hs A' c').n : Nat) : Int) = (m.n : Int) := by rw [HN.out]; rfl
        by_cases hkl' : k < ks.length
        · obtain ⟨x, hx⟩ : ∃ x, ks[k]? = some x := ⟨_, List.getElem?_eq_getElem hkl'⟩
          obtain ⟨b, off, rfl, q0, q1, hpi, i0, i1⟩ := HKS.out.at_ k x hx
          obtain ⟨xi, p⟩ := x
          simp only at q0 q1 hpi i0 i1
          have d0 := (Strm.frame1 hst).ro (roCell_mono HLE.out q0)
          have d1 := (Strm.frame1 hst).ro (roCell_mono HLE.out q1)
          have hal0 := Digs.alloc hst (.cells #[.int .i64 xi, .slice p.A p.bs.length p.c] 45)
          generalize hb9 : wr.heap.size = b9 at *
          obtain ⟨X9, hX9⟩ : ∃ X9, ((b9, Obj.cells #[.int .i64 xi, .slice p.A p.bs.length p.c] 45 (0, 0)) :: [(b2, Obj.cells m.cells 34 (0, 0))]) = X9 := ⟨_, rfl⟩
          have hal : Strm W (wr.alloc (.cells #[.int .i64 xi, .slice p.A p.bs.length p.c] 45)) J s g (m.at_ hs A' c') bo wo (L0 ++ X9) := by
            rw [← hX9]
            refine Digs.permF hal0 ?_
            have h3 := (List.perm_middle (a := (b9, Obj.cells #[.int .i64 xi, .slice p.A p.bs.length p.c] 45 (0, 0))) (l₁ := (s, Obj.cells (sCells (m.at_ hs A' c') g wo) 71 (0, 0)) :: L0) (l₂ := [(b2, Obj.cells m.cells 34 (0, 0))])).symm
            simpa using h3
          clear hal0
          have bf : ∀ v bo wo (L0 : List (Nat × Obj)), Strm W v J s g (m.at_ hs A' c') bo wo (L0 ++ X9) → v.cell? ⟨b9, 0, none⟩ = some (.int .i64 xi) ∧ v.cell? ⟨b9, 1, none⟩ = some (.slice p.A p.bs.length p.c) ∧ v.cell? ⟨b2, 36, none⟩ = some (.slice m.A m.n m.c) := fun v bo wo L0 h => by
            have h9 := h.frame1
            rw [← hX9] at h9
            exact ⟨h9.cell (g := b9) (cs := #[.int .i64 xi, .slice p.A p.bs.length p.c]) (t := 45) (fr := (0, 0)) (by simp) 0, h9.cell (g := b9) (cs := #[.int .i64 xi, .slice p.A p.bs.length p.c]) (t := 45) (fr := (0, 0)) (by simp) 1, (h9.cell (g := b2) (cs := m.cells) (t := 34) (fr := (0, 0)) (by simp) 36).trans (Man.g36 OK.out)⟩
          have back : ∀ v bo wo (L0 : List (Nat × Obj)), Strm W v J s g (m.at_ hs A' c') bo wo (L0 ++ X9) → Strm W v J s g (m.at_ hs A' c') bo wo (L0 ++ [(b2, .cells m.cells 34 (0, 0))]) := fun v bo wo L0 h => by
            rw [← hX9] at h
            have h3 := Digs.mid (A := (s, Obj.cells (sCells (m.at_ hs A' c') g wo) 71 (0, 0)) :: L0) (B := [(b9, _)]) (F := [(b2, Obj.cells m.cells 34 (0, 0))]) (by simpa [Strm] using h)
            simpa [Strm] using h3
          by_cases hbig : (1500 : Int) < p.bs.length
          · have hfin := ((Strm.frame1 hal).less HLE.out).below (Le.refl _)
            have HF := Lib.hid hfin
            clear hfin hal hst bf back hX9
            go_wp2_with fail
            go_ret
            exact ⟨rfl, by rw [← HB2.out]; exact HF.out⟩
          have hpl : (p.bs.length : Int) ≤ 1500 := by omega
          have hin : p.In W J := hpi.1.mono HLE.out
          obtain ⟨te, hte⟩ : ∃ te, takeErr m hs wo xi p.bs = te := ⟨_, rfl⟩
          have hbo2 : bo.length ≤ 90000 := by omega
          have htk := Man.at_take (A := A') (c := c') HN.out wo xi p.bs
          rw [hte] at htk
          have kT := itake (TT.out.more HLE.out) okA hs rfl HH.out (by show m.prod.size ≤ _; omega) (by omega) hwo (by omega) xi i0 i1 p hin (by omega) hal
          by_cases h0 : te = 0
          · subst h0
            obtain ⟨z1, z2, z3, z4⟩ := takeErr_zero HN.out hwo hte
            have z5 := span_sum HR.out HN.out z2 hbm z3
            have kT0 : Calls Tryd.prog 15 #[.pointer (some ⟨s, 0, none⟩), .int .i64 xi, .slice p.A p.bs.length p.c] (wr.alloc (.cells #[.int .i64 xi, .slice p.A p.bs.length p.c] 45)) fun e w' => e = .returned (.int .i64 0) ∧ Strm W w' J s g (m.at_ hs A' c') (bo ++ p.bs) (wo + 1) (L0 ++ X9) := kT.mono fun e w' ⟨h1, h2⟩ => by
              rw [htk] at h1 h2
              exact ⟨h1, by simpa using h2⟩
            obtain ⟨b0, o0, hA0, hrg⟩ := (HM.out.hs.mono HLE.out).range (Strm.frame1 hal) z4
            have hx : ∀ v, (∃ y : CW (fun v => Strm W v J s g (m.at_ hs A' c') (bo ++ p.bs) (wo + 1) (L0 ++ X9)), v = y.w) → v.rangeAt b0 (o0 + wo * 32) (HV p.bs).toList := by rintro _ ⟨y, rfl⟩; simpa [HV, bcells] using hrg _ _ (Strm.frame1 y.ok)
            have E1 := eq_HV p.bs
            have ix : (Tryd.prog.info? 31).map (·.size) = some (HV p.bs).size := by rw [HV, bcells_size, hashOf_len]; kernel_rfl
            have ks' : ∀ y : CW (fun v => Strm W v J s g (m.at_ hs A' c') (bo ++ p.bs) (wo + 1) (L0 ++ X9)), Calls Tryd.prog 23 #[.slice p.A p.bs.length p.c] y.w fun e w' => e = .returned (.agg (HV p.bs)) ∧ ∃ z : CW (fun v => Strm W v J s g (m.at_ hs A' c') (bo ++ p.bs) (wo + 1) (L0 ++ X9)), w' = z.w := fun y => (strm_lift (fun L hL => refsum p hin (by omega) hL) y.ok).mono fun e w' ⟨h1, h2⟩ => ⟨h1, ⟨_, h2⟩, rfl⟩
            rw [hA0] at bf
            have y0 : ∀ y : CW (fun v => Strm W v J s g (m.at_ hs A' c') (bo ++ p.bs) (wo + 1) (L0 ++ X9)), y.w.cell? ⟨b9, 0, none⟩ = some (.int .i64 wo) := fun y => by rw [← z1]; exact (bf _ _ _ _ y.ok).1
            have y1 : ∀ y : CW (fun v => Strm W v J s g (m.at_ hs A' c') (bo ++ p.bs) (wo + 1) (L0 ++ X9)), y.w.cell? ⟨b9, 1, none⟩ = some (.slice p.A p.bs.length p.c) := fun y => (bf _ _ _ _ y.ok).2.1
            have y2 : ∀ y : CW (fun v => Strm W v J s g (m.at_ hs A' c') (bo ++ p.bs) (wo + 1) (L0 ++ X9)), y.w.cell? ⟨b2, 36, none⟩ = some (.slice (some ⟨b0, o0, none⟩) m.n m.c) := fun y => (bf _ _ _ _ y.ok).2.2
            have hwn : (wo : Int) < (m.n : Int) := by rw [HN.out]; omega
            have hwl : (wo : Int) ≤ 100 := by omega
            have hgq : decide ((m.n : Int) ≤ (wo : Int)) = false := decide_eq_false (by omega)
            have hgq2 : decide ((wo : Int) < (m.n : Int)) = true := decide_eq_true (by omega)
            have hgq3 : ¬ ((m.n : Int) ≤ (wo : Int)) := by omega
            have hgq4 : ¬ (m.n ≤ wo) := by omega
            have hgq5 : wo < m.n := by omega
            have hone : ∀ u ∈ p.bs.map bval, u.oneCell' = true := by intro u hu; obtain ⟨b, _, rfl⟩ := List.mem_map.1 hu; rfl
            have KT := Lib.hid kT0; have HX := Lib.hid hx; have IX := Lib.hid ix; have KS := Lib.hid ks'; have Y0 := Lib.hid y0; have Y1 := Lib.hid y1; have Y2 := Lib.hid y2; have BF := Lib.hid bf; have BACK := Lib.hid back; have HZ5 := Lib.hid z5; have HIN := Lib.hid hin; have HONE := Lib.hid hone; have HROW := Lib.hid hrow
            have HWO := Lib.hid z2; have HBO := Lib.hid hbo
            clear kT kT0 hx ix ks' y0 y1 y2 bf back z5 hin hone hrow hal hst hX9 hA0 hrg z4 z3 z2 htk hte hpi q0 q1 hbm hmn okA hbig hbo
            subst z1
            go_wp2_with fail
            refine KT.out.mono ?_
            rintro e w5 ⟨rfl, h7⟩
            have HDW := Lib.hid (h7.drew 1)
            have hne : Nonempty (CW (fun v => Strm W v J s g (m.at_ hs A' c') (bo ++ p.bs) (wo + 1) (L0 ++ X9))) := ⟨⟨_, HDW.out⟩⟩
            have y0 := Y0.out; have y1 := Y1.out; have y2 := Y2.out
            clear h7 KT d0 d1 hb9
            go_wp2_with fail
            refine wp_region_cw (fun v => Strm W v J s g (m.at_ hs A' c') (bo ++ p.bs) (wo + 1) (L0 ++ X9)) HDW.out (by kernel_rfl) (by kernel_rfl) ?_
            repeat (first
              | (go_big_quiet_want; refine quiet_load_rowK 31 (.tmp 75) rfl (b := b0) (off := o0 + wo * 32) rfl (HV p.bs) _ HX.out Tryd.underlying31 rfl IX.out ?_; simp only [Act.put, List.setIfInBounds_toArray, List.set_cons_zero, List.set_cons_succ]; go_big_quiet_on)
              | go_big_quiet_step ((go_at_call 23; (with_reducible refine (KS.out _).mono ?_); exact fun e w'' h => h)))
            refine wpQuiet_nil ?_
            rintro _ ⟨y, rfl⟩
            have hfin := y.ok
            generalize y.w = wx at *
            obtain ⟨e0, e1, e2⟩ := BF.out _ _ _ _ hfin
            obtain ⟨G, hG, hst2⟩ := hfin
            have hst3 := St.swap (A := G ++ [(s, Obj.cells (sCells (m.at_ hs A' c') g (wo + 1)) 71 (0, 0))]) (B := L0) (F := X9) (by simpa using hst2)
            have hsrc := HIN.out _ _ hst3
            have HST3 := Lib.hid hst3; have HSRC := Lib.hid hsrc; have HG := Lib.hid hG
            clear hst2 hst3 hsrc hG y0 y1 y2 Y0 Y1 Y2 hne HX KS HDW E1
            (try simp only [Bool.not_true])
            go_wp2_with (at_builtin; refine Hid.out ?_)
            refine Lib.hid ?_
            refine wpList_append_row (F := (G ++ [(s, Obj.cells (sCells (m.at_ hs A' c') g (wo + 1)) 71 (0, 0))]) ++ X9) (L := L0) rfl (.tmp 79) (.tmp 81) 22 rfl 5 (.int .u8 0) 1 1 Tryd.underlying22 (by kernel_rfl) rfl (by omega) rfl HROW.out HST3.out rfl HSRC.out HONE.out (bo.length + p.bs.length) rfl (bo.map bval ++ p.bs.map bval) rfl (by unfold maxLen; omega) (by omega) ?_
            intro A6 c6 w6 L6 hr6 h6
            have h8 : Strm W w6 J s g (m.at_ hs A' c') (bo ++ p.bs) (wo + 1) (L6 ++ X9) := ⟨G, HG.out, by
              have h9 := St.swap (A := L6) (B := G ++ [(s, Obj.cells (sCells (m.at_ hs A' c') g (wo + 1)) 71 (0, 0))]) (F := X9) h6
              simpa using h9⟩
            have H8 := Lib.hid (BACK.out _ _ _ _ h8); have HR6 := Lib.hid hr6
            clear h6 h8 hr6 HST3 HSRC e0 e1 e2
            go_wp2_with fail
            refine ⟨⟨k + 1, wo + 1, bo ++ p.bs, A6, c6, L6, by rw [List.length_append], rfl, by go_num, by omega, HWO.out, ?_, ?_, ?_, H8.out⟩, ?_⟩
            · have := HBO.out
              rw [List.length_append]; omega
            · rw [List.length_append]; exact HZ5.out
            · rw [List.length_append, List.map_append]; exact HR6.out
            · simp [intOf]; omega
          · have hte0 : ((te : Int) == 0) = false := beq_eq_false_iff_ne.2 h0
            have kT0 : Calls Tryd.prog 15 #[.pointer (some ⟨s, 0, none⟩), .int .i64 xi, .slice p.A p.bs.length p.c] (wr.alloc (.cells #[.int .i64 xi, .slice p.A p.bs.length p.c] 45)) fun e w' => e = .returned (.int .i64 te) ∧ Strm W w' J s g (m.at_ hs A' c') bo wo (L0 ++ X9) := kT.mono fun e w' ⟨h1, h2⟩ => by
              rw [htk] at h1 h2
              rw [if_neg h0] at h2
              exact ⟨h1, h2⟩
            have KT := Lib.hid kT0; have BACK := Lib.hid back; have HROW := Lib.hid hrow; have HBM := Lib.hid hbm; have HBO := Lib.hid hbo
            clear kT kT0 bf back hrow hal hst hX9 htk hte hpi q0 q1 hbm hmn okA hbig hin hx h0 hbo
            go_wp2_with fail
            refine KT.out.mono ?_
            rintro e w5 ⟨rfl, h7⟩
            have H7 := Lib.hid (BACK.out _ _ _ _ h7)
            clear h7 KT d0 d1 hb9
            go_wp2_with fail
            refine ⟨⟨k + 1, wo, bo, A, c, L0, rfl, rfl, by go_num, by omega, hwo, by have := HBO.out; omega, HBM.out, HROW.out, H7.out⟩, ?_⟩
            simp [intOf]; omega
        · obtain rfl : k = ks.length := by omega
          obtain ⟨D, hD⟩ : ∃ D, ((wo : Int) == (m.n : Int)) = D := ⟨_, rfl⟩
          obtain ⟨E, hE⟩ : ∃ E, (hashOf bo == m.dig) = E := ⟨_, rfl⟩
          have hbo2 : bo.length ≤ 90000 := by omega
          have kW : ∀ y : CW (fun v => Strm W v J s g (m.at_ hs A' c') bo wo (L0 ++ [(b2, Obj.cells m.cells 34 (0, 0))])), Calls Tryd.prog 17 #[.pointer (some ⟨s, 0, none⟩)] y.w fun e w' => e = .returned (.int .i64 wo) ∧ ∃ z : CW (fun v => Strm W v J s g (m.at_ hs A' c') bo wo (L0 ++ [(b2, Obj.cells m.cells 34 (0, 0))])), w' = z.w := fun y => (iwant okA y.ok).mono fun e w' ⟨h1, h2⟩ => ⟨h1, y, h2.symm⟩
          have kD : ∀ y : CW (fun v => Strm W v J s g (m.at_ hs A' c') bo wo (L0 ++ [(b2, Obj.cells m.cells 34 (0, 0))])), Calls Tryd.prog 18 #[.pointer (some ⟨s, 0, none⟩)] y.w fun e w' => e = .returned (.bool D) ∧ ∃ z : CW (fun v => Strm W v J s g (m.at_ hs A' c') bo wo (L0 ++ [(b2, Obj.cells m.cells 34 (0, 0))])), w' = z.w := fun y => (idone okA y.ok).mono fun e w' ⟨h1, kk, h2⟩ => ⟨by rw [h1, hmn, hD], ⟨_, y.ok.drew kk⟩, h2⟩
          have kL : ∀ y : CW (fun v => Strm W v J s g (m.at_ hs A' c') bo wo (L0 ++ [(b2, Obj.cells m.cells 34 (0, 0))])), Calls Tryd.prog 22 #[.pointer (some ⟨s, 0, none⟩)] y.w fun e w' => e = .returned (.int .i64 bo.length) ∧ ∃ z : CW (fun v => Strm W v J s g (m.at_ hs A' c') bo wo (L0 ++ [(b2, Obj.cells m.cells 34 (0, 0))])), w' = z.w := fun y => (ilen okA (by omega) y.ok).mono fun e w' ⟨h1, h2⟩ => ⟨h1, y, h2.symm⟩
          have kWh : ∀ y : CW (fun v => Strm W v J s g (m.at_ hs A' c') bo wo (L0 ++ [(b2, Obj.cells m.cells 34 (0, 0))])), Calls Tryd.prog 20 #[.pointer (some ⟨s, 0, none⟩)] y.w fun e w' => e = .returned (.bool (D && E)) ∧ ∃ z : CW (fun v => Strm W v J s g (m.at_ hs A' c') bo wo (L0 ++ [(b2, Obj.cells m.cells 34 (0, 0))])), w' = z.w := fun y => (iwhole okA (by omega) y.ok).mono fun e w' ⟨h1, h2⟩ => ⟨by rw [h1, hmn, hD, ← hE]; rfl, ⟨_, h2⟩, rfl⟩
          have kS : ∀ y : CW (fun v => Strm W v J s g (m.at_ hs A' c') bo wo (L0 ++ [(b2, Obj.cells m.cells 34 (0, 0))])), Calls Tryd.prog 23 #[.slice A bo.length c] y.w fun e w' => e = .returned (.agg (HV bo)) ∧ ∃ z : CW (fun v => Strm W v J s g (m.at_ hs A' c') bo wo (L0 ++ [(b2, Obj.cells m.cells 34 (0, 0))])), w' = z.w := fun y => (strm_row (fun F hF => refsum_row hrow (by omega) hF) y.ok).mono fun e w' ⟨h1, h2⟩ => ⟨h1, ⟨_, h2⟩, rfl⟩
          have hb2c : ∀ y : CW (fun v => Strm W v J s g (m.at_ hs A' c') bo wo (L0 ++ [(b2, Obj.cells m.cells 34 (0, 0))])), ∀ i, y.w.cell? ⟨b2, i, none⟩ = m.cells[i]? := fun y i => y.ok.frame1.cell (g := b2) (cs := m.cells) (t := 34) (fr := (0, 0)) (by simp) i
          have y36 : ∀ y : CW (fun v => Strm W v J s g (m.at_ hs A' c') bo wo (L0 ++ [(b2, Obj.cells m.cells 34 (0, 0))])), y.w.cell? ⟨b2, 36, none⟩ = some (.slice m.A m.n m.c) := fun y => (hb2c y 36).trans (Man.g36 OK.out)
          have y2 : ∀ y : CW (fun v => Strm W v J s g (m.at_ hs A' c') bo wo (L0 ++ [(b2, Obj.cells m.cells 34 (0, 0))])), y.w.cell? ⟨b2, 2, none⟩ = some (.int .i64 m.size) := fun y => (hb2c y 2).trans m.g2
          have hx : ∀ v, (∃ y : CW (fun v => Strm W v J s g (m.at_ hs A' c') bo wo (L0 ++ [(b2, Obj.cells m.cells 34 (0, 0))])), v = y.w) → v.rangeAt b2 4 (bcells m.dig).toList := by
            rintro _ ⟨y, rfl⟩
            exact y.ok.frame1.rangeAt (g := b2) (cs := m.cells) (t := 34) (fr := (0, 0)) (by simp) (fun j hj => by
              rw [Array.length_toList, bcells_size, OK.out.dig] at hj
              rw [Man.dig_at m OK.out j hj]
              simp [bcells])
          have E1 : ∀ w, (Op.equalIn 10000 31 (.agg (HV bo)) (.agg (bcells m.dig))).run Tryd.prog w = .ok E w := fun w => by rw [← hE]; exact eq_bcells _ _ (hashOf_len _) OK.out.dig w
          have ix : (Tryd.prog.info? 31).map (·.size) = some (bcells m.dig).size := by rw [bcells_size, OK.out.dig]; kernel_rfl
          have hsz2 : D = true → ((bo.length : Int) == m.size) = true := fun h => by
            rw [h] at hD
            have h1 : (wo : Int) = m.n := by simpa using hD
            rw [h1, span_all HR.out] at hbm
            rw [hbm]
            simp
          have HDW := Lib.hid (Strm.drew1 hst)
          have hne : Nonempty (CW (fun v => Strm W v J s g (m.at_ hs A' c') bo wo (L0 ++ [(b2, Obj.cells m.cells 34 (0, 0))]))) := ⟨⟨_, HDW.out⟩⟩
          have KW := Lib.hid kW; have KD := Lib.hid kD; have KL := Lib.hid kL; have KWH := Lib.hid kWh; have KS := Lib.hid kS; have HX := Lib.hid hx; have IX := Lib.hid ix; have HSZ2 := Lib.hid hsz2; have HD := Lib.hid hD
          clear kW kD kL kWh kS hb2c hx ix hsz2 hE hbm hrow hst okA hmn hbo hD
          cases D
          all_goals cases E
          all_goals
            have hD := HD.out
            go_wp2_with fail
            refine wp_region_cw (fun v => Strm W v J s g (m.at_ hs A' c') bo wo (L0 ++ [(b2, Obj.cells m.cells 34 (0, 0))])) HDW.out (by kernel_rfl) (by kernel_rfl) ?_
            repeat (first
              | go_big_quiet_step ((go_at_call 17; (with_reducible refine (KW.out _).mono ?_); exact fun e w'' h => h))
              | go_big_quiet_step ((go_at_call 18; (with_reducible refine (KD.out _).mono ?_); exact fun e w'' h => h))
              | go_big_quiet_step ((go_at_call 22; (with_reducible refine (KL.out _).mono ?_); exact fun e w'' h => h)))
            refine wpQuiet_nil ?_
            rintro _ ⟨y, rfl⟩
            have HDW2 := Lib.hid (Strm.drew1 y.ok)
            have hsz3 := HSZ2.out
            (try simp only [Bool.false_eq_true, false_implies, true_implies, forall_const] at hsz3)
            go_wp2_with fail
            refine wp_region_cw (fun v => Strm W v J s g (m.at_ hs A' c') bo wo (L0 ++ [(b2, Obj.cells m.cells 34 (0, 0))])) HDW2.out (by kernel_rfl) (by kernel_rfl) ?_
            repeat (first
              | (go_big_quiet_want; refine quiet_load_rowK 31 (.tmp 117) rfl (b := b2) (off := 4) rfl (bcells m.dig) _ HX.out Tryd.underlying31 rfl IX.out ?_; simp only [Act.put, List.setIfInBounds_toArray, List.set_cons_zero, List.set_cons_succ]; go_big_quiet_on)
              | go_big_quiet_step ((go_at_call 20; (with_reducible refine (KWH.out _).mono ?_); exact fun e w'' h => h))
              | go_big_quiet_step ((go_at_call 23; (with_reducible refine (KS.out _).mono ?_); exact fun e w'' h => h))
              | go_big_quiet_step ((go_at_call 18; (with_reducible refine (KD.out _).mono ?_); exact fun e w'' h => h)))
            refine wpQuiet_nil ?_
            rintro _ ⟨z, rfl⟩
            have hfin := ((Strm.frame1 z.ok).less HLE.out).below (Le.refl _)
            have HF := Lib.hid hfin
            clear hfin HX KS KD KWH KW KL E1 HDW HDW2 hne y36 y2
            go_wp2_with fail
            go_ret
            exact ⟨by first | rfl | simp, by have h := HF.out; rw [HB2.out] at h; exact h⟩
end Go.Proofs.YtkpgliaahibjgaaDoor
