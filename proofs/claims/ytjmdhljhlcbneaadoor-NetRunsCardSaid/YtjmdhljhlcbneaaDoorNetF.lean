/- NetFaults: the walk of the law. -/
import Derived.Test.YtjmdhljhlcbneaaDoorNetW
namespace Go.Proofs.YtjmdhljhlcbneaaDoor
set_option linter.unusedVariables false
set_option linter.unusedSimpArgs false
open Go.RowKit

theorem fold_other : foldOf ⟨#[111, 116, 104, 101, 114]⟩ = [111, 116, 104, 101, 114] := by kernel_rfl

theorem fall_get : ∀ (fs : List Fault) (j : Nat) (g : Fault), fs[j / 3]? = some g → (fall fs)[j]? = (fcells g)[j % 3]?
  | [], j, g, h => by simp at h
  | f :: fs, j, g, h => by
    by_cases h3 : j < 3
    · have e1 : j / 3 = 0 := by omega
      have e2 : j % 3 = j := by omega
      rw [e1] at h
      simp at h
      subst h
      simp only [fall, List.flatMap_cons]
      rw [List.getElem?_append_left (by simp [fcells]; omega), e2]
    · obtain ⟨q, rfl⟩ : ∃ q, j = q + 3 := ⟨j - 3, by omega⟩
      have e1 : (q + 3) / 3 = q / 3 + 1 := by omega
      have e2 : (q + 3) % 3 = q % 3 := by omega
      rw [e1, List.getElem?_cons_succ] at h
      simp only [fall, List.flatMap_cons]
      rw [List.getElem?_append_right (by simp [fcells]), e2]
      exact fall_get fs q g h

theorem Arg.faults {H : Type} {enc : TypeId × Value → H} {W : World} {v : Value} (a : Arg enc Tryd.prog W 33 v) : ∃ A c fs, v = .slice A fs.length c ∧ FIn A fs W (fun b => W.heap[b]?) ∧ Slc (fun b => W.heap[b]?) 3 (fun cs (f : Fault) => cs = fcells f) A fs.length c fs := by
  haveI : Inhabited Fault := ⟨⟨0, 0, 0⟩⟩
  obtain ⟨A, n, c, fs, rfl, hsl⟩ := a.slice (α := Fault) (Q := fun cs f => cs = fcells f) (size := 3) Tryd.underlying33 (by kernel_rfl) (by omega) (fun cs h => by
    obtain ⟨hl, hf⟩ := h.ones Tryd.underlying36 (by kernel_rfl) (by kernel_rfl)
    obtain ⟨c0, e0, h0⟩ := hf 0 _ rfl
    obtain ⟨c1, e1, h1⟩ := hf 1 _ rfl
    obtain ⟨c2, e2, h2⟩ := hf 2 _ rfl
    obtain ⟨k, hk, _⟩ := Cel.int (t := 3) Tryd.underlying3 h0
    obtain ⟨a, ha, _⟩ := Cel.int (t := 3) Tryd.underlying3 h1
    obtain ⟨u, hu, hw⟩ := Cel.int (t := 5) Tryd.underlying5 h2
    obtain ⟨w0, w1⟩ := wf_u8 hw
    have hl' : cs.length = 3 := hl
    match cs, hl' with
    | [x0, x1, x2], _ =>
      simp at e0 e1 e2 hk ha hu
      refine ⟨⟨k, a, UInt8.ofNat u.toNat⟩, ?_⟩
      have : (((UInt8.ofNat u.toNat).toNat : Nat) : Int) = u := by
        rw [UInt8.toNat_ofNat']; omega
      simp only [fcells]
      rw [this, e0, e1, e2, hk, ha, hu])
  have hn := hsl.len
  subst hn
  refine ⟨A, c, fs, rfl, fun w L hst => ⟨fall_len fs, fun j u hj => ?_⟩, hsl⟩
  have hj3 : j < fs.length * 3 := by have := (List.getElem?_eq_some_iff.1 hj).1; rw [fall_len] at this; exact this
  have hi : j / 3 < fs.length := by omega
  obtain ⟨b, off, cs, h1, h2, h3, h4⟩ := hsl.at_ (j / 3) (fs[j / 3]) (List.getElem?_eq_getElem hi)
  subst h4
  refine ⟨_, h1, ?_⟩
  have h5 := h3 (j % 3) (by omega)
  have hfj := fall_get fs j _ (List.getElem?_eq_getElem hi)
  rw [hfj] at hj
  rw [hj] at h5
  rw [show (⟨b, off, none⟩ : Addr).add j = ⟨b, off + j / 3 * 3 + j % 3, none⟩ by unfold Addr.add; split <;> simp_all <;> omega]
  exact hst.ro h5

def lostIn (fs : List Fault) : Nat := (fs.filter fun f => f.kind == 1).length
theorem lostIn_take (fs : List Fault) (k : Nat) : lostIn (fs.take (k + 1)) = lostIn (fs.take k) + (if (first (fs.drop k)).kind = 1 then 1 else 0) := by
  unfold lostIn
  rw [List.take_add_one]
  cases h : fs[k]? with
  | none =>
    have : fs.drop k = [] := List.drop_eq_nil_of_le (by have := List.getElem?_eq_none_iff.1 h; omega)
    rw [this]
    simp [first]
  | some f =>
    have hl := (List.getElem?_eq_some_iff.1 h).1
    have : first (fs.drop k) = f := by
      unfold first
      rw [List.headD_eq_head?_getD, List.head?_drop, h]
      rfl
    rw [this]
    by_cases hk : f.kind = 1
    · simp [List.filter_append, hk]
    · simp [List.filter_append, hk]
theorem piece_len (bs : List UInt8) (a m : Int) : (piece bs a m).length ≤ bs.length := by
  unfold piece
  split
  · simp
  · rw [List.length_take, List.length_drop]; omega
theorem fetched_len (bs : List UInt8) (f : Fault) (a m : Int) : (fetched bs f a m).1.length ≤ bs.length := by
  have h1 := piece_len bs a m
  have h2 := piece_len bs f.at_ m
  unfold fetched
  repeat' split
  all_goals simp only []
  · simp
  · unfold turned
    split
    · simp
    · rw [List.length_modify]; exact h1
  · rw [List.length_take]; omega
  · exact h2
  · exact h1
theorem fetched_err (bs : List UInt8) (f : Fault) (a m : Int) : (fetched bs f a m).2 = if f.kind = 1 then 181 else 0 := by
  unfold fetched
  by_cases h : f.kind = 1
  · rw [if_pos h, if_pos h]
  · rw [if_neg h, if_neg h]
    repeat' split
    all_goals rfl
theorem piece_all (bs : List UInt8) (h : bs.length ≤ 300) : piece bs 0 300 = bs := by
  unfold piece
  split
  · rename_i hc
    have : bs.length = 0 := by omega
    rw [List.eq_nil_of_length_eq_zero this]
  · exact List.take_of_length_le h
set_option maxRecDepth 100000 in
set_option maxHeartbeats 8000000 in
theorem walk_netFaults (W : World) (tabs : Tabs W) {H : Type} {enc : TypeId × Value → H} {v0 v1 v2 : Value} (a0 : Arg enc Tryd.prog W 22 v0) (a1 : Arg enc Tryd.prog W 33 v1) (a2 : Arg enc Tryd.prog W 3 v2) :
    Calls Tryd.prog 4 #[v0, v1, v2] W fun e w' => e = .returned (.bool true) ∧ Below W.heap.size W w' := by
  obtain ⟨A, n, c, x0, rfl, rfl, q0, m0, in0⟩ := a0.bytes Tryd.underlying22 Tryd.underlying5 (by kernel_rfl)
  obtain ⟨FA, fc, fs, rfl, fin, fsl⟩ := a1.faults
  obtain ⟨tr, rfl, htr⟩ := a2.int Tryd.underlying3
  have t := TB.start tabs
  have h0 := St.start W
  have TT := Lib.hid t; have H0 := Lib.hid h0; have IN0 := Lib.hid in0; have FIN0 := Lib.hid fin; have FSL := Lib.hid fsl
  clear t h0 tabs a0 a1 a2 in0 fin fsl
  unfold maxLen at m0
  go_enter Tryd.func4, Tryd.ntmps4
  go_wp2_with fail
  refine (net_alive TT.out H0.out).mono ?_
  rintro e w ⟨rfl, h⟩
  have hfin := h.below (Le.refl _)
  by_cases g1 : (300 : Int) < x0.length
  · clear h
    go_wp2_with fail
    go_ret
    exact ⟨rfl, hfin⟩
  by_cases g2 : (40 : Int) < fs.length
  · clear h
    go_wp2_with fail
    go_ret
    exact ⟨rfl, hfin⟩
  by_cases g3 : tr < 0
  · clear h
    go_wp2_with fail
    go_ret
    exact ⟨rfl, hfin⟩
  by_cases g4 : (60 : Int) < tr
  · clear h
    go_wp2_with fail
    go_ret
    exact ⟨rfl, hfin⟩
  clear hfin
  obtain ⟨tn, rfl⟩ := Int.eq_ofNat_of_zero_le (by omega : 0 ≤ tr)
  obtain ⟨b7, hb7⟩ : ∃ b7, b7 = w.heap.size := ⟨_, rfl⟩
  have h1 := h.alloc (.cells #[.string ⟨#[99, 111, 114, 101]⟩, .slice A x0.length c] 27)
  rw [← hb7] at h1
  obtain ⟨J1, le1, gg1, s1⟩ := St.freeze h1
  have hpo : POk ⟨A, c, x0⟩ W J1 := ⟨Part.In.mono IN0.out le1, q0, by unfold maxLen; exact m0, by show x0.length ≤ _; omega⟩
  have fin1 : FIn FA fs W J1 := fun w L hst => FIN0.out w L (hst.less le1)
  have cN := net_new (TT.out.more le1) _ 1 [(⟨#[99, 111, 114, 101]⟩, ⟨A, c, x0⟩)] (core_off (w := w) hpo gg1) (by simp) FA fc fs fin1 (by omega) s1
  rw [newOffs_core] at cN
  have CN := Lib.hid cN; have HB7 := Lib.hid hb7; have LE1 := Lib.hid le1
  clear cN hpo fin1 s1 gg1 le1 h1 h H0 htr
  have g3' : ¬ ((tn : Int) < 0) := by omega
  go_wp2_with fail
  rw [← hb7]
  clear hb7
  refine CN.out.mono ?_
  rintro e w1 ⟨J, g, m, es, hleJ, rfl, hN, hof, hes⟩
  obtain ⟨p, rfl, hpb⟩ := one_offer hes
  have hpb : p.bs = x0 := hpb
  have T2 := Lib.hid (TT.out.more (LE1.out.trans hleJ))
  have l1 : lookP [((⟨#[99, 111, 114, 101]⟩ : ByteArray), p)] ⟨(foldOf ⟨#[99, 111, 114, 101]⟩).toArray⟩ = some p := by rw [fold_core]; simp [lookP]
  have l2 : lookP [((⟨#[99, 111, 114, 101]⟩ : ByteArray), p)] ⟨(foldOf ⟨#[111, 116, 104, 101, 114]⟩).toArray⟩ = none := by rw [fold_other]; simp [lookP]
  have cF1 : ∀ (v : World) (gs : List Fault) (cnt : Nat) (F : List (Nat × Obj)), gs.length ≤ 1000000 → cnt ≤ 1000000000 → NetSt W v J g m [((⟨#[99, 111, 114, 101]⟩ : ByteArray), p)] gs cnt F → Calls Tryd.prog 9 #[.pointer (some ⟨g, 0, none⟩), .string ⟨#[99, 111, 114, 101]⟩, .int .i64 0, .int .i64 300] v fun e w' => ∃ u, e = .returned (.tuple #[u, .int .i64 (fetched x0 (first gs) 0 300).2]) ∧ FreshN W w' J g m [((⟨#[99, 111, 114, 101]⟩ : ByteArray), p)] gs.tail (cnt + 1) F (fetched x0 (first gs) 0 300).1 u := fun v gs cnt F hg hc hN => by
    have := net_fetch T2.out hof ⟨#[99, 111, 114, 101]⟩ (by decide) 0 300 hg hc p l1 hN
    rw [hpb] at this
    exact this
  have cF2 : ∀ (v : World) (gs : List Fault) (cnt : Nat) (F : List (Nat × Obj)), NetSt W v J g m [((⟨#[99, 111, 114, 101]⟩ : ByteArray), p)] gs cnt F → Calls Tryd.prog 9 #[.pointer (some ⟨g, 0, none⟩), .string ⟨#[111, 116, 104, 101, 114]⟩, .int .i64 0, .int .i64 1] v fun e w' => e = .returned (.tuple #[.slice none 0 0, .int .i64 182]) ∧ NetSt W w' J g m [((⟨#[99, 111, 114, 101]⟩ : ByteArray), p)] gs cnt F := fun v gs cnt F hN =>
    net_fetch_none T2.out ⟨#[111, 116, 104, 101, 114]⟩ (by decide) 0 1 l2 hN
  have CF1 := Lib.hid cF1; have CF2 := Lib.hid cF2; have HN := Lib.hid hN; have HLE := Lib.hid (LE1.out.trans hleJ)
  clear cF1 cF2 hN hof hes hpb l1 l2 CN hleJ
  obtain ⟨es, hes⟩ : ∃ es, es = [((⟨#[99, 111, 114, 101]⟩ : ByteArray), p)] := ⟨_, rfl⟩
  rw [← hes] at CF1 CF2 HN
  clear hes
  go_wp2_with fail
  go_loopw [8, 9, 10] (fun wg lo kk wr => ∃ (k wn : Nat), k ≤ tn ∧ wn ≤ k ∧ wn ≤ fs.length ∧ wg = .int .i64 wn ∧ lo = .int .i64 (lostIn (fs.take k)) ∧ kk = .int .i64 k ∧ NetSt W wr J g m es (fs.drop k) k []) (fun _ _ kk _ => tn - (intOf kk).toNat)
  case atStart => exact ⟨0, 0, by omega, by omega, by omega, rfl, rfl, rfl, HN.out⟩
  case round =>
    obtain ⟨k, wn, hk, hw1, hw2, rfl, rfl, rfl, hN⟩ := hrel
    clear HN
    by_cases hkt : k < tn
    · have hkt' : (k : Int) < tn := by omega
      have cF := CF1.out _ (fs.drop k) k [] (by simp; omega) (by omega) hN
      have hfe := fetched_err x0 (first (fs.drop k)) 0 300
      have hfl := fetched_len x0 (first (fs.drop k)) 0 300
      have hlo := lostIn_take fs k
      have hdf : fs.length ≤ k → (fetched x0 (first (fs.drop k)) 0 300) = (x0, 0) := fun h => by
        rw [List.drop_eq_nil_of_le h]
        show (piece x0 0 300, (0 : Int)) = (x0, 0)
        rw [piece_all x0 (by omega)]
      obtain ⟨B, E, hBE⟩ : ∃ B E, fetched x0 (first (fs.drop k)) 0 300 = (B, E) := ⟨_, _, rfl⟩
      rw [hBE] at cF hfe hfl hdf
      simp only [List.tail_drop] at cF
      simp only at hfe hfl
      have hsl : lostIn (fs.take k) ≤ k := by
        unfold lostIn
        exact Nat.le_trans (List.length_filter_le _ _) (by rw [List.length_take]; omega)
      have CF := Lib.hid cF
      have HLO := Lib.hid hlo
      clear cF hBE hN hlo
      have hmx : max (0 : Int) ((fs.length : Int) - (k : Int) - 1) = ((fs.length - (k + 1) : Nat) : Int) := by omega
      have hdl : (fs.drop (k + 1)).length = fs.length - (k + 1) := List.length_drop
      have HDL := Lib.hid hdl
      clear hdl
      by_cases hk1 : (first (fs.drop k)).kind = 1
      · rw [if_pos hk1] at hfe
        subst hfe
        have hkf : k < fs.length := by
          rcases Nat.lt_or_ge k fs.length with h | h
          · exact h
          · have := hdf h
            simp at this
        have hlo2 : lostIn (fs.take (k + 1)) = lostIn (fs.take k) + 1 := by rw [HLO.out, if_pos hk1]
        have HLO2 := Lib.hid hlo2
        clear hlo2 hdf hk1 HLO
        have hfl' : ¬ ((x0.length : Int) < B.length) := by omega
        have hkf' : ¬ ((fs.length : Int) ≤ k) := by omega
        generalize lostIn (fs.take k) = lk at *
        go_wp2_with fail
        refine CF.out.mono ?_
        rintro e w2 ⟨v, rfl, A2, c2, Lr, rfl, hr, hN2⟩
        have HN2 := Lib.hid hN2
        clear hr hN2 CF
        go_wp2_with fail
        refine (net_faults HN2.out).mono ?_
        rintro e w3 ⟨rfl, rfl⟩
        rw [HDL.out]
        go_wp2_with fail
        refine (net_fetches HN2.out).mono ?_
        rintro e w4 ⟨rfl, rfl⟩
        go_wp2_with fail
        go_roundw
        case rel => exact ⟨k + 1, wn + 1, by omega, by omega, by omega, by go_num, by rw [HLO2.out]; go_num, by go_num, HN2.out.drop⟩
        case measure => simp [intOf]; omega
      · rw [if_neg hk1] at hfe
        subst hfe
        have hlo2 : lostIn (fs.take (k + 1)) = lostIn (fs.take k) := by rw [HLO.out, if_neg hk1]; rfl
        have HLO2 := Lib.hid hlo2
        have hfl' : ¬ ((x0.length : Int) < B.length) := by omega
        clear hlo2 hk1 HLO
        by_cases hB : B = x0
        · have CF := CF.out
          rw [hB] at CF
          have CF := Lib.hid CF
          clear hdf hB hfl hfl'
          generalize hlk : lostIn (fs.take k) = lk at *
          go_wp2_with fail
          refine CF.out.mono ?_
          rintro e w2 ⟨v, rfl, A2, c2, Lr, rfl, hr, hN2⟩
          obtain ⟨φ, hst⟩ := id hN2
          have hcv := fresh_str hr hst (by intro q hq; simp [hq])
          have hcv0 : (convert 22 9 (.slice A x0.length c)).run Tryd.prog w2 = .ok (.string ⟨x0.toArray⟩) w2 := conv_str Tryd.underlying22 Tryd.underlying5 Tryd.underlying9 (IN0.out w2 _ (hst.less HLE.out))
          have HN2 := Lib.hid hN2
          clear hr hN2 CF hst φ
          go_wp2_with fail
          refine (net_faults HN2.out).mono ?_
          rintro e w3 ⟨rfl, rfl⟩
          rw [HDL.out]
          go_wp2_with fail
          refine (net_fetches HN2.out).mono ?_
          rintro e w4 ⟨rfl, rfl⟩
          go_wp2_with fail
          go_roundw
          case rel => exact ⟨k + 1, wn, by omega, by omega, by omega, by go_num, by rw [HLO2.out], by go_num, HN2.out.drop⟩
          case measure => simp [intOf]; omega
        · have hbq : (B == x0) = false := beq_eq_false_iff_ne.2 hB
          have hkf : k < fs.length := by
            rcases Nat.lt_or_ge k fs.length with h | h
            · exact h
            · have := hdf h
              simp at this
              exact absurd this hB
          have hkf' : ¬ ((fs.length : Int) ≤ k) := by omega
          clear hdf hB
          generalize hlk : lostIn (fs.take k) = lk at *
          go_wp2_with fail
          refine CF.out.mono ?_
          rintro e w2 ⟨v, rfl, A2, c2, Lr, rfl, hr, hN2⟩
          obtain ⟨φ, hst⟩ := id hN2
          have hcv := fresh_str hr hst (by intro q hq; simp [hq])
          have hcv0 : (convert 22 9 (.slice A x0.length c)).run Tryd.prog w2 = .ok (.string ⟨x0.toArray⟩) w2 := conv_str Tryd.underlying22 Tryd.underlying5 Tryd.underlying9 (IN0.out w2 _ (hst.less HLE.out))
          have HN2 := Lib.hid hN2
          clear hr hN2 CF hst φ
          go_wp2_with fail
          refine (net_faults HN2.out).mono ?_
          rintro e w3 ⟨rfl, rfl⟩
          rw [HDL.out]
          go_wp2_with fail
          refine (net_fetches HN2.out).mono ?_
          rintro e w4 ⟨rfl, rfl⟩
          go_wp2_with fail
          go_roundw
          case rel => exact ⟨k + 1, wn + 1, by omega, by omega, by omega, by go_num, by rw [HLO2.out], by go_num, HN2.out.drop⟩
          case measure => simp [intOf]; omega
    · obtain rfl : k = tn := by omega
      have HN := Lib.hid hN
      clear hN
      have hlt : lostIn (fs.take k) ≤ 40 := by
        unfold lostIn
        exact Nat.le_trans (List.length_filter_le _ _) (by rw [List.length_take]; omega)
      go_wp2_with fail
      go_loopw [13, 101] (fun as_ ii wr => ∃ (i : Nat), i ≤ fs.length ∧ as_ = .int .i64 (lostIn (fs.take (min i k))) ∧ ii = .int .i64 i ∧ NetSt W wr J g m es (fs.drop k) k []) (fun _ ii _ => fs.length - (intOf ii).toNat)
      case atStart => exact ⟨0, by omega, by simp [lostIn], rfl, HN.out⟩
      case round =>
        obtain ⟨i, hi, rfl, rfl, hN⟩ := hrel
        clear HN
        by_cases hil : i < fs.length
        · have hil' : (i : Int) < fs.length := by omega
          obtain ⟨b, off, cs, rfl, h2, h3, h4⟩ := FSL.out.at_ i (fs[i]) (List.getElem?_eq_getElem hil)
          subst h4
          obtain ⟨φ, hst⟩ := id hN
          have r0 := hst.ro (roCell_mono HLE.out (h3 0 (by omega)))
          have r1 := hst.ro (roCell_mono HLE.out (h3 1 (by omega)))
          have r2 := hst.ro (roCell_mono HLE.out (h3 2 (by omega)))
          rw [Nat.add_zero] at r0
          have hstep := lostIn_take fs i
          have hfi : first (fs.drop i) = fs[i] := by
            unfold first
            rw [List.headD_eq_head?_getD, List.head?_drop, List.getElem?_eq_getElem hil]
            rfl
          rw [hfi] at hstep
          obtain ⟨f, hf⟩ : ∃ f, fs[i] = f := ⟨_, rfl⟩
          rw [hf] at r0 r1 r2 hstep
          have r0 : wr.cell? ⟨b, off + i * 3, none⟩ = some (.int .i64 f.kind) := r0
          have r1 : wr.cell? ⟨b, off + i * 3 + 1, none⟩ = some (.int .i64 f.at_) := r1
          have r2 : wr.cell? ⟨b, off + i * 3 + 2, none⟩ = some (.int .u8 (f.v.toNat : Int)) := r2
          have hsb : lostIn (fs.take (min i k)) ≤ 40 := by
            unfold lostIn
            exact Nat.le_trans (List.length_filter_le _ _) (by rw [List.length_take]; omega)
          have hN6 : NetSt W (wr.alloc (.cells #[.int .i64 f.kind, .int .i64 f.at_, .int .u8 (f.v.toNat : Int)] 36)) J g m es (fs.drop k) k [] := ⟨φ, hst.alloc_ _⟩
          have HN6 := Lib.hid hN6
          clear hN6 hst hN hfi hf h3 h2
          by_cases hik : i < k
          · have hik' : (i : Int) < k := by omega
            have hm1 : min i k = i := by omega
            have hm2 : min (i + 1) k = i + 1 := by omega
            rw [hm1] at hsb ⊢
            have HM2 := Lib.hid hm2
            clear hm1 hm2
            by_cases hk1 : f.kind = 1
            · rw [if_pos hk1] at hstep
              have HST := Lib.hid hstep
              clear hstep
              rw [hk1] at r0 HN6
              generalize lostIn (fs.take i) = lk at *
              go_wp2_with fail
              go_roundw
              case rel => exact ⟨i + 1, by omega, by rw [HM2.out, HST.out]; go_num, by go_num, HN6.out⟩
              case measure => simp [intOf]; omega
            · rw [if_neg hk1] at hstep
              have HST := Lib.hid hstep
              clear hstep
              generalize lostIn (fs.take i) = lk at *
              go_wp2_with fail
              go_roundw
              case rel => exact ⟨i + 1, by omega, by rw [HM2.out, HST.out]; rfl, by go_num, HN6.out⟩
              case measure => simp [intOf]; omega
          · have hik' : ¬ ((i : Int) < k) := by omega
            have hm1 : min i k = k := by omega
            have hm2 : min (i + 1) k = k := by omega
            rw [hm1] at hsb ⊢
            have HM2 := Lib.hid hm2
            clear hm1 hm2 hstep
            generalize hlk : lostIn (fs.take k) = lk at *
            go_wp2_with fail
            go_roundw
            case rel => exact ⟨i + 1, by omega, by rw [HM2.out, hlk], by go_num, HN6.out⟩
            case measure => simp [intOf]; omega
        · obtain rfl : i = fs.length := by omega
          have hmk : fs.take (min fs.length k) = fs.take k := by
            rcases Nat.le_total k fs.length with h | h
            · rw [Nat.min_eq_right h]
            · rw [Nat.min_eq_left h, List.take_of_length_le (Nat.le_refl _), List.take_of_length_le h]
          rw [hmk]
          have cO := CF2.out _ _ _ _ hN
          have CO := Lib.hid cO
          clear cO hN hmk
          generalize lostIn (fs.take k) = lk at *
          go_wp2_with fail
          refine CO.out.mono ?_
          rintro e w2 ⟨rfl, hN2⟩
          have hfin : Below W.heap.size W w2 := hN2.out.below HLE.out
          have HN2 := Lib.hid hN2; have HFIN := Lib.hid hfin
          clear hN2 hfin CO
          go_wp2_with fail
          refine (net_fetches HN2.out).mono ?_
          rintro e w3 ⟨rfl, rfl⟩
          go_wp2_with fail
          go_ret
          exact ⟨rfl, HFIN.out⟩
end Go.Proofs.YtjmdhljhlcbneaaDoor
