/- DigestTells: the walk of the law. -/
import Derived.Test.YtjkepnddmpgljaaDigAlive
import Derived.Test.YtjkepnddmpgljaaRefSum
import Derived.Deep.RegionWith
import Derived.Deep.RegionHeld3
namespace Go.Proofs.Ytjkepnddmpgljaa
set_option linter.unusedVariables false
set_option linter.unusedSimpArgs false
open Go.RowKit

theorem Digs.drew1 {W w : World} {I : Nat → Option Obj} {ds : List (Nat × List UInt8)} {F : List (Nat × Obj)} (h : Digs W w I ds F) : Digs W w.drew I ds F := by
  obtain ⟨G, hb, hst⟩ := h
  exact ⟨G, hb, hst.drew1⟩
theorem dref {W w : World} {I : Nat → Option Obj} {ds : List (Nat × List UInt8)} {F : List (Nat × Obj)} (p : Part) (hp : p.In W I) (hl : p.bs.length ≤ 1000000) (h : Digs W w I ds F) :
    Calls Try.prog 11 #[.slice p.A p.bs.length p.c] w fun e w' => e = .returned (.agg (HV p.bs)) ∧ Digs W w' I ds F := by
  obtain ⟨G, hb, hst⟩ := h
  exact (refsum p hp hl hst).mono fun e w' ⟨a, b⟩ => ⟨a, G, hb, b⟩

theorem hload {W w : World} {I : Nat → Option Obj} {L : List (Nat × Obj)} {g : Nat} {bs : List UInt8} (h : St W w I L) (hp : (g, Obj.cells (HV bs) 26 (0, 0)) ∈ L) :
    (loadVar 26 ⟨g, 0, none⟩).run Try.prog w = .ok (.agg (HV bs)) w := by
  have hz : (HV bs).size = 32 := by rw [HV, bcells_size, hashOf_len]
  have := run_loadVar_mid (P := Try.prog) w g 0 26 (HV bs).toList _ (h.rangeAt hp (by simp)) Try.underlying26 rfl (by rw [show (HV bs).toList.length = 32 by simpa using hz]; kernel_rfl)
  simpa using this

set_option maxRecDepth 100000 in
set_option maxHeartbeats 8000000 in
theorem walk_digestTells (W : World) {H : Type} {enc : TypeId × Value → H} {v0 v1 : Value} (a0 : Arg enc Try.prog W 22 v0) (a1 : Arg enc Try.prog W 23 v1) :
    Calls Try.prog 3 #[v0, v1] W fun e w' => e = .returned (.bool true) ∧ Below W.heap.size W w' := by
  obtain ⟨A0, n0, c0, x0, rfl, rfl, q0, m0, in0⟩ := a0.bytes Try.underlying22 Try.underlying5 (by kernel_rfl)
  obtain ⟨A1, n1, c1, zs, rfl, hsl⟩ := a1.slice (α := Int) (Q := fun cs z => cs = [.int .i64 z] ∧ -9223372036854775808 ≤ z ∧ z ≤ 9223372036854775807) (size := 1) Try.underlying23 (by kernel_rfl) (by omega) (fun cs h => by
    obtain ⟨z, rfl, hw⟩ := h.int Try.underlying3
    exact ⟨z, rfl, wf_i64 hw⟩)
  unfold maxLen at m0
  have hn1 : n1 ≤ 9223372036854775807 := Nat.le_trans hsl.cap hsl.cap'
  have hst0 := St.start W
  have HST0 := Lib.hid hst0
  have HSL := Lib.hid hsl; have IN0 := Lib.hid in0
  clear a0 a1 hst0 hsl in0
  go_enter Try.func3, Try.ntmps3
  go_wp2_with fail
  refine (digestAlive HST0.out).mono ?_
  rintro e w1 ⟨rfl, hst1⟩
  clear HST0
  by_cases h5 : (1500 : Int) < x0.length ∨ (10 : Int) < n1
  · have hfin := hst1.below (Le.refl _)
    by_cases h50 : (1500 : Int) < x0.length
    · go_wp2_with fail
      go_ret
      exact ⟨rfl, hfin⟩
    · have h51 : (10 : Int) < n1 := by omega
      go_wp2_with fail
      go_ret
      exact ⟨rfl, hfin⟩
  have b0 : (x0.length : Int) ≤ 1500 := by omega
  have b1 : (n1 : Int) ≤ 10 := by omega
  have N0 : x0.length ≤ 1500 := by omega
  have HST1 := Lib.hid hst1
  clear h5 hst1
  go_wp2_with fail
  refine (refsum ⟨A0, c0, x0⟩ IN0.out (by show x0.length ≤ _; omega) HST1.out).mono ?_
  rintro e w2 ⟨rfl, h2⟩
  clear HST1
  have hz : (HV x0).size = 32 := by rw [HV, bcells_size, hashOf_len]
  have ix : (Try.prog.info? 26).map (·.size) = some (HV x0).size := by rw [hz]; kernel_rfl
  have fx : 0 + (HV x0).size ≤ (#[.int .u8 0, .int .u8 0, .int .u8 0, .int .u8 0, .int .u8 0, .int .u8 0, .int .u8 0, .int .u8 0, .int .u8 0, .int .u8 0, .int .u8 0, .int .u8 0, .int .u8 0, .int .u8 0, .int .u8 0, .int .u8 0, .int .u8 0, .int .u8 0, .int .u8 0, .int .u8 0, .int .u8 0, .int .u8 0, .int .u8 0, .int .u8 0, .int .u8 0, .int .u8 0, .int .u8 0, .int .u8 0, .int .u8 0, .int .u8 0, .int .u8 0, .int .u8 0] : Array Value).size := by rw [hz]; decide
  have ox : (HV x0).all (·.oneCell') = true := bcells_one _
  have ex : setMany #[.int .u8 0, .int .u8 0, .int .u8 0, .int .u8 0, .int .u8 0, .int .u8 0, .int .u8 0, .int .u8 0, .int .u8 0, .int .u8 0, .int .u8 0, .int .u8 0, .int .u8 0, .int .u8 0, .int .u8 0, .int .u8 0, .int .u8 0, .int .u8 0, .int .u8 0, .int .u8 0, .int .u8 0, .int .u8 0, .int .u8 0, .int .u8 0, .int .u8 0, .int .u8 0, .int .u8 0, .int .u8 0, .int .u8 0, .int .u8 0, .int .u8 0, .int .u8 0] 0 (HV x0).toList = HV x0 := by rw [setMany_whole _ _ (by simp [hz])]
  have H2a := Lib.hid (h2.alloc (.cells #[.int .u8 0, .int .u8 0, .int .u8 0, .int .u8 0, .int .u8 0, .int .u8 0, .int .u8 0, .int .u8 0, .int .u8 0, .int .u8 0, .int .u8 0, .int .u8 0, .int .u8 0, .int .u8 0, .int .u8 0, .int .u8 0, .int .u8 0, .int .u8 0, .int .u8 0, .int .u8 0, .int .u8 0, .int .u8 0, .int .u8 0, .int .u8 0, .int .u8 0, .int .u8 0, .int .u8 0, .int .u8 0, .int .u8 0, .int .u8 0, .int .u8 0, .int .u8 0] 26))
  have IX := Lib.hid ix; have FX := Lib.hid fx; have OX := Lib.hid ox; have EX := Lib.hid ex
  clear h2 ix fx ox ex hz
  simp only
  go_wp2_with (with_reducible refine wpList_store_st rfl 26 (.tmp 5) (.tmp 22) rfl (g := w2.heap.size) (off := 0) (HV x0) rfl rfl H2a.out FX.out IX.out OX.out ?_; intro w3 h3; refine Hid.out ?_)
  refine Lib.hid ?_
  rw [EX.out] at h3
  clear H2a FX IX OX EX
  generalize w2.heap.size = g5 at *
  have H3 := Lib.hid h3
  clear h3
  go_wp2_with fail
  refine (ds_new (Digs.nil H3.out)).mono ?_
  rintro e w4 ⟨g, rfl, h4⟩
  clear H3
  go_wp2_with fail
  have h4' : Digs W w4 (fun b => W.heap[b]?) [(g, x0.take 0)] [(g5, .cells (HV x0) 26 (0, 0))] := h4
  clear h4
  go_loopw [26, 7] (fun i a wr => ∃ k m : Nat, k ≤ n1 ∧ m ≤ x0.length ∧ i = .int .i64 k ∧ a = .int .i64 m ∧ Digs W wr (fun b => W.heap[b]?) [(g, x0.take m)] [(g5, .cells (HV x0) 26 (0, 0))]) (fun i _ _ => n1 - (intOf i).toNat)
  case atStart => exact ⟨0, 0, by omega, by omega, rfl, rfl, h4'⟩
  case round =>
    obtain ⟨k, m, hk, hm, rfl, rfl, hd⟩ := hrel
    clear h4'
    by_cases hlt : k < n1
    · obtain ⟨b, off, cs, rfl, _, hc0, rfl, z1, z2⟩ := HSL.out.at_ k (zs[k]'(by rw [HSL.out.len]; exact hlt)) (List.getElem?_eq_getElem _)
      have hc1 := hc0 0 (by omega)
      simp only [Nat.mul_one, Nat.add_zero, List.getElem?_cons_zero] at hc1
      have q1 := hd.frame.ro hc1
      clear hc0 hc1
      generalize zs[k]'(by rw [HSL.out.len]; exact hlt) = z at *
      have hki : (k : Int) < n1 := by omega
      obtain ⟨mz, hmz⟩ : ∃ mz : Int, mz = min z x0.length := ⟨_, rfl⟩
      obtain ⟨c, hc⟩ : ∃ c : Nat, c = (max (m : Int) mz).toNat := ⟨_, rfl⟩
      have e1 : min z (x0.length : Int) = mz := hmz.symm
      have e2 : max (m : Int) mz = (c : Int) := by omega
      have hmc : m ≤ c := by omega
      have hcn : c ≤ x0.length := by omega
      have sl1 := fun w => run_slice_mid Try.underlying22 Try.sizeOf5 A0 x0.length c0 m c hmc (by omega) w
      have etl : ((x0.drop m).take (c - m)).length = c - m := by rw [List.length_take, List.length_drop]; omega
      have kw := ds_write ⟨subA A0 c0 m, c0 - m, (x0.drop m).take (c - m)⟩ (Part.In_take (c0 - m) _ (Part.In_drop (c0 - m) _ q0 IN0.out)) hd (by simp; omega)
      simp only [etl] at kw
      have eap : x0.take m ++ (x0.drop m).take (c - m) = x0.take c := by
        rw [← List.take_add, show m + (c - m) = c by omega]
      rw [eap] at kw
      have etc : (x0.take c).length = c := by rw [List.length_take]; omega
      have kr := fun w (h : Digs W w (fun b => W.heap[b]?) [(g, x0.take c)] [(g5, .cells (HV x0) 26 (0, 0))]) => dref ⟨A0, c0, x0.take c⟩ (Part.In_take _ _ IN0.out) (by simp only [etc]; omega) h
      simp only [etc] at kr
      have kl := fun w (h : Digs W w (fun b => W.heap[b]?) [(g, x0.take c)] [(g5, .cells (HV x0) 26 (0, 0))]) => ds_len h
      simp only [etc] at kl
      have ks := fun w (h : Digs W w (fun b => W.heap[b]?) [(g, x0.take c)] [(g5, .cells (HV x0) 26 (0, 0))]) => ds_sum h (by simp only [etc]; omega)
      have sl2 := fun w => run_slice_to Try.underlying22 Try.sizeOf5 A0 x0.length c0 c (by omega) w
      have E1 := eq_HV (x0.take c)
      have KW := Lib.hid kw; have KR := Lib.hid kr; have KL := Lib.hid kl; have KS := Lib.hid ks
      have ci : (c : Int) ≤ 1500 := by omega
      have cw : (c : Int) % 18446744073709551616 = c := by omega
      have cw2 : IntKind.u64.wrap (c : Int) = c := by rw [IntKind.wrap_u64]; omega
      clear kw kr kl ks eap etl etc hd hmz hc
      generalize hxc : x0.take c = xc at *
      have HXC := Lib.hid hxc
      clear hxc
      go_wp2_with fail
      refine KW.out.mono ?_
      rintro e w5 ⟨rfl, hd5⟩
      clear KW sl1 q1
      have hdw := hd5.drew1
      have HDW := Lib.hid hdw
      have HD5 := Lib.hid hd5
      clear hd5 hdw
      go_wp2_with fail
      go_region_with (first
        | (go_at_call 14; (with_reducible refine (KS.out _ (by first | exact HDW.out | assumption)).mono ?_); rintro e wx ⟨rfl, hx⟩)
        | (go_at_call 11; (with_reducible refine (KR.out _ (by first | exact HDW.out | assumption)).mono ?_); rintro e wx ⟨rfl, hx⟩)
        | (go_at_call 15; (with_reducible refine (KL.out _ (by first | exact HDW.out | assumption)).mono ?_); rintro e wx ⟨rfl, rfl⟩))
      all_goals
        rename_i hx
        have HX := Lib.hid hx
        clear hx
        go_wp2_with fail
        go_roundw
        case rel => exact ⟨k + 1, c, by omega, hcn, by go_num, rfl, by rw [HXC.out]; exact HX.out⟩
        case measure => simp [intOf]; omega
    · obtain rfl : k = n1 := by omega
      have hst := hd.frame
      have sl1 := fun w => run_slice_from Try.underlying22 Try.sizeOf5 A0 x0.length c0 m hm q0 w
      have sl2 := fun w => run_slice_to Try.underlying22 Try.sizeOf5 A0 x0.length c0 m (by omega) w
      have etl : (x0.drop m).length = x0.length - m := by rw [List.length_drop]
      have etm : (x0.take m).length = m := by rw [List.length_take]; omega
      have kw := ds_write ⟨subA A0 c0 m, c0 - m, x0.drop m⟩ (Part.In_drop (c0 - m) _ q0 IN0.out) hd (by simp; omega)
      simp only [etl, List.take_append_drop] at kw
      have ks := fun w (h : Digs W w (fun b => W.heap[b]?) [(g, x0)] [(g5, .cells (HV x0) 26 (0, 0))]) => ds_sum h (by omega)
      have ka := fun w (h : Digs W w (fun b => W.heap[b]?) [(g, x0)] [(g5, .cells (HV x0) 26 (0, 0))]) => ds_all [⟨A0, c0, x0⟩] (in_cons IN0.out in_nil) h (n0 := w.heap.size) (n := 1) rfl rfl (by simp [cat]; omega) (by omega)
      rw [show cat [⟨A0, c0, x0⟩] = x0 by simp [cat]] at ka
      simp only [Part.val, List.map_cons, List.map_nil] at ka
      have kb := fun w (h : Digs W w (fun b => W.heap[b]?) [(g, x0)] [(g5, .cells (HV x0) 26 (0, 0))]) => ds_all [⟨A0, c0, x0.take m⟩, ⟨subA A0 c0 m, c0 - m, x0.drop m⟩] (in_cons (Part.In_take c0 _ IN0.out) (in_cons (Part.In_drop (c0 - m) _ q0 IN0.out) in_nil)) h (n0 := w.heap.size) (n := 2) rfl rfl (by simp [cat]; omega) (by omega)
      rw [show cat [⟨A0, c0, x0.take m⟩, ⟨subA A0 c0 m, c0 - m, x0.drop m⟩] = x0 by simp [cat]] at kb
      simp only [Part.val, List.map_cons, List.map_nil, etl, etm] at kb
      have E1 := eq_HV x0
      obtain ⟨ls, hls⟩ : ∃ ls : List Value, HV x0 = ls.toArray := ⟨(HV x0).toList, by simp⟩
      have hll : ls.length = 32 := by
        have h1 : (HV x0).size = 32 := by rw [HV, bcells_size, hashOf_len]
        rw [hls] at h1
        simpa using h1
      rw [hls] at kw ka kb ks E1
      have rg : ∀ w, Digs W w (fun b => W.heap[b]?) [(g, x0)] [(g5, .cells ls.toArray 26 (0, 0))] → w.rangeAt g5 0 ls := fun w h => h.frame.rangeAt (g := g5) (cs := ls.toArray) (t := 26) (fr := (0, 0)) (by simp) (by simp)
      have hiL : (Try.prog.info? 26).map (·.size) = some ls.length := by rw [hll]; kernel_rfl
      have huL := Try.underlying26
      have KW := Lib.hid kw; have KA := Lib.hid ka; have KB := Lib.hid kb; have KS := Lib.hid ks; have RG := Lib.hid rg
      have HIL := Lib.hid hiL; have HUL := Lib.hid huL
      clear kw ka kb ks rg etl etm hd hst hlt hls hll hiL huL
      go_wp2_with fail
      refine KW.out.mono ?_
      rintro e w5 ⟨rfl, hd5⟩
      clear KW sl1
      have sl1 := fun w => run_slice_from Try.underlying22 Try.sizeOf5 A0 x0.length c0 m hm q0 w
      have HDW := Lib.hid hd5.drew1
      clear hd5
      go_wp2_with fail
      refine wp_region_held_drew (S := fun w' => Digs W w' (fun b => W.heap[b]?) [(g, x0)] [(g5, .cells ls.toArray 26 (0, 0))] ∧ w'.rangeAt g5 0 ls) (by kernel_rfl) ⟨HDW.out, RG.out _ HDW.out⟩ (fun hHeld => ?_)
      refine wpAnyH_take (i := 0) (oi := ?_) (v := ?_) ?_ ?_ ?_ ?_ ?_ ?_ ?_ ?_
      rotate_left 2
      · (simp only [List.getElem?_toArray, List.getElem?_cons_succ, List.getElem?_cons_zero]; exact rfl)
      · kernel_rfl
      · kernel_rfl
      · kernel_rfl
      · exact fun _ _ _ h => h
      · (refine Or.inl ⟨by rfl, ?_⟩; intro w hSw; (try dsimp only at hSw); go_simp; try with_reducible rfl)
      · assumption
      try simp only [Act.put, List.setIfInBounds_toArray, List.set_cons_zero, List.set_cons_succ]
      refine wpAnyH_take (i := 2) (oi := ?_) (v := ?_) ?_ ?_ ?_ ?_ ?_ ?_ ?_ ?_
      rotate_left 2
      · (simp only [List.getElem?_toArray, List.getElem?_cons_succ, List.getElem?_cons_zero]; exact rfl)
      · kernel_rfl
      · kernel_rfl
      · kernel_rfl
      · exact fun _ _ _ h => h
      · ((refine yieldsIf_load_mid ?_ 26 (.tmp 5) ?_ g5 0 ?_ ls _ ?_ HUL.out ?_ HIL.out) <;> first | rfl | exact fun w h => h.2)
      · assumption
      try simp only [Act.put, List.setIfInBounds_toArray, List.set_cons_zero, List.set_cons_succ]
      refine wpAnyH_ready (rs := [1]) (by kernel_rfl) (by simp) ?_
      refine AllReadyH.cons (o := ?_) ?_ (fun K hK => ?_) ?_
      rotate_left 1
      · (simp only [List.getElem?_toArray, List.getElem?_cons_succ, List.getElem?_cons_zero]; exact rfl)
      · go_simp
        (first | (go_at_call 14; (with_reducible refine (KS.out _ HDW.out).mono ?_); rintro e wx ⟨rfl, hx⟩; dsimp only) | (go_at_call 16; (with_reducible refine (KA.out _ hx).mono ?_); rintro e wy ⟨rfl, hy⟩; dsimp only) | (go_at_call 16; (with_reducible refine (KB.out _ hy).mono ?_); rintro e wz ⟨rfl, hz⟩; dsimp only))
        refine hK.out _ _ ?_ (fun hHeld => ?_)
        · (try dsimp only) <;> (first | exact ⟨hz, RG.out _ hz⟩ | exact ⟨hy, RG.out _ hy⟩ | exact ⟨hx, RG.out _ hx⟩ | exact ⟨hy.alloc_ _, RG.out _ (hy.alloc_ _)⟩ | exact ⟨hx.alloc_ _, RG.out _ (hx.alloc_ _)⟩)
        clear hK K
        try simp only [Act.put, List.setIfInBounds_toArray, List.set_cons_zero, List.set_cons_succ]
        refine wpAnyH_take (i := 3) (oi := ?_) (v := ?_) ?_ ?_ ?_ ?_ ?_ ?_ ?_ ?_
        rotate_left 2
        · (simp only [List.getElem?_toArray, List.getElem?_cons_succ, List.getElem?_cons_zero]; exact rfl)
        · kernel_rfl
        · kernel_rfl
        · kernel_rfl
        · exact fun _ _ _ h => h
        · (refine Or.inl ⟨by rfl, ?_⟩; intro w hSw; (try dsimp only at hSw); go_simp; try with_reducible rfl)
        · assumption
        try simp only [Act.put, List.setIfInBounds_toArray, List.set_cons_zero, List.set_cons_succ]
        refine wpAnyH_take (i := 4) (oi := ?_) (v := ?_) ?_ ?_ ?_ ?_ ?_ ?_ ?_ ?_
        rotate_left 2
        · (simp only [List.getElem?_toArray, List.getElem?_cons_succ, List.getElem?_cons_zero]; exact rfl)
        · kernel_rfl
        · kernel_rfl
        · kernel_rfl
        · exact fun _ _ _ h => h
        · (refine Or.inl ⟨by rfl, ?_⟩; intro w hSw; (try dsimp only at hSw); go_simp; try with_reducible rfl)
        · assumption
        try simp only [Act.put, List.setIfInBounds_toArray, List.set_cons_zero, List.set_cons_succ]
        refine wpAnyH_take (i := 5) (oi := ?_) (v := ?_) ?_ ?_ ?_ ?_ ?_ ?_ ?_ ?_
        rotate_left 2
        · (simp only [List.getElem?_toArray, List.getElem?_cons_succ, List.getElem?_cons_zero]; exact rfl)
        · kernel_rfl
        · kernel_rfl
        · kernel_rfl
        · exact fun _ _ _ h => h
        · (refine Or.inl ⟨by rfl, ?_⟩; intro w hSw; (try dsimp only at hSw); go_simp; try with_reducible rfl)
        · assumption
        try simp only [Act.put, List.setIfInBounds_toArray, List.set_cons_zero, List.set_cons_succ]
        refine wpAnyH_take (i := 8) (oi := ?_) (v := ?_) ?_ ?_ ?_ ?_ ?_ ?_ ?_ ?_
        rotate_left 2
        · (simp only [List.getElem?_toArray, List.getElem?_cons_succ, List.getElem?_cons_zero]; exact rfl)
        · kernel_rfl
        · kernel_rfl
        · kernel_rfl
        · exact fun _ _ _ h => h
        · ((refine yieldsIf_load_mid ?_ 26 (.tmp 5) ?_ g5 0 ?_ ls _ ?_ HUL.out ?_ HIL.out) <;> first | rfl | exact fun w h => h.2)
        · assumption
        try simp only [Act.put, List.setIfInBounds_toArray, List.set_cons_zero, List.set_cons_succ]
        refine wpAnyH_ready (rs := [6]) (by kernel_rfl) (by simp) ?_
        refine AllReadyH.cons (o := ?_) ?_ (fun K hK => ?_) ?_
        rotate_left 1
        · (simp only [List.getElem?_toArray, List.getElem?_cons_succ, List.getElem?_cons_zero]; exact rfl)
        · go_simp
          refine hK.out _ _ ?_ (fun hHeld => ?_)
          · (try dsimp only) <;> (first | exact ⟨hz, RG.out _ hz⟩ | exact ⟨hy, RG.out _ hy⟩ | exact ⟨hx, RG.out _ hx⟩ | exact ⟨hy.alloc_ _, RG.out _ (hy.alloc_ _)⟩ | exact ⟨hx.alloc_ _, RG.out _ (hx.alloc_ _)⟩)
          clear hK K
          try simp only [Act.put, List.setIfInBounds_toArray, List.set_cons_zero, List.set_cons_succ]
          refine wpAnyH_ready (rs := [7]) (by kernel_rfl) (by simp) ?_
          refine AllReadyH.cons (o := ?_) ?_ (fun K hK => ?_) ?_
          rotate_left 1
          · (simp only [List.getElem?_toArray, List.getElem?_cons_succ, List.getElem?_cons_zero]; exact rfl)
          · go_simp
            (first | (go_at_call 14; (with_reducible refine (KS.out _ HDW.out).mono ?_); rintro e wx ⟨rfl, hx⟩; dsimp only) | (go_at_call 16; (with_reducible refine (KA.out _ hx).mono ?_); rintro e wy ⟨rfl, hy⟩; dsimp only) | (go_at_call 16; (with_reducible refine (KB.out _ hy).mono ?_); rintro e wz ⟨rfl, hz⟩; dsimp only))
            refine hK.out _ _ ?_ (fun hHeld => ?_)
            · (try dsimp only) <;> (first | exact ⟨hz, RG.out _ hz⟩ | exact ⟨hy, RG.out _ hy⟩ | exact ⟨hx, RG.out _ hx⟩ | exact ⟨hy.alloc_ _, RG.out _ (hy.alloc_ _)⟩ | exact ⟨hx.alloc_ _, RG.out _ (hx.alloc_ _)⟩)
            clear hK K
            try simp only [Act.put, List.setIfInBounds_toArray, List.set_cons_zero, List.set_cons_succ]
            refine wpAnyH_take (i := 9) (oi := ?_) (v := ?_) ?_ ?_ ?_ ?_ ?_ ?_ ?_ ?_
            rotate_left 2
            · (simp only [List.getElem?_toArray, List.getElem?_cons_succ, List.getElem?_cons_zero]; exact rfl)
            · kernel_rfl
            · kernel_rfl
            · kernel_rfl
            · exact fun _ _ _ h => h
            · (refine Or.inl ⟨by rfl, ?_⟩; intro w hSw; (try dsimp only at hSw); go_simp; try with_reducible rfl)
            · assumption
            try simp only [Act.put, List.setIfInBounds_toArray, List.set_cons_zero, List.set_cons_succ]
            refine wpAnyH_take (i := 10) (oi := ?_) (v := ?_) ?_ ?_ ?_ ?_ ?_ ?_ ?_ ?_
            rotate_left 2
            · (simp only [List.getElem?_toArray, List.getElem?_cons_succ, List.getElem?_cons_zero]; exact rfl)
            · kernel_rfl
            · kernel_rfl
            · kernel_rfl
            · exact fun _ _ _ h => h
            · (refine Or.inl ⟨by rfl, ?_⟩; intro w hSw; (try dsimp only at hSw); go_simp; try with_reducible rfl)
            · assumption
            try simp only [Act.put, List.setIfInBounds_toArray, List.set_cons_zero, List.set_cons_succ]
            refine wpAnyH_take (i := 11) (oi := ?_) (v := ?_) ?_ ?_ ?_ ?_ ?_ ?_ ?_ ?_
            rotate_left 2
            · (simp only [List.getElem?_toArray, List.getElem?_cons_succ, List.getElem?_cons_zero]; exact rfl)
            · kernel_rfl
            · kernel_rfl
            · kernel_rfl
            · exact fun _ _ _ h => h
            · (refine Or.inl ⟨by rfl, ?_⟩; intro w hSw; (try dsimp only at hSw); go_simp; try with_reducible rfl)
            · assumption
            try simp only [Act.put, List.setIfInBounds_toArray, List.set_cons_zero, List.set_cons_succ]
            refine wpAnyH_take (i := 12) (oi := ?_) (v := ?_) ?_ ?_ ?_ ?_ ?_ ?_ ?_ ?_
            rotate_left 2
            · (simp only [List.getElem?_toArray, List.getElem?_cons_succ, List.getElem?_cons_zero]; exact rfl)
            · kernel_rfl
            · kernel_rfl
            · kernel_rfl
            · exact fun _ _ _ h => h
            · (refine Or.inl ⟨by rfl, ?_⟩; intro w hSw; (try dsimp only at hSw); go_simp; try with_reducible rfl)
            · assumption
            try simp only [Act.put, List.setIfInBounds_toArray, List.set_cons_zero, List.set_cons_succ]
            refine wpAnyH_take (i := 13) (oi := ?_) (v := ?_) ?_ ?_ ?_ ?_ ?_ ?_ ?_ ?_
            rotate_left 2
            · (simp only [List.getElem?_toArray, List.getElem?_cons_succ, List.getElem?_cons_zero]; exact rfl)
            · kernel_rfl
            · kernel_rfl
            · kernel_rfl
            · exact fun _ _ _ h => h
            · (refine Or.inl ⟨by rfl, ?_⟩; intro w hSw; (try dsimp only at hSw); go_simp; try with_reducible rfl)
            · assumption
            try simp only [Act.put, List.setIfInBounds_toArray, List.set_cons_zero, List.set_cons_succ]
            refine wpAnyH_take (i := 14) (oi := ?_) (v := ?_) ?_ ?_ ?_ ?_ ?_ ?_ ?_ ?_
            rotate_left 2
            · (simp only [List.getElem?_toArray, List.getElem?_cons_succ, List.getElem?_cons_zero]; exact rfl)
            · kernel_rfl
            · kernel_rfl
            · kernel_rfl
            · exact fun _ _ _ h => h
            · (refine Or.inl ⟨by rfl, ?_⟩; intro w hSw; (try dsimp only at hSw); go_simp; try with_reducible rfl)
            · assumption
            try simp only [Act.put, List.setIfInBounds_toArray, List.set_cons_zero, List.set_cons_succ]
            refine wpAnyH_take (i := 15) (oi := ?_) (v := ?_) ?_ ?_ ?_ ?_ ?_ ?_ ?_ ?_
            rotate_left 2
            · (simp only [List.getElem?_toArray, List.getElem?_cons_succ, List.getElem?_cons_zero]; exact rfl)
            · kernel_rfl
            · kernel_rfl
            · kernel_rfl
            · exact fun _ _ _ h => h
            · (refine Or.inl ⟨by rfl, ?_⟩; intro w hSw; (try dsimp only at hSw); go_simp; try with_reducible rfl)
            · assumption
            try simp only [Act.put, List.setIfInBounds_toArray, List.set_cons_zero, List.set_cons_succ]
            refine wpAnyH_take (i := 16) (oi := ?_) (v := ?_) ?_ ?_ ?_ ?_ ?_ ?_ ?_ ?_
            rotate_left 2
            · (simp only [List.getElem?_toArray, List.getElem?_cons_succ, List.getElem?_cons_zero]; exact rfl)
            · kernel_rfl
            · kernel_rfl
            · kernel_rfl
            · exact fun _ _ _ h => h
            · (refine Or.inl ⟨by rfl, ?_⟩; intro w hSw; (try dsimp only at hSw); go_simp; try with_reducible rfl)
            · assumption
            try simp only [Act.put, List.setIfInBounds_toArray, List.set_cons_zero, List.set_cons_succ]
            refine wpAnyH_take (i := 17) (oi := ?_) (v := ?_) ?_ ?_ ?_ ?_ ?_ ?_ ?_ ?_
            rotate_left 2
            · (simp only [List.getElem?_toArray, List.getElem?_cons_succ, List.getElem?_cons_zero]; exact rfl)
            · kernel_rfl
            · kernel_rfl
            · kernel_rfl
            · exact fun _ _ _ h => h
            · (refine Or.inl ⟨by rfl, ?_⟩; intro w hSw; (try dsimp only at hSw); go_simp; try with_reducible rfl)
            · assumption
            try simp only [Act.put, List.setIfInBounds_toArray, List.set_cons_zero, List.set_cons_succ]
            refine wpAnyH_take (i := 20) (oi := ?_) (v := ?_) ?_ ?_ ?_ ?_ ?_ ?_ ?_ ?_
            rotate_left 2
            · (simp only [List.getElem?_toArray, List.getElem?_cons_succ, List.getElem?_cons_zero]; exact rfl)
            · kernel_rfl
            · kernel_rfl
            · kernel_rfl
            · exact fun _ _ _ h => h
            · ((refine yieldsIf_load_mid ?_ 26 (.tmp 5) ?_ g5 0 ?_ ls _ ?_ HUL.out ?_ HIL.out) <;> first | rfl | exact fun w h => h.2)
            · assumption
            try simp only [Act.put, List.setIfInBounds_toArray, List.set_cons_zero, List.set_cons_succ]
            refine wpAnyH_ready (rs := [18]) (by kernel_rfl) (by simp) ?_
            refine AllReadyH.cons (o := ?_) ?_ (fun K hK => ?_) ?_
            rotate_left 1
            · (simp only [List.getElem?_toArray, List.getElem?_cons_succ, List.getElem?_cons_zero]; exact rfl)
            · go_simp
              refine hK.out _ _ ?_ (fun hHeld => ?_)
              · (try dsimp only) <;> (first | exact ⟨hz, RG.out _ hz⟩ | exact ⟨hy, RG.out _ hy⟩ | exact ⟨hx, RG.out _ hx⟩ | exact ⟨hy.alloc_ _, RG.out _ (hy.alloc_ _)⟩ | exact ⟨hx.alloc_ _, RG.out _ (hx.alloc_ _)⟩)
              clear hK K
              try simp only [Act.put, List.setIfInBounds_toArray, List.set_cons_zero, List.set_cons_succ]
              refine wpAnyH_ready (rs := [19]) (by kernel_rfl) (by simp) ?_
              refine AllReadyH.cons (o := ?_) ?_ (fun K hK => ?_) ?_
              rotate_left 1
              · (simp only [List.getElem?_toArray, List.getElem?_cons_succ, List.getElem?_cons_zero]; exact rfl)
              · go_simp
                (first | (go_at_call 14; (with_reducible refine (KS.out _ HDW.out).mono ?_); rintro e wx ⟨rfl, hx⟩; dsimp only) | (go_at_call 16; (with_reducible refine (KA.out _ hx).mono ?_); rintro e wy ⟨rfl, hy⟩; dsimp only) | (go_at_call 16; (with_reducible refine (KB.out _ hy).mono ?_); rintro e wz ⟨rfl, hz⟩; dsimp only))
                refine hK.out _ _ ?_ (fun hHeld => ?_)
                · (try dsimp only) <;> (first | exact ⟨hz, RG.out _ hz⟩ | exact ⟨hy, RG.out _ hy⟩ | exact ⟨hx, RG.out _ hx⟩ | exact ⟨hy.alloc_ _, RG.out _ (hy.alloc_ _)⟩ | exact ⟨hx.alloc_ _, RG.out _ (hx.alloc_ _)⟩)
                clear hK K
                try simp only [Act.put, List.setIfInBounds_toArray, List.set_cons_zero, List.set_cons_succ]
                refine wpAnyH_take (i := 21) (oi := ?_) (v := ?_) ?_ ?_ ?_ ?_ ?_ ?_ ?_ ?_
                rotate_left 2
                · (simp only [List.getElem?_toArray, List.getElem?_cons_succ, List.getElem?_cons_zero]; exact rfl)
                · kernel_rfl
                · kernel_rfl
                · kernel_rfl
                · exact fun _ _ _ h => h
                · (refine Or.inl ⟨by rfl, ?_⟩; intro w hSw; (try dsimp only at hSw); go_simp; try with_reducible rfl)
                · assumption
                try simp only [Act.put, List.setIfInBounds_toArray, List.set_cons_zero, List.set_cons_succ]
                refine wpAnyH_take (i := 22) (oi := ?_) (v := ?_) ?_ ?_ ?_ ?_ ?_ ?_ ?_ ?_
                rotate_left 2
                · (simp only [List.getElem?_toArray, List.getElem?_cons_succ, List.getElem?_cons_zero]; exact rfl)
                · kernel_rfl
                · kernel_rfl
                · kernel_rfl
                · exact fun _ _ _ h => h
                · (refine Or.inl ⟨by rfl, ?_⟩; intro w hSw; (try dsimp only at hSw); go_simp; try with_reducible rfl)
                · assumption
                try simp only [Act.put, List.setIfInBounds_toArray, List.set_cons_zero, List.set_cons_succ]
                refine wpAnyH_take (i := 23) (oi := ?_) (v := ?_) ?_ ?_ ?_ ?_ ?_ ?_ ?_ ?_
                rotate_left 2
                · (simp only [List.getElem?_toArray, List.getElem?_cons_succ, List.getElem?_cons_zero]; exact rfl)
                · kernel_rfl
                · kernel_rfl
                · kernel_rfl
                · exact fun _ _ _ h => h
                · (refine Or.inl ⟨by rfl, ?_⟩; intro w hSw; (try dsimp only at hSw); go_simp; try with_reducible rfl)
                · assumption
                try simp only [Act.put, List.setIfInBounds_toArray, List.set_cons_zero, List.set_cons_succ]
                refine wpAnyH_done (by kernel_rfl) ?_ _
                have hfin := hz.frame.below (Le.refl _)
                go_wp2_with fail
                go_ret
                exact ⟨rfl, hfin⟩
              exact AllReadyH.nil
            exact AllReadyH.nil
          exact AllReadyH.nil
        exact AllReadyH.nil
      exact AllReadyH.nil
end Go.Proofs.Ytjkepnddmpgljaa
