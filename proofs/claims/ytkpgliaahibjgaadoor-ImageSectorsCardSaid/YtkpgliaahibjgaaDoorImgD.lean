/- image: Take: walk. -/
import Derived.Test.YtkpgliaahibjgaaDoorImgC
namespace Go.Proofs.YtkpgliaahibjgaaDoor
set_option linter.unusedVariables false
set_option linter.unusedSimpArgs false
open Go.RowKit Go.Lib

/-- What Take answers. -/
def takeErr (m : Man) (hs : List (List UInt8)) (want : Nat) (i : Int) (b : List UInt8) : Int :=
  if (want : Int) = m.n ∨ i ≠ want then 151 else if (b.length : Int) ≠ (spanM m i).2 ∨ hashOf b ≠ hs.getD want [] then 152 else 0
section
variable {W w : World} {I : Nat → Option Obj} {F : List (Nat × Obj)} {s g want : Nat} {m : Man} {bs : List UInt8}
def TakePost (W : World) (I : Nat → Option Obj) (s g : Nat) (m : Man) (hs : List (List UInt8)) (bs : List UInt8) (want : Nat) (F : List (Nat × Obj)) (i : Int) (b : List UInt8) (e : Ending) (w' : World) : Prop :=
  e = .returned (.int .i64 (takeErr m hs want i b)) ∧ if takeErr m hs want i b = 0 then Strm W w' I s g m (bs ++ b) (want + 1) F else Strm W w' I s g m bs want F

theorem take_no {hs : List (List UInt8)} {i k : Int} {b : List UInt8} {e : Ending} {w' : World} (he : takeErr m hs want i b = k) (hk : k ≠ 0) (h1 : e = .returned (.int .i64 k)) (h2 : Strm W w' I s g m bs want F) : TakePost W I s g m hs bs want F i b e w' := by
  subst he
  exact ⟨h1, by rw [if_neg hk]; exact h2⟩
theorem take_yes {hs : List (List UInt8)} {i : Int} {b : List UInt8} {e : Ending} {w' : World} (he : takeErr m hs want i b = 0) (h1 : e = .returned (.int .i64 0)) (h2 : Strm W w' I s g m (bs ++ b) (want + 1) F) : TakePost W I s g m hs bs want F i b e w' :=
  ⟨by rw [he]; exact h1, by rw [if_pos he]; exact h2⟩

set_option maxRecDepth 100000 in
set_option maxHeartbeats 4000000 in
theorem itake (t : TB W I) (ok : m.Ok) (hs : List (List UInt8)) (hn : m.n = hs.length) (hh : HsIn m.A hs W I) (hps : m.prod.size ≤ 140737488355328) (hsl : hs.length ≤ 1000000) (hw : want ≤ hs.length) (hbl : bs.length ≤ 1000000000)
    (i : Int) (i0 : -9223372036854775808 ≤ i) (i1 : i ≤ 9223372036854775807) (p : Part) (hp : p.In W I) (hpl : p.bs.length ≤ 1000000) (h : Strm W w I s g m bs want F) :
    Calls Tryd.prog 15 #[.pointer (some ⟨s, 0, none⟩), .int .i64 i, .slice p.A p.bs.length p.c] w (TakePost W I s g m hs bs want F i p.bs) := by
  have kd := idone ok h
  obtain ⟨c36, c37, c38, f38⟩ := strm_cells ok h
  by_cases hd : (want : Int) = m.n
  · have hb : ((want : Int) == (m.n : Int)) = true := beq_iff_eq.2 hd
    rw [hb] at kd
    have he : takeErr m hs want i p.bs = 151 := by unfold takeErr; rw [if_pos (.inl hd)]
    have KD := Lib.hid kd; have H := Lib.hid h; have HE := Lib.hid he
    clear kd h hd hb he
    go_enter Tryd.func15, Tryd.ntmps15
    go_wp2_with fail
    refine KD.out.mono ?_
    rintro e w1 ⟨rfl, k, rfl⟩
    go_wp2_with fail
    go_ret
    exact take_no HE.out (by decide) rfl (H.out.drew k)
  have hb : ((want : Int) == (m.n : Int)) = false := beq_eq_false_iff_ne.2 hd
  rw [hb] at kd
  by_cases hi : i = (want : Int)
  · subst hi
    have hlt : want < hs.length := by omega
    obtain ⟨x, hx⟩ : ∃ x, hs[want]? = some x := ⟨_, List.getElem?_eq_getElem hlt⟩
    have hx32 := hh.len x (List.mem_of_getElem? hx)
    obtain ⟨P, Q, hPQ⟩ : ∃ P Q, spanM m want = (P, Q) := ⟨_, _, rfl⟩
    have kS := fun (v : World) (hv : Strm W v I s g m bs want F) => strm_lift (fun L hL => span_own t m ok hps (want : Int) hL) hv
    rw [hPQ] at kS
    have hbn : ((want : Int) != (want : Int)) = false := by simp
    have hdec : takeErr m hs want want p.bs = if (p.bs.length : Int) ≠ Q ∨ hashOf p.bs ≠ x then 152 else 0 := by
      unfold takeErr
      rw [if_neg (by simp; omega), hPQ, List.getD_eq_getElem?_getD, hx]
      rfl
    have hmi : (Tryd.prog.info? 34).map (·.size) = some m.cells.size := by rw [Man.cells_size ok]; kernel_rfl
    have hld : ∀ j, j < m.cells.size → (sCells m g want)[0 + j]? = m.cells[j]? := fun j hj => by rw [Nat.zero_add, sCells_lo ok g want (by rw [Man.cells_size ok] at hj; omega)]
    have hval : m.val = .agg m.cells := rfl
    rw [hval] at kS
    have h1 := h.drew
    have KD := Lib.hid kd; have H := Lib.hid h; have KS := Lib.hid kS; have HDEC := Lib.hid hdec; have HMI := Lib.hid hmi; have HLD := Lib.hid hld
    clear kd h kS hdec hmi hld h1 hb hval
    by_cases hl : (p.bs.length : Int) = Q
    · obtain ⟨b0, o0, hA, hrg⟩ := hh.range H.out.frame1 hx
      obtain ⟨B, hB⟩ : ∃ B, (hashOf p.bs == x) = B := ⟨_, rfl⟩
      have ka := fun (v : World) (n0 : Nat) (hn0 : n0 = v.heap.size) (hv : Strm W v I s g m bs want F) => ds_all [p] (in_cons hp in_nil) hv (n0 := n0) (n := 1) hn0 rfl (by simp [cat]; omega) (by omega)
      rw [show cat [p] = p.bs by simp [cat]] at ka
      simp only [Part.val, List.map_cons, List.map_nil] at ka
      have E1 : ∀ w, (Op.equalIn 10000 31 (.agg (HV p.bs)) (.agg (bcells x))).run Tryd.prog w = .ok B w := fun w => by rw [← hB]; exact eq_bcells _ _ (hashOf_len _) hx32 w
      have E2 : ∀ w, (Op.equalIn 10000 31 (.agg (HV p.bs)) (.agg (x.map bval).toArray)).run Tryd.prog w = .ok B w := E1
      have ix : (Tryd.prog.info? 31).map (·.size) = some (x.map bval).length := by rw [List.length_map, hx32]; kernel_rfl
      have rg : ∀ v, Strm W v I s g m bs want F → v.rangeAt b0 (o0 + want * 32) (x.map bval) := fun v hv => hrg v _ hv.frame1
      have facts := fun (v : World) (hv : Strm W v I s g m bs want F) => strm_cells ok hv
      rw [hA] at c36 facts
      have hbnd : (want : Int) < (m.n : Int) := by omega
      have hbne : ((p.bs.length : Int) != Q) = false := by simp [hl]
      have hws : (want : Int) + 1 ≤ 9223372036854775807 := by omega
      have kw := fun (v : World) (hv : Strm W v I s g m bs want F) => ds_write p hp hv (by omega)
      have hB2 : hashOf p.bs = x ↔ B = true := by rw [← hB]; simp
      have KA := Lib.hid ka; have IX := Lib.hid ix; have RG := Lib.hid rg; have FACTS := Lib.hid facts; have KW := Lib.hid kw; have HBB := Lib.hid hB2; have HUL := Lib.hid Tryd.underlying31; have E1h := Lib.hid E1; have HL := Lib.hid hl
      clear ka ix rg facts kw hB hB2 hrg hd hh hp hA hn hx hl E1
      go_enter Tryd.func15, Tryd.ntmps15
      go_wp2_with fail
      refine KD.out.mono ?_
      rintro e w1 ⟨rfl, k, rfl⟩
      have H1 := Lib.hid (H.out.drew k)
      clear H KD
      have c38' : (w.drewN k).cell? ⟨s, 38, none⟩ = some (.int .i64 want) := c38
      go_wp2_with (with_reducible refine wpList_load_st rfl 34 (.tmp 22) rfl (g := s) (off := 0) rfl H1.out.frame1 (List.mem_cons_self ..) m.cells HLD.out _ Tryd.underlying34 rfl HMI.out ?_)
      refine (KS.out _ H1.out).mono ?_
      rintro e w2 ⟨rfl, h2⟩
      have H2 := Lib.hid h2
      have HDW := Lib.hid h2.drew1
      have KA2 : Hid (Calls Tryd.prog 35 #[.slice (some ⟨w2.heap.size, 0, none⟩) 1 1] (w2.alloc (.cells #[.slice p.A p.bs.length p.c] 22)).drew fun e w' => e = .returned (.agg (HV p.bs)) ∧ Strm W w' I s g m bs want F) := Lib.hid (KA.out w2.drew w2.heap.size rfl HDW.out)
      clear H1 KS h2 c36 c37 c38 c38' f38
      go_wp2_with fail
      refine wp_region_held_drew (S := fun w' => w'.cell? ⟨s, 36, none⟩ = some (.slice (some ⟨b0, o0, none⟩) m.n m.c) ∧ w'.rangeAt b0 (o0 + want * 32) (x.map bval)) (by kernel_rfl) ⟨(FACTS.out _ HDW.out).1, RG.out _ HDW.out⟩ (fun hHeld => ?_)
      refine wpAnyH_take (i := 0) (oi := ?_) (v := ?_) ?_ ?_ ?_ ?_ ?_ ?_ ?_ ?_
      rotate_left 2
      · (simp only [List.getElem?_toArray, List.getElem?_cons_succ, List.getElem?_cons_zero]; exact rfl)
      · kernel_rfl
      · kernel_rfl
      · kernel_rfl
      · exact fun _ _ _ h => h
      · (refine Or.inl ⟨by rfl, ?_⟩; intro w hSw; (try dsimp only at hSw); go_simp; try with_reducible rfl)
      · assumption
      try simp only [Act.put, List.setIfInBounds_toArray, List.set_cons_zero, List.set_cons_succ]
      refine wpAnyH_take (i := 1) (oi := ?_) (v := ?_) ?_ ?_ ?_ ?_ ?_ ?_ ?_ ?_
      rotate_left 2
      · (simp only [List.getElem?_toArray, List.getElem?_cons_succ, List.getElem?_cons_zero]; exact rfl)
      · kernel_rfl
      · kernel_rfl
      · kernel_rfl
      · exact fun _ _ _ h => h
      · (refine Or.inl ⟨by rfl, ?_⟩; intro w hSw; (try dsimp only at hSw); go_simp; try with_reducible rfl)
      · assumption
      try simp only [Act.put, List.setIfInBounds_toArray, List.set_cons_zero, List.set_cons_succ]
      refine wpAnyH_take (i := 2) (oi := ?_) (v := ?_) ?_ ?_ ?_ ?_ ?_ ?_ ?_ ?_
      rotate_left 2
      · (simp only [List.getElem?_toArray, List.getElem?_cons_succ, List.getElem?_cons_zero]; exact rfl)
      · kernel_rfl
      · kernel_rfl
      · kernel_rfl
      · exact fun _ _ _ h => h
      · (refine Or.inl ⟨by rfl, ?_⟩; intro w hSw; (try dsimp only at hSw); go_simp; try with_reducible rfl)
      · assumption
      try simp only [Act.put, List.setIfInBounds_toArray, List.set_cons_zero, List.set_cons_succ]
      refine wpAnyH_take (i := 3) (oi := ?_) (v := ?_) ?_ ?_ ?_ ?_ ?_ ?_ ?_ ?_
      rotate_left 2
      · (simp only [List.getElem?_toArray, List.getElem?_cons_succ, List.getElem?_cons_zero]; exact rfl)
      · kernel_rfl
      · kernel_rfl
      · kernel_rfl
      · exact fun _ _ _ h => h
      · (refine Or.inl ⟨by rfl, ?_⟩; intro w hSw; (try dsimp only at hSw); go_simp; try with_reducible rfl)
      · assumption
      try simp only [Act.put, List.setIfInBounds_toArray, List.set_cons_zero, List.set_cons_succ]
      refine wpAnyH_take (i := 4) (oi := ?_) (v := ?_) ?_ ?_ ?_ ?_ ?_ ?_ ?_ ?_
      rotate_left 2
      · (simp only [List.getElem?_toArray, List.getElem?_cons_succ, List.getElem?_cons_zero]; exact rfl)
      · kernel_rfl
      · kernel_rfl
      · kernel_rfl
      · exact fun _ _ _ h => h
      · (refine Or.inl ⟨by rfl, ?_⟩; intro w hSw; (try dsimp only at hSw); go_simp; try with_reducible rfl)
      · assumption
      try simp only [Act.put, List.setIfInBounds_toArray, List.set_cons_zero, List.set_cons_succ]
      refine wpAnyH_take (i := 5) (oi := ?_) (v := ?_) ?_ ?_ ?_ ?_ ?_ ?_ ?_ ?_
      rotate_left 2
      · (simp only [List.getElem?_toArray, List.getElem?_cons_succ, List.getElem?_cons_zero]; exact rfl)
      · kernel_rfl
      · kernel_rfl
      · kernel_rfl
      · exact fun _ _ _ h => h
      · (refine Or.inl ⟨by rfl, ?_⟩; intro w hSw; (try dsimp only at hSw); go_simp; try with_reducible rfl)
      · assumption
      try simp only [Act.put, List.setIfInBounds_toArray, List.set_cons_zero, List.set_cons_succ]
      refine wpAnyH_take (i := 8) (oi := ?_) (v := ?_) ?_ ?_ ?_ ?_ ?_ ?_ ?_ ?_
      rotate_left 2
      · (simp only [List.getElem?_toArray, List.getElem?_cons_succ, List.getElem?_cons_zero]; exact rfl)
      · kernel_rfl
      · kernel_rfl
      · kernel_rfl
      · exact fun _ _ _ h => h
      · (refine Or.inl ⟨by rfl, ?_⟩; intro w hSw; (try dsimp only at hSw); go_simp; try with_reducible rfl)
      · assumption
      try simp only [Act.put, List.setIfInBounds_toArray, List.set_cons_zero, List.set_cons_succ]
      refine wpAnyH_take (i := 9) (oi := ?_) (v := ?_) ?_ ?_ ?_ ?_ ?_ ?_ ?_ ?_
      rotate_left 2
      · (simp only [List.getElem?_toArray, List.getElem?_cons_succ, List.getElem?_cons_zero]; exact rfl)
      · kernel_rfl
      · kernel_rfl
      · kernel_rfl
      · exact fun _ _ _ h => h
      · (refine Or.inl ⟨by rfl, ?_⟩; intro w hSw; (try dsimp only at hSw); go_simp; try with_reducible rfl)
      · assumption
      try simp only [Act.put, List.setIfInBounds_toArray, List.set_cons_zero, List.set_cons_succ]
      refine wpAnyH_take (i := 10) (oi := ?_) (v := ?_) ?_ ?_ ?_ ?_ ?_ ?_ ?_ ?_
      rotate_left 2
      · (simp only [List.getElem?_toArray, List.getElem?_cons_succ, List.getElem?_cons_zero]; exact rfl)
      · kernel_rfl
      · kernel_rfl
      · kernel_rfl
      · exact fun _ _ _ h => h
      · (refine Or.inl ⟨by rfl, ?_⟩; intro w hSw; (try dsimp only at hSw); go_simp; try with_reducible rfl)
      · assumption
      try simp only [Act.put, List.setIfInBounds_toArray, List.set_cons_zero, List.set_cons_succ]
      refine wpAnyH_take (i := 11) (oi := ?_) (v := ?_) ?_ ?_ ?_ ?_ ?_ ?_ ?_ ?_
      rotate_left 2
      · (simp only [List.getElem?_toArray, List.getElem?_cons_succ, List.getElem?_cons_zero]; exact rfl)
      · kernel_rfl
      · kernel_rfl
      · kernel_rfl
      · exact fun _ _ _ h => h
      · (refine Or.inl ⟨by rfl, ?_⟩; intro w hSw; (try dsimp only at hSw); go_simp; try with_reducible rfl)
      · assumption
      try simp only [Act.put, List.setIfInBounds_toArray, List.set_cons_zero, List.set_cons_succ]
      refine wpAnyH_take (i := 12) (oi := ?_) (v := ?_) ?_ ?_ ?_ ?_ ?_ ?_ ?_ ?_
      rotate_left 2
      · (simp only [List.getElem?_toArray, List.getElem?_cons_succ, List.getElem?_cons_zero]; exact rfl)
      · kernel_rfl
      · kernel_rfl
      · kernel_rfl
      · exact fun _ _ _ h => h
      · (first | ((refine yieldsIf_load_mid ?_ 31 (.tmp 42) ?_ b0 (o0 + want * 32) ?_ (x.map bval) _ ?_ HUL.out ?_ IX.out) <;> first | rfl | exact fun w h => h.2) | (refine Or.inl ⟨by rfl, ?_⟩; intro w hSw; obtain ⟨hS1, hS2⟩ := hSw; go_simp; try with_reducible rfl))
      · assumption
      try simp only [Act.put, List.setIfInBounds_toArray, List.set_cons_zero, List.set_cons_succ]
      refine wpAnyH_take (i := 13) (oi := ?_) (v := ?_) ?_ ?_ ?_ ?_ ?_ ?_ ?_ ?_
      rotate_left 2
      · (simp only [List.getElem?_toArray, List.getElem?_cons_succ, List.getElem?_cons_zero]; exact rfl)
      · kernel_rfl
      · kernel_rfl
      · kernel_rfl
      · exact fun _ _ _ h => h
      · (refine Or.inl ⟨by rfl, ?_⟩; intro w hSw; (try dsimp only at hSw); go_simp; try with_reducible rfl)
      · assumption
      try simp only [Act.put, List.setIfInBounds_toArray, List.set_cons_zero, List.set_cons_succ]
      refine wpAnyH_take (i := 14) (oi := ?_) (v := ?_) ?_ ?_ ?_ ?_ ?_ ?_ ?_ ?_
      rotate_left 2
      · (simp only [List.getElem?_toArray, List.getElem?_cons_succ, List.getElem?_cons_zero]; exact rfl)
      · kernel_rfl
      · kernel_rfl
      · kernel_rfl
      · exact fun _ _ _ h => h
      · (refine Or.inl ⟨by rfl, ?_⟩; intro w hSw; (try dsimp only at hSw); go_simp; try with_reducible rfl)
      · assumption
      try simp only [Act.put, List.setIfInBounds_toArray, List.set_cons_zero, List.set_cons_succ]
      refine wpAnyH_take (i := 15) (oi := ?_) (v := ?_) ?_ ?_ ?_ ?_ ?_ ?_ ?_ ?_
      rotate_left 2
      · (simp only [List.getElem?_toArray, List.getElem?_cons_succ, List.getElem?_cons_zero]; exact rfl)
      · kernel_rfl
      · kernel_rfl
      · kernel_rfl
      · exact fun _ _ _ h => h
      · (first | ((refine yieldsIf_load_mid ?_ 31 (.tmp 42) ?_ b0 (o0 + want * 32) ?_ (x.map bval) _ ?_ HUL.out ?_ IX.out) <;> first | rfl | exact fun w h => h.2) | (refine Or.inl ⟨by rfl, ?_⟩; intro w hSw; obtain ⟨hS1, hS2⟩ := hSw; go_simp; try with_reducible rfl))
      · assumption
      try simp only [Act.put, List.setIfInBounds_toArray, List.set_cons_zero, List.set_cons_succ]
      refine wpAnyH_ready (rs := [6]) (by kernel_rfl) (by simp) ?_
      refine AllReadyH.cons (o := ?_) ?_ (fun K hK => ?_) ?_
      rotate_left 1
      · (simp only [List.getElem?_toArray, List.getElem?_cons_succ, List.getElem?_cons_zero]; exact rfl)
      · go_simp
        refine hK.out _ _ ?_ (fun hHeld => ?_)
        · (try dsimp only) <;> (first | exact ⟨(FACTS.out _ (HDW.out.alloc_ _)).1, RG.out _ (HDW.out.alloc_ _)⟩ | exact ⟨(FACTS.out _ hx).1, RG.out _ hx⟩)
        clear hK K
        try simp only [Act.put, List.setIfInBounds_toArray, List.set_cons_zero, List.set_cons_succ]
        refine wpAnyH_ready (rs := [7]) (by kernel_rfl) (by simp) ?_
        refine AllReadyH.cons (o := ?_) ?_ (fun K hK => ?_) ?_
        rotate_left 1
        · (simp only [List.getElem?_toArray, List.getElem?_cons_succ, List.getElem?_cons_zero]; exact rfl)
        · go_simp
          (first | (go_at_call 35; (with_reducible refine KA2.out.mono ?_); rintro e wx ⟨rfl, hx⟩; dsimp only))
          refine hK.out _ _ ?_ (fun hHeld => ?_)
          · (try dsimp only) <;> (first | exact ⟨(FACTS.out _ (HDW.out.alloc_ _)).1, RG.out _ (HDW.out.alloc_ _)⟩ | exact ⟨(FACTS.out _ hx).1, RG.out _ hx⟩)
          clear hK K
          try simp only [Act.put, List.setIfInBounds_toArray, List.set_cons_zero, List.set_cons_succ]
          refine wpAnyH_take (i := 16) (oi := ?_) (v := ?_) ?_ ?_ ?_ ?_ ?_ ?_ ?_ ?_
          rotate_left 2
          · (simp only [List.getElem?_toArray, List.getElem?_cons_succ, List.getElem?_cons_zero]; exact rfl)
          · kernel_rfl
          · kernel_rfl
          · kernel_rfl
          · exact fun _ _ _ h => h
          · (refine Or.inl ⟨by rfl, ?_⟩; intro w hSw; (try dsimp only at hSw); go_simp; try with_reducible rfl)
          · assumption
          try simp only [Act.put, List.setIfInBounds_toArray, List.set_cons_zero, List.set_cons_succ]
          refine wpAnyH_take (i := 17) (oi := ?_) (v := ?_) ?_ ?_ ?_ ?_ ?_ ?_ ?_ ?_
          rotate_left 2
          · (simp only [List.getElem?_toArray, List.getElem?_cons_succ, List.getElem?_cons_zero]; exact rfl)
          · kernel_rfl
          · kernel_rfl
          · kernel_rfl
          · exact fun _ _ _ h => h
          · (refine Or.inl ⟨by rfl, ?_⟩; intro w hSw; (try dsimp only at hSw); go_simp; try with_reducible rfl)
          · assumption
          try simp only [Act.put, List.setIfInBounds_toArray, List.set_cons_zero, List.set_cons_succ]
          refine wpAnyH_done (by kernel_rfl) ?_ _
          obtain ⟨e36, e37, e38, e39⟩ := FACTS.out _ hx
          have HX := Lib.hid hx
          clear hx
          cases B with
          | false =>
            simp only [Bool.not_false]
            clear E2
            go_wp2_with fail
            go_ret
            exact take_no (by rw [HDEC.out, if_pos (.inr (fun h => by have := HBB.out.1 h; cases this))]) (by decide) rfl HX.out
          | true =>
            simp only [Bool.not_true]
            clear E2
            go_wp2_with fail
            refine (KW.out _ HX.out).mono ?_
            rintro e w5 ⟨rfl, h5⟩
            have hf := strm_cells ok h5
            have hset := Digs.setF h5 38 (.int .i64 ((want : Int) + 1))
            have hcs := sCells_set ok g want (want + 1)
            rw [show ((want + 1 : Nat) : Int) = (want : Int) + 1 from by omega] at hcs
            rw [hcs] at hset
            have HSET := Lib.hid hset
            obtain ⟨g36, g37, g38, g39⟩ := hf
            clear h5 hset hcs e36 e37 e38 e39 HX
            go_wp2_with fail
            go_ret
            exact take_yes (by rw [HDEC.out, if_neg (fun h => by rcases h with h | h; exact h HL.out; exact h (HBB.out.2 (by simp)))]) rfl HSET.out
        exact AllReadyH.nil
      exact AllReadyH.nil
    · have hbne : ((p.bs.length : Int) != Q) = true := bne_iff_ne.2 hl
      have HL := Lib.hid hl
      have facts := fun (v : World) (hv : Strm W v I s g m bs want F) => strm_cells ok hv
      have FACTS := Lib.hid facts
      clear hl hd hh hp hx hn facts
      go_enter Tryd.func15, Tryd.ntmps15
      go_wp2_with fail
      refine KD.out.mono ?_
      rintro e w1 ⟨rfl, k, rfl⟩
      have H1 := Lib.hid (H.out.drew k)
      clear H KD
      have c38' : (w.drewN k).cell? ⟨s, 38, none⟩ = some (.int .i64 want) := c38
      go_wp2_with (with_reducible refine wpList_load_st rfl 34 (.tmp 22) rfl (g := s) (off := 0) rfl H1.out.frame1 (List.mem_cons_self ..) m.cells HLD.out _ Tryd.underlying34 rfl HMI.out ?_)
      refine (KS.out _ H1.out).mono ?_
      rintro e w2 ⟨rfl, h2⟩
      obtain ⟨e36, e37, e38, e39⟩ := FACTS.out _ h2
      have H2 := Lib.hid h2
      clear H1 KS h2 c36 c37 c38 c38' f38 FACTS
      go_wp2_with fail
      go_quiet (fail)
      go_wp2_with fail
      go_ret
      exact take_no (by rw [HDEC.out, if_pos (.inl HL.out)]) (by decide) rfl (H2.out.drew nq)
  · have hbn : (i != (want : Int)) = true := bne_iff_ne.2 hi
    have he : takeErr m hs want i p.bs = 151 := by unfold takeErr; rw [if_pos (.inr hi)]
    have KD := Lib.hid kd; have H := Lib.hid h; have HE := Lib.hid he
    clear kd h hd hb he hi
    go_enter Tryd.func15, Tryd.ntmps15
    go_wp2_with fail
    refine KD.out.mono ?_
    rintro e w1 ⟨rfl, k, rfl⟩
    have c38' : (w.drewN k).cell? ⟨s, 38, none⟩ = some (.int .i64 want) := c38
    go_wp2_with fail
    go_ret
    exact take_no HE.out (by decide) rfl (H.out.drew k)
end
end Go.Proofs.YtkpgliaahibjgaaDoor
