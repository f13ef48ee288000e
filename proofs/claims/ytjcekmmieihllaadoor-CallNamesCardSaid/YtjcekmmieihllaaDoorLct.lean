/- CallTexts: the walk of the law. -/
import Derived.Test.YtjcekmmieihllaaDoorCaV
import Derived.Test.YtjcekmmieihllaaDoorCallD
namespace Go.Proofs.YtjcekmmieihllaaDoor
set_option linter.unusedVariables false
set_option linter.unusedSimpArgs false
set_option linter.unnecessarySimpa false
open Go.RowKit Go.Lib

theorem parse_case (t : ByteArray) (hs : t.size ≤ 5000) : (∃ x, parseC t = (x, 0) ∧ rightC x = true ∧ (⟨(textC x).toArray⟩ : ByteArray) = t ∧ x.Ok ∧ x.name.size ≤ 1000000) ∨ parseC t = (zC, 241) := by
  have hsz := splR_size t (runesOf t) []
  have hlr := runesOf_len t
  rw [show splR t (runesOf t) [] = wordsOf t from rfl] at hsz
  have hl : ∀ k, ((wordsOf t).getD k []).length ≤ 30000 := fun k => by
    rw [List.getD_eq_getElem?_getD]
    cases hk : (wordsOf t)[k]? with
    | none => exact Nat.zero_le _
    | some x =>
      have := hsz x (List.mem_of_getElem? hk)
      simp only [Option.getD_some]
      simp at this
      omega
  have ok := pC_ok _ hl
  have hrl := readR_len ((wordsOf t).getD 2 [])
  have hl2 := hl 2
  have hpv := parseC.eq_1 t
  by_cases hh : (rightC (pC (wordsOf t)) && (textC (pC (wordsOf t)) == t.data.toList)) = true
  · rw [if_pos hh] at hpv
    simp only [Bool.and_eq_true, beq_iff_eq] at hh
    refine .inl ⟨_, hpv, hh.1, ?_, ok, ?_⟩
    · rw [hh.2]
    · unfold pC
      simp only
      split
      · rw [ba_size]; omega
      · show (0 : Nat) ≤ _; omega
  · rw [if_neg hh] at hpv
    exact .inr hpv
theorem itoa_le (n : Int) (h0 : 0 ≤ n) (h1 : n ≤ 1073741824) : (Lib.itoa n).length ≤ 20 := by
  rw [itoa_nn _ h0]
  exact decD_len 20 _ (by omega) (by omega)
theorem textC_len (c : Cl) (h : rightC c = true) (hn : c.name.size ≤ 300) : (textC c).length ≤ 4000 := by
  obtain ⟨c0, c1, hk⟩ := rightC_facts c h
  have l0 := itoa_le c.client c0 (by omega)
  have l1 := cword_len c.kind.toNat
  have l2 := showOf_len c.name
  unfold textC tailC
  rw [if_pos h]
  rcases hk with ⟨k, -, -, -⟩ | ⟨k, -, -, j0, j1⟩ | ⟨k, -, -, -⟩ | ⟨k, -, -, s0, s1⟩
  · rw [if_pos k]
    simp only [List.length_append, List.length_cons, List.length_nil]
    omega
  · have := itoa_le c.job j0 j1
    rw [if_neg (by omega), if_pos k]
    simp only [List.length_append, List.length_cons, List.length_nil]
    omega
  · rw [if_neg (by omega), if_neg (by omega), if_neg (by omega)]
    simp only [List.length_append, List.length_cons, List.length_nil]
    omega
  · have := itoa_le c.slot s0 (by omega)
    rw [if_neg (by omega), if_neg (by omega), if_pos k]
    simp only [List.length_append, List.length_cons, List.length_nil]
    omega
set_option maxRecDepth 100000 in
set_option maxHeartbeats 16000000 in
theorem walk_callTexts (W : World) (cv : CV0 W) {H : Type} {enc : TypeId × Value → H} {v0 v1 : Value} (a0 : Arg enc Tryd.prog W 23 v0) (a1 : Arg enc Tryd.prog W 9 v1) :
    Calls Tryd.prog 3 #[v0, v1] W fun e w' => e = .returned (.bool true) ∧ Below W.heap.size W w' := by
  obtain ⟨c, rfl, okc, hcs⟩ := a0.call
  obtain ⟨s, rfl, hs⟩ := a1.text Tryd.underlying9
  have hc : c.val = .agg #[Value.int .i64 c.client, .int .i64 c.kind, .int .i64 c.slot, .int .i64 c.job, .string c.name] := rfl
  have h0 := (St.start W).alloc (.cells #[Value.int .i64 c.client, .int .i64 c.kind, .int .i64 c.slot, .int .i64 c.job, .string c.name] 23)
  obtain ⟨b, hb⟩ : ∃ b, W.heap.size = b := ⟨_, rfl⟩
  rw [hb] at h0
  have kA := call_alive cv (fun J k => cv.more k) h0
  have KA := Lib.hid kA; have HB := Lib.hid hb; have CVV := Lib.hid cv
  rw [hc]
  clear kA h0 cv a0 a1 hc hb
  go_enter Tryd.func3, Tryd.ntmps3
  go_wp2_with fail
  rw [HB.out]
  refine KA.out.mono ?_
  rintro e w1 ⟨rfl, h1⟩
  have hf : Below W.heap.size W w1 := h1.below (Le.refl _)
  have c4 := h1.cell (g := b) (cs := #[Value.int .i64 c.client, .int .i64 c.kind, .int .i64 c.slot, .int .i64 c.job, .string c.name]) (t := 23) (fr := (0, 0)) (by simp) 4
  simp at c4
  have HF := Lib.hid hf; have H1 := Lib.hid h1
  clear KA h1 hf
  by_cases g1 : 300 < c.name.size
  · have g1' : (300 : Int) < (c.name.size : Int) := by omega
    clear g1
    go_wp2_with fail
    go_ret
    exact ⟨rfl, HF.out⟩
  have g1' : ¬ ((300 : Int) < (c.name.size : Int)) := by omega
  by_cases g2 : 500 < s.size
  · have g2' : (500 : Int) < (s.size : Int) := by omega
    clear g1 g2
    go_wp2_with fail
    go_ret
    exact ⟨rfl, HF.out⟩
  have g2' : ¬ ((500 : Int) < (s.size : Int)) := by omega
  clear HF
  have ok := okc (by omega)
  have hn6 : c.name.size ≤ 1000000 := by omega
  have kR : ∀ (v : World) (F : List (Nat × Obj)), St W v (fun b => W.heap[b]?) F → Calls Tryd.prog 10 #[.agg #[Value.int .i64 c.client, .int .i64 c.kind, .int .i64 c.slot, .int .i64 c.job, .string c.name]] v fun e w' => e = .returned (.bool (rightC c)) ∧ St W w' (fun b => W.heap[b]?) F := fun v F hv => call_right CVV.out.t CVV.out.t4 c ok hv
  have kS : ∀ (v : World) (F : List (Nat × Obj)), St W v (fun b => W.heap[b]?) F → Calls Tryd.prog 11 #[.agg #[Value.int .i64 c.client, .int .i64 c.kind, .int .i64 c.slot, .int .i64 c.job, .string c.name]] v fun e w' => e = .returned (.bool (rightC c)) ∧ St W w' (fun b => W.heap[b]?) F := fun v F hv => cref_right CVV.out.t CVV.out.t4 c ok hv
  have kT : ∀ (v : World) (F : List (Nat × Obj)), St W v (fun b => W.heap[b]?) F → Calls Tryd.prog 12 #[.agg #[Value.int .i64 c.client, .int .i64 c.kind, .int .i64 c.slot, .int .i64 c.job, .string c.name]] v fun e w' => e = .returned (.string ⟨(textC c).toArray⟩) ∧ St W w' (fun b => W.heap[b]?) F := fun v F hv => call_text CVV.out c ok hn6 hv
  have kU : ∀ (v : World) (F : List (Nat × Obj)), St W v (fun b => W.heap[b]?) F → Calls Tryd.prog 13 #[.agg #[Value.int .i64 c.client, .int .i64 c.kind, .int .i64 c.slot, .int .i64 c.job, .string c.name]] v fun e w' => e = .returned (.string ⟨(textC c).toArray⟩) ∧ St W w' (fun b => W.heap[b]?) F := fun v F hv => cref_text CVV.out c ok hn6 hv
  have kP := fun (v : World) (F : List (Nat × Obj)) (hv : St W v (fun b => W.heap[b]?) F) => call_parse CVV.out (fun J k => CVV.out.more k) s (by omega) hv
  have hpc := parse_case s (by omega)
  have kQ : rightC c = true → ∀ (v : World) (F : List (Nat × Obj)), St W v (fun b => W.heap[b]?) F → Calls Tryd.prog 14 #[.string ⟨(textC c).toArray⟩] v fun e w' => e = .returned (.tuple #[.agg #[Value.int .i64 c.client, .int .i64 c.kind, .int .i64 c.slot, .int .i64 c.job, .string c.name], .int .i64 0]) ∧ St W w' (fun b => W.heap[b]?) F := fun hr v F hv => by
    have h := call_parse CVV.out (fun J k => CVV.out.more k) (⟨(textC c).toArray⟩ : ByteArray) (by rw [ba_size]; have := textC_len c hr (by omega); omega) hv
    rw [parse_textC c hr] at h
    exact h
  obtain ⟨R, hR⟩ : ∃ R, rightC c = R := ⟨_, rfl⟩
  obtain ⟨X, hX⟩ : ∃ X, (⟨(textC c).toArray⟩ : ByteArray) = X := ⟨_, rfl⟩
  rw [hX] at kT kU kQ
  rw [hR] at kR kS kQ
  have f0 : (!(R == R)) = false := by simp
  have f1 : (!(X.toList == X.toList)) = false := by simp
  have qe : ∀ w, (Op.equalIn 10000 23 (.agg #[Value.int .i64 c.client, .int .i64 c.kind, .int .i64 c.slot, .int .i64 c.job, .string c.name]) (.agg #[Value.int .i64 c.client, .int .i64 c.kind, .int .i64 c.slot, .int .i64 c.job, .string c.name])).run Tryd.prog w = .ok true w := fun w => by
    have h := eq_call c c w
    rw [eqC_refl] at h
    exact h
  have KR := Lib.hid kR; have KS := Lib.hid kS; have KT := Lib.hid kT; have KU := Lib.hid kU; have KP := Lib.hid kP; have KQ := Lib.hid kQ; have HPC := Lib.hid hpc; have QE := Lib.hid qe
  have sx : ∀ v, St W v (fun b => W.heap[b]?) [(b, .cells #[Value.int .i64 c.client, .int .i64 c.kind, .int .i64 c.slot, .int .i64 c.job, .string c.name] 23 (0, 0))] → (v.cell? ⟨b, 0, none⟩ = some (.int .i64 c.client) ∧ v.cell? ⟨b, 1, none⟩ = some (.int .i64 c.kind) ∧ v.cell? ⟨b, 2, none⟩ = some (.int .i64 c.slot) ∧ v.cell? ⟨b, 3, none⟩ = some (.int .i64 c.job) ∧ v.cell? ⟨b, 4, none⟩ = some (.string c.name)) := fun v hv => by
    have e := hv.cell (g := b) (cs := #[Value.int .i64 c.client, .int .i64 c.kind, .int .i64 c.slot, .int .i64 c.job, .string c.name]) (t := 23) (fr := (0, 0)) (by simp)
    exact ⟨e 0, e 1, e 2, e 3, e 4⟩
  have SX := Lib.hid sx
  have F0 := Lib.hid f0; have F1 := Lib.hid f1
  have hx := H1.out.drew1
  clear kR kS kT kU kP kQ hpc qe sx g1 g2 hR hX ok okc hcs hs hn6 H1 f0 f1
  go_wp2_with fail
  refine wp_region_held_drew (S := fun v => (v.cell? ⟨b, 0, none⟩ = some (.int .i64 c.client) ∧ v.cell? ⟨b, 1, none⟩ = some (.int .i64 c.kind) ∧ v.cell? ⟨b, 2, none⟩ = some (.int .i64 c.slot) ∧ v.cell? ⟨b, 3, none⟩ = some (.int .i64 c.job) ∧ v.cell? ⟨b, 4, none⟩ = some (.string c.name))) (by kernel_rfl) (SX.out _ hx) (fun hHeld => ?_)
  refine wpAnyH_take (i := 0) (oi := ?_) (v := ?_) ?_ ?_ ?_ ?_ ?_ ?_ ?_ ?_
  rotate_left 2
  · (simp only [List.getElem?_toArray, List.getElem?_cons_succ, List.getElem?_cons_zero]; exact rfl)
  · kernel_rfl
  · kernel_rfl
  · kernel_rfl
  · exact fun _ _ _ h => h
  · first | ((refine Or.inl ⟨by rfl, ?_⟩; intro w hSw; obtain ⟨hS1, hS2, hS3, hS4, hS5⟩ := hSw; go_simp; try with_reducible rfl)) | (refine Or.inr ⟨by rfl, ?_⟩; rfl)
  · assumption
  try simp only [Act.put, List.setIfInBounds_toArray, List.set_cons_zero, List.set_cons_succ]
  try simp only [F0.out, F1.out]
  refine wpAnyH_take (i := 2) (oi := ?_) (v := ?_) ?_ ?_ ?_ ?_ ?_ ?_ ?_ ?_
  rotate_left 2
  · (simp only [List.getElem?_toArray, List.getElem?_cons_succ, List.getElem?_cons_zero]; exact rfl)
  · kernel_rfl
  · kernel_rfl
  · kernel_rfl
  · exact fun _ _ _ h => h
  · first | ((refine Or.inl ⟨by rfl, ?_⟩; intro w hSw; obtain ⟨hS1, hS2, hS3, hS4, hS5⟩ := hSw; go_simp; try with_reducible rfl)) | (refine Or.inr ⟨by rfl, ?_⟩; rfl)
  · assumption
  try simp only [Act.put, List.setIfInBounds_toArray, List.set_cons_zero, List.set_cons_succ]
  try simp only [F0.out, F1.out]
  refine wpAnyH_ready (rs := [1]) (by kernel_rfl) (by simp) ?_
  refine AllReadyH.cons (o := ?_) ?_ (fun K hK => ?_) ?_
  rotate_left 1
  · (simp only [List.getElem?_toArray, List.getElem?_cons_succ, List.getElem?_cons_zero]; exact rfl)
  · go_simp
    ((first | (go_at_call 10; (with_reducible refine (KR.out _ _ hx).mono ?_); rintro e wx ⟨rfl, hx⟩; dsimp only) | (go_at_call 11; (with_reducible refine (KS.out _ _ hx).mono ?_); rintro e wx ⟨rfl, hx⟩; dsimp only) | (go_at_call 12; (with_reducible refine (KT.out _ _ hx).mono ?_); rintro e wx ⟨rfl, hx⟩; dsimp only) | (go_at_call 13; (with_reducible refine (KU.out _ _ hx).mono ?_); rintro e wx ⟨rfl, hx⟩; dsimp only)))
    refine hK.out _ _ ?_ (fun hHeld => ?_)
    · (try dsimp only) <;> (exact SX.out _ hx)
    clear hK K
    try simp only [Act.put, List.setIfInBounds_toArray, List.set_cons_zero, List.set_cons_succ]
    try simp only [F0.out, F1.out]
    refine wpAnyH_ready (rs := [3]) (by kernel_rfl) (by simp) ?_
    refine AllReadyH.cons (o := ?_) ?_ (fun K hK => ?_) ?_
    rotate_left 1
    · (simp only [List.getElem?_toArray, List.getElem?_cons_succ, List.getElem?_cons_zero]; exact rfl)
    · go_simp
      ((first | (go_at_call 10; (with_reducible refine (KR.out _ _ hx).mono ?_); rintro e wx ⟨rfl, hx⟩; dsimp only) | (go_at_call 11; (with_reducible refine (KS.out _ _ hx).mono ?_); rintro e wx ⟨rfl, hx⟩; dsimp only) | (go_at_call 12; (with_reducible refine (KT.out _ _ hx).mono ?_); rintro e wx ⟨rfl, hx⟩; dsimp only) | (go_at_call 13; (with_reducible refine (KU.out _ _ hx).mono ?_); rintro e wx ⟨rfl, hx⟩; dsimp only)))
      refine hK.out _ _ ?_ (fun hHeld => ?_)
      · (try dsimp only) <;> (exact SX.out _ hx)
      clear hK K
      try simp only [Act.put, List.setIfInBounds_toArray, List.set_cons_zero, List.set_cons_succ]
      try simp only [F0.out, F1.out]
      refine wpAnyH_take (i := 4) (oi := ?_) (v := ?_) ?_ ?_ ?_ ?_ ?_ ?_ ?_ ?_
      rotate_left 2
      · (simp only [List.getElem?_toArray, List.getElem?_cons_succ, List.getElem?_cons_zero]; exact rfl)
      · kernel_rfl
      · kernel_rfl
      · kernel_rfl
      · exact fun _ _ _ h => h
      · first | (refine Or.inl ⟨by rfl, ?_⟩; intro w hSw; (try dsimp only at hSw); go_simp; try with_reducible rfl) | (refine Or.inr ⟨by rfl, ?_⟩; rfl)
      · assumption
      try simp only [Act.put, List.setIfInBounds_toArray, List.set_cons_zero, List.set_cons_succ]
      try simp only [F0.out, F1.out]
      refine wpAnyH_take (i := 5) (oi := ?_) (v := ?_) ?_ ?_ ?_ ?_ ?_ ?_ ?_ ?_
      rotate_left 2
      · (simp only [List.getElem?_toArray, List.getElem?_cons_succ, List.getElem?_cons_zero]; exact rfl)
      · kernel_rfl
      · kernel_rfl
      · kernel_rfl
      · exact fun _ _ _ h => h
      · first | (refine Or.inl ⟨by rfl, ?_⟩; intro w hSw; (try dsimp only at hSw); go_simp; try with_reducible rfl) | (refine Or.inr ⟨by rfl, ?_⟩; rfl)
      · assumption
      try simp only [Act.put, List.setIfInBounds_toArray, List.set_cons_zero, List.set_cons_succ]
      try simp only [F0.out, F1.out]
      refine wpAnyH_take (i := 6) (oi := ?_) (v := ?_) ?_ ?_ ?_ ?_ ?_ ?_ ?_ ?_
      rotate_left 2
      · (simp only [List.getElem?_toArray, List.getElem?_cons_succ, List.getElem?_cons_zero]; exact rfl)
      · kernel_rfl
      · kernel_rfl
      · kernel_rfl
      · exact fun _ _ _ h => h
      · first | ((refine Or.inl ⟨by rfl, ?_⟩; intro w hSw; obtain ⟨hS1, hS2, hS3, hS4, hS5⟩ := hSw; go_simp; try with_reducible rfl)) | (refine Or.inr ⟨by rfl, ?_⟩; rfl)
      · assumption
      try simp only [Act.put, List.setIfInBounds_toArray, List.set_cons_zero, List.set_cons_succ]
      try simp only [F0.out, F1.out]
      refine wpAnyH_take (i := 8) (oi := ?_) (v := ?_) ?_ ?_ ?_ ?_ ?_ ?_ ?_ ?_
      rotate_left 2
      · (simp only [List.getElem?_toArray, List.getElem?_cons_succ, List.getElem?_cons_zero]; exact rfl)
      · kernel_rfl
      · kernel_rfl
      · kernel_rfl
      · exact fun _ _ _ h => h
      · first | ((refine Or.inl ⟨by rfl, ?_⟩; intro w hSw; obtain ⟨hS1, hS2, hS3, hS4, hS5⟩ := hSw; go_simp; try with_reducible rfl)) | (refine Or.inr ⟨by rfl, ?_⟩; rfl)
      · assumption
      try simp only [Act.put, List.setIfInBounds_toArray, List.set_cons_zero, List.set_cons_succ]
      try simp only [F0.out, F1.out]
      refine wpAnyH_ready (rs := [7]) (by kernel_rfl) (by simp) ?_
      refine AllReadyH.cons (o := ?_) ?_ (fun K hK => ?_) ?_
      rotate_left 1
      · (simp only [List.getElem?_toArray, List.getElem?_cons_succ, List.getElem?_cons_zero]; exact rfl)
      · go_simp
        ((first | (go_at_call 10; (with_reducible refine (KR.out _ _ hx).mono ?_); rintro e wx ⟨rfl, hx⟩; dsimp only) | (go_at_call 11; (with_reducible refine (KS.out _ _ hx).mono ?_); rintro e wx ⟨rfl, hx⟩; dsimp only) | (go_at_call 12; (with_reducible refine (KT.out _ _ hx).mono ?_); rintro e wx ⟨rfl, hx⟩; dsimp only) | (go_at_call 13; (with_reducible refine (KU.out _ _ hx).mono ?_); rintro e wx ⟨rfl, hx⟩; dsimp only)))
        refine hK.out _ _ ?_ (fun hHeld => ?_)
        · (try dsimp only) <;> (exact SX.out _ hx)
        clear hK K
        try simp only [Act.put, List.setIfInBounds_toArray, List.set_cons_zero, List.set_cons_succ]
        try simp only [F0.out, F1.out]
        refine wpAnyH_ready (rs := [9]) (by kernel_rfl) (by simp) ?_
        refine AllReadyH.cons (o := ?_) ?_ (fun K hK => ?_) ?_
        rotate_left 1
        · (simp only [List.getElem?_toArray, List.getElem?_cons_succ, List.getElem?_cons_zero]; exact rfl)
        · go_simp
          ((first | (go_at_call 10; (with_reducible refine (KR.out _ _ hx).mono ?_); rintro e wx ⟨rfl, hx⟩; dsimp only) | (go_at_call 11; (with_reducible refine (KS.out _ _ hx).mono ?_); rintro e wx ⟨rfl, hx⟩; dsimp only) | (go_at_call 12; (with_reducible refine (KT.out _ _ hx).mono ?_); rintro e wx ⟨rfl, hx⟩; dsimp only) | (go_at_call 13; (with_reducible refine (KU.out _ _ hx).mono ?_); rintro e wx ⟨rfl, hx⟩; dsimp only)))
          refine hK.out _ _ ?_ (fun hHeld => ?_)
          · (try dsimp only) <;> (exact SX.out _ hx)
          clear hK K
          try simp only [Act.put, List.setIfInBounds_toArray, List.set_cons_zero, List.set_cons_succ]
          try simp only [F0.out, F1.out]
          refine wpAnyH_take (i := 10) (oi := ?_) (v := ?_) ?_ ?_ ?_ ?_ ?_ ?_ ?_ ?_
          rotate_left 2
          · (simp only [List.getElem?_toArray, List.getElem?_cons_succ, List.getElem?_cons_zero]; exact rfl)
          · kernel_rfl
          · kernel_rfl
          · kernel_rfl
          · exact fun _ _ _ h => h
          · first | (refine Or.inl ⟨by rfl, ?_⟩; intro w hSw; (try dsimp only at hSw); go_simp; try with_reducible rfl) | (refine Or.inr ⟨by rfl, ?_⟩; rfl)
          · assumption
          try simp only [Act.put, List.setIfInBounds_toArray, List.set_cons_zero, List.set_cons_succ]
          try simp only [F0.out, F1.out]
          refine wpAnyH_take (i := 11) (oi := ?_) (v := ?_) ?_ ?_ ?_ ?_ ?_ ?_ ?_ ?_
          rotate_left 2
          · (simp only [List.getElem?_toArray, List.getElem?_cons_succ, List.getElem?_cons_zero]; exact rfl)
          · kernel_rfl
          · kernel_rfl
          · kernel_rfl
          · exact fun _ _ _ h => h
          · first | (refine Or.inl ⟨by rfl, ?_⟩; intro w hSw; (try dsimp only at hSw); go_simp; try with_reducible rfl) | (refine Or.inr ⟨by rfl, ?_⟩; rfl)
          · assumption
          try simp only [Act.put, List.setIfInBounds_toArray, List.set_cons_zero, List.set_cons_succ]
          try simp only [F0.out, F1.out]
          refine wpAnyH_done (by kernel_rfl) ?_ _
          have HX := Lib.hid hx
          clear hx SX
          go_wp2_with fail
          rcases HPC.out with ⟨x, hpx, hrx, htx, okx, hnx⟩ | hpz
          · have kP := KP.out
            rw [hpx] at kP
            have kV : ∀ (v : World) (F : List (Nat × Obj)), St W v (fun b => W.heap[b]?) F → Calls Tryd.prog 11 #[.agg #[Value.int .i64 x.client, .int .i64 x.kind, .int .i64 x.slot, .int .i64 x.job, .string x.name]] v fun e w' => e = .returned (.bool true) ∧ St W w' (fun b => W.heap[b]?) F := fun v F hv => by
              have h := cref_right CVV.out.t CVV.out.t4 x okx hv
              rw [hrx] at h
              exact h
            have kX : ∀ (v : World) (F : List (Nat × Obj)), St W v (fun b => W.heap[b]?) F → Calls Tryd.prog 13 #[.agg #[Value.int .i64 x.client, .int .i64 x.kind, .int .i64 x.slot, .int .i64 x.job, .string x.name]] v fun e w' => e = .returned (.string s) ∧ St W w' (fun b => W.heap[b]?) F := fun v F hv => by
              have h := cref_text CVV.out x okx hnx hv
              rw [htx] at h
              exact h
            have KV := Lib.hid kV; have KX := Lib.hid kX
            refine (kP _ _ HX.out).mono ?_
            rintro e w2 hh
            obtain ⟨rfl, h2⟩ : e = .returned (.tuple #[.agg #[Value.int .i64 x.client, .int .i64 x.kind, .int .i64 x.slot, .int .i64 x.job, .string x.name], .int .i64 0]) ∧ St W w2 (fun b => W.heap[b]?) [(b, .cells #[Value.int .i64 c.client, .int .i64 c.kind, .int .i64 c.slot, .int .i64 c.job, .string c.name] 23 (0, 0))] := hh
            have h3 := h2.alloc (.cells #[Value.int .i64 x.client, .int .i64 x.kind, .int .i64 x.slot, .int .i64 x.job, .string x.name] 23)
            obtain ⟨n5, hn5⟩ : ∃ n, w2.heap.size = n := ⟨_, rfl⟩
            rw [hn5] at h3
            have ca := h3.cell (g := n5) (cs := #[Value.int .i64 x.client, .int .i64 x.kind, .int .i64 x.slot, .int .i64 x.job, .string x.name]) (t := 23) (fr := (0, 0)) (by simp)
            have ca0 := ca 0; have ca1 := ca 1; have ca2 := ca 2; have ca3 := ca 3; have ca4 := ca 4
            simp at ca0 ca1 ca2 ca3 ca4
            have H3 := Lib.hid h3
            clear kP kV kX hpx hrx htx okx hnx h2 h3 ca HX KP
            go_wp2_with fail
            refine (KV.out _ _ H3.out).mono ?_
            rintro e w3 ⟨rfl, h4⟩
            have ca := h4.cell (g := n5) (cs := #[Value.int .i64 x.client, .int .i64 x.kind, .int .i64 x.slot, .int .i64 x.job, .string x.name]) (t := 23) (fr := (0, 0)) (by simp)
            have ca0 := ca 0; have ca1 := ca 1; have ca2 := ca 2; have ca3 := ca 3; have ca4 := ca 4
            simp at ca0 ca1 ca2 ca3 ca4
            have H4 := Lib.hid h4
            clear h4 ca H3 KV
            go_wp2_with fail
            refine (KX.out _ _ H4.out).mono ?_
            rintro e w4 ⟨rfl, h5⟩
            have qt : (!(s.toList == s.toList)) = false := by simp
            have h6 : St W w4 (fun b => W.heap[b]?) [(n5, .cells #[Value.int .i64 x.client, .int .i64 x.kind, .int .i64 x.slot, .int .i64 x.job, .string x.name] 23 (0, 0)), (b, .cells #[Value.int .i64 c.client, .int .i64 c.kind, .int .i64 c.slot, .int .i64 c.job, .string c.name] 23 (0, 0))] := h5
            clear h5 H4 KX
            have cb := h6.cell (g := b) (cs := #[Value.int .i64 c.client, .int .i64 c.kind, .int .i64 c.slot, .int .i64 c.job, .string c.name]) (t := 23) (fr := (0, 0)) (by simp)
            have cb0 := cb 0; have cb1 := cb 1; have cb2 := cb 2; have cb3 := cb 3; have cb4 := cb 4
            simp at cb0 cb1 cb2 cb3 cb4
            have H6 := Lib.hid h6
            clear h6 cb
            go_wp2_with fail
            refine (KS.out _ _ H6.out).mono ?_
            rintro e w6 ⟨rfl, h7⟩
            have HF : Hid (Below W.heap.size W w6) := Lib.hid (h7.below (Le.refl _))
            cases R with
            | false =>
              clear h7
              go_wp2_with fail
              go_ret
              exact ⟨rfl, HF.out⟩
            | true =>
              have KQ2 := Lib.hid (KQ.out rfl)
              have cb := h7.cell (g := b) (cs := #[Value.int .i64 c.client, .int .i64 c.kind, .int .i64 c.slot, .int .i64 c.job, .string c.name]) (t := 23) (fr := (0, 0)) (by simp)
              have cb0 := cb 0; have cb1 := cb 1; have cb2 := cb 2; have cb3 := cb 3; have cb4 := cb 4
              simp at cb0 cb1 cb2 cb3 cb4
              have H7 := Lib.hid h7
              clear h7 cb HF
              go_wp2_with fail
              refine (KU.out _ _ H7.out).mono ?_
              rintro e w7 ⟨rfl, h8⟩
              have H8 := Lib.hid h8
              clear h8 H7
              go_wp2_with fail
              refine (KQ2.out _ _ H8.out).mono ?_
              rintro e w8 ⟨rfl, h9⟩
              have h10 := h9.alloc (.cells #[Value.int .i64 c.client, .int .i64 c.kind, .int .i64 c.slot, .int .i64 c.job, .string c.name] 23)
              have ca := h10.cell (g := w8.heap.size) (cs := #[Value.int .i64 c.client, .int .i64 c.kind, .int .i64 c.slot, .int .i64 c.job, .string c.name]) (t := 23) (fr := (0, 0)) (by simp)
              have cb := h10.cell (g := b) (cs := #[Value.int .i64 c.client, .int .i64 c.kind, .int .i64 c.slot, .int .i64 c.job, .string c.name]) (t := 23) (fr := (0, 0)) (by simp)
              have ca0 := ca 0; have ca1 := ca 1; have ca2 := ca 2; have ca3 := ca 3; have ca4 := ca 4
              have cb0 := cb 0; have cb1 := cb 1; have cb2 := cb 2; have cb3 := cb 3; have cb4 := cb 4
              simp at ca0 ca1 ca2 ca3 ca4 cb0 cb1 cb2 cb3 cb4
              have HF : Hid (Below W.heap.size W _) := Lib.hid (h10.below (Le.refl _))
              have qe := QE.out
              clear h9 h10 ca cb H8
              go_wp2_with fail
              go_ret
              exact ⟨rfl, HF.out⟩
          · have kP := KP.out
            rw [hpz] at kP
            refine (kP _ _ HX.out).mono ?_
            rintro e w2 hh
            obtain ⟨rfl, h2⟩ : e = .returned (.tuple #[.agg #[Value.int .i64 0, .int .i64 0, .int .i64 0, .int .i64 0, .string ⟨#[]⟩], .int .i64 241]) ∧ St W w2 (fun b => W.heap[b]?) [(b, .cells #[Value.int .i64 c.client, .int .i64 c.kind, .int .i64 c.slot, .int .i64 c.job, .string c.name] 23 (0, 0))] := hh
            have h6 := h2.alloc (.cells #[Value.int .i64 0, .int .i64 0, .int .i64 0, .int .i64 0, .string ⟨#[]⟩] 23)
            obtain ⟨n5, hn5⟩ : ∃ n, w2.heap.size = n := ⟨_, rfl⟩
            rw [hn5] at h6
            have ca := h6.cell (g := n5) (cs := #[Value.int .i64 0, .int .i64 0, .int .i64 0, .int .i64 0, .string ⟨#[]⟩]) (t := 23) (fr := (0, 0)) (by simp)
            have ca0 := ca 0; have ca1 := ca 1; have ca2 := ca 2; have ca3 := ca 3; have ca4 := ca 4
            simp at ca0 ca1 ca2 ca3 ca4
            clear kP hpz h2 ca HX KP
            have qz : ∀ w, (Op.equalIn 10000 23 (.agg #[Value.int .i64 0, .int .i64 0, .int .i64 0, .int .i64 0, .string ⟨#[]⟩]) (.agg #[Value.int .i64 0, .int .i64 0, .int .i64 0, .int .i64 0, .string ⟨#[]⟩])).run Tryd.prog w = .ok true w := fun w => by
              have h := eq_call zC zC w
              rw [eqC_refl] at h
              exact h
            have cb := h6.cell (g := b) (cs := #[Value.int .i64 c.client, .int .i64 c.kind, .int .i64 c.slot, .int .i64 c.job, .string c.name]) (t := 23) (fr := (0, 0)) (by simp)
            have cb0 := cb 0; have cb1 := cb 1; have cb2 := cb 2; have cb3 := cb 3; have cb4 := cb 4
            simp at cb0 cb1 cb2 cb3 cb4
            have H6 := Lib.hid h6
            clear h6 cb
            go_wp2_with fail
            refine (KS.out _ _ H6.out).mono ?_
            rintro e w6 ⟨rfl, h7⟩
            have HF : Hid (Below W.heap.size W w6) := Lib.hid (h7.below (Le.refl _))
            cases R with
            | false =>
              clear h7
              go_wp2_with fail
              go_ret
              exact ⟨rfl, HF.out⟩
            | true =>
              have KQ2 := Lib.hid (KQ.out rfl)
              have cb := h7.cell (g := b) (cs := #[Value.int .i64 c.client, .int .i64 c.kind, .int .i64 c.slot, .int .i64 c.job, .string c.name]) (t := 23) (fr := (0, 0)) (by simp)
              have cb0 := cb 0; have cb1 := cb 1; have cb2 := cb 2; have cb3 := cb 3; have cb4 := cb 4
              simp at cb0 cb1 cb2 cb3 cb4
              have H7 := Lib.hid h7
              clear h7 cb HF
              go_wp2_with fail
              refine (KU.out _ _ H7.out).mono ?_
              rintro e w7 ⟨rfl, h8⟩
              have H8 := Lib.hid h8
              clear h8 H7
              go_wp2_with fail
              refine (KQ2.out _ _ H8.out).mono ?_
              rintro e w8 ⟨rfl, h9⟩
              have h10 := h9.alloc (.cells #[Value.int .i64 c.client, .int .i64 c.kind, .int .i64 c.slot, .int .i64 c.job, .string c.name] 23)
              have ca := h10.cell (g := w8.heap.size) (cs := #[Value.int .i64 c.client, .int .i64 c.kind, .int .i64 c.slot, .int .i64 c.job, .string c.name]) (t := 23) (fr := (0, 0)) (by simp)
              have cb := h10.cell (g := b) (cs := #[Value.int .i64 c.client, .int .i64 c.kind, .int .i64 c.slot, .int .i64 c.job, .string c.name]) (t := 23) (fr := (0, 0)) (by simp)
              have ca0 := ca 0; have ca1 := ca 1; have ca2 := ca 2; have ca3 := ca 3; have ca4 := ca 4
              have cb0 := cb 0; have cb1 := cb 1; have cb2 := cb 2; have cb3 := cb 3; have cb4 := cb 4
              simp at ca0 ca1 ca2 ca3 ca4 cb0 cb1 cb2 cb3 cb4
              have HF : Hid (Below W.heap.size W _) := Lib.hid (h10.below (Le.refl _))
              have qe := QE.out
              clear h9 h10 ca cb H8
              go_wp2_with fail
              go_ret
              exact ⟨rfl, HF.out⟩
        exact AllReadyH.nil
      exact AllReadyH.nil
    exact AllReadyH.nil
  exact AllReadyH.nil
end Go.Proofs.YtjcekmmieihllaaDoor
