/- call: a desk: Answer: walk. call: a desk: Take: walk. call: a desk: Next: walk. call: a desk: Drop: walk. -/
import Derived.Test.YtjcekmmieihllaaDoorDeskB
namespace Go.Proofs.YtjcekmmieihllaaDoor
section
set_option linter.unusedVariables false
set_option linter.unusedSimpArgs false
set_option linter.unnecessarySimpa false
open Go.RowKit Go.Lib

theorem ansD_hit : ∀ (ps : List Pn) (s : Int) (r : Rp) (k : Nat) (p : Pn), ps[k]? = some p → (p.stage = 2 ∧ p.serial = s) → (∀ (j : Nat) (q : Pn), j < k → ps[j]? = some q → ¬ (q.stage = 2 ∧ q.serial = s)) → ansD ps s r = (ps.set k { p with stage := 3, rep := r }, true)
  | [], s, r, k, p, h, _, _ => by simp at h
  | x :: ps, s, r, 0, p, h, hm, hb => by
    simp only [List.getElem?_cons_zero, Option.some.injEq] at h
    subst h
    rw [ansD, if_pos hm]
    rfl
  | x :: ps, s, r, k + 1, p, h, hm, hb => by
    rw [ansD, if_neg (hb 0 x (by omega) rfl), ansD_hit ps s r k p (by simpa using h) hm (fun j q hj hq => hb (j + 1) q (by omega) (by simpa using hq))]
    rfl
theorem ansD_no : ∀ (ps : List Pn) (s : Int) (r : Rp), (∀ (j : Nat) (q : Pn), ps[j]? = some q → ¬ (q.stage = 2 ∧ q.serial = s)) → ansD ps s r = (ps, false)
  | [], s, r, _ => rfl
  | x :: ps, s, r, h => by
    rw [ansD, if_neg (h 0 x rfl), ansD_no ps s r (fun j q hq => h (j + 1) q (by simpa using hq))]
theorem rp_info (r : Rp) (ok : r.Ok) : (Tryd.prog.info? 44).map (·.size) = some r.cells.size := by rw [r.size ok]; kernel_rfl
/-- What is pending is answered: two stores. -/
theorem dcells_ans {ps : List Pn} (ok : AllOk ps) {k : Nat} {p : Pn} (hp : ps[k]? = some p) (r : Rp) (okr : r.Ok) (x : Int) : setMany ((dcells ps).setIfInBounds (k * 87 + 6) (.int .i64 x)) (k * 87 + 7) r.cells.toList = dcells (ps.set k { p with stage := x, rep := r }) := by
  have hpok := ok p (List.mem_of_getElem? hp)
  have hk : k < ps.length := (List.getElem?_eq_some_iff.1 hp).1
  have hq : ({ p with stage := x, rep := r } : Pn).Ok := ⟨hpok.c, okr, hpok.n⟩
  have h1 : p.list.set 6 (.int .i64 x) = ({ p with stage := x } : Pn).list := rfl
  have hq1 : ({ p with stage := x } : Pn).Ok := ⟨hpok.c, hpok.r, hpok.n⟩
  rw [dcells_set ok hp 6 (by omega) _ _ h1]
  have hs := dcells_size (ok.set k hq1)
  have hs2 := dcells_size (ok.set k hq)
  rw [List.length_set] at hs hs2
  have hl : r.cells.toList.length = 80 := by rw [Array.length_toList]; exact r.size okr
  have hfit : (k + 1) * 87 ≤ ps.length * 87 := Nat.mul_le_mul_right _ hk
  apply Array.ext_getElem?
  intro i
  rw [setMany_get _ _ _ _ (by rw [hl, hs]; omega), hl]
  by_cases hi : i < ps.length * 87
  · have e : i = (i / 87) * 87 + i % 87 := by omega
    have hm : i % 87 < 87 := Nat.mod_lt _ (by omega)
    by_cases hki : i / 87 = k
    · have hp1 : (ps.set k { p with stage := x })[i / 87]? = some { p with stage := x } := by rw [hki, List.getElem?_set_self hk]
      have hp2 : (ps.set k { p with stage := x, rep := r })[i / 87]? = some { p with stage := x, rep := r } := by rw [hki, List.getElem?_set_self hk]
      have e1 := dcells_get (ok.set k hq1) hp1 (i % 87) hm
      have e2 := dcells_get (ok.set k hq) hp2 (i % 87) hm
      rw [← e] at e1 e2
      rw [e1, e2]
      by_cases h7 : 7 ≤ i % 87
      · rw [if_pos (by omega), show i % 87 = 7 + (i - (k * 87 + 7)) by omega, pn_rep, ← Array.getElem?_toList]
      · rw [if_neg (by omega)]
        rcases (by omega : i % 87 = 0 ∨ i % 87 = 1 ∨ i % 87 = 2 ∨ i % 87 = 3 ∨ i % 87 = 4 ∨ i % 87 = 5 ∨ i % 87 = 6) with h | h | h | h | h | h | h <;> rw [h] <;> rfl
    · obtain ⟨q, hq0⟩ : ∃ q, ps[i / 87]? = some q := ⟨_, List.getElem?_eq_getElem (by omega)⟩
      have e1 := dcells_get (ok.set k hq1) (show (ps.set k { p with stage := x })[i / 87]? = some q by rw [List.getElem?_set_ne (by omega), hq0]) (i % 87) hm
      have e2 := dcells_get (ok.set k hq) (show (ps.set k { p with stage := x, rep := r })[i / 87]? = some q by rw [List.getElem?_set_ne (by omega), hq0]) (i % 87) hm
      rw [← e] at e1 e2
      rw [e1, if_neg (by omega), e2]
  · rw [if_neg (by omega), Array.getElem?_eq_none (by omega), Array.getElem?_eq_none (by omega)]
section
variable {W w : World} {I : Nat → Option Obj} {F : List (Nat × Obj)} {gd gc : Nat} {ps : List Pn} {last : Int}
set_option maxRecDepth 100000 in
set_option maxHeartbeats 8000000 in
theorem desk_answer (ok : AllOk ps) (hn : ps.length ≤ 8) (s : Int) (r : Rp) (okr : r.Ok) (h : St W w I (DeskL gd gc ps last ++ F)) :
    Calls Tryd.prog 20 #[.pointer (some ⟨gd, 0, none⟩), .int .i64 s, .agg r.cells] w fun e w' => e = .returned (.bool (ansD ps s r).2) ∧
      St W w' I (DeskL gd gc (ansD ps s r).1 last ++ F) := by
  have h0 := (h.alloc (.cells r.cells 44)).perm (perm3b _ _ _ _)
  have hrp : (w.alloc (.cells r.cells 44)).heap.size = w.heap.size + 1 := World.size_alloc _ _
  have inf := rp_info r okr
  have one := r.one
  have siz := r.size okr
  have dans := fun (k : Nat) (p : Pn) (hp : ps[k]? = some p) => dcells_ans ok hp r okr 3
  have hca := fun (v : World) (F : List (Nat × Obj)) (hv : St W v I (DeskL gd gc ps last ++ F)) => hv.cell (g := gd) (cs := #[.slice (some ⟨gc, 0, none⟩) ps.length ps.length, .int .i64 last]) (t := 86) (fr := (0, 0)) (by simp [DeskL]) 0
  have c0 := hca _ _ h0
  simp at c0
  obtain ⟨n, hnl⟩ : ∃ n, ps.length = n := ⟨_, rfl⟩
  rw [hnl] at c0
  obtain ⟨b, hb⟩ : ∃ b, w.heap.size = b := ⟨_, rfl⟩
  rw [hb] at h0 hrp
  have H0 := Lib.hid h0; have HN := Lib.hid hnl; have INF := Lib.hid inf; have ONE := Lib.hid one; have SIZ := Lib.hid siz; have DANS := Lib.hid dans; have HCA := Lib.hid hca; have HA := Lib.hid (ansD_hit ps s r); have HB := Lib.hid (ansD_no ps s r)
  rw [hnl] at hn
  have OKR := Lib.hid okr
  clear h h0 hnl inf one siz dans okr hrp hca
  generalize r.cells = R at *
  go_enter Tryd.func20, Tryd.ntmps20
  go_wp2_with fail
  go_loopw [14] (fun i wr => ∃ k : Nat, i = .int .i64 k ∧ k ≤ n ∧ (∀ (j : Nat) (q : Pn), j < k → ps[j]? = some q → ¬ (q.stage = 2 ∧ q.serial = s)) ∧ St W wr I (DeskL gd gc ps last ++ ((b, .cells R 44 (0, 0)) :: F))) (fun i _ => n - (intOf i).toNat)
  case atStart => exact ⟨0, rfl, by omega, by simp, H0.out⟩
  case round =>
    obtain ⟨k, rfl, hk, hno, hst⟩ := hrel
    clear H0 c0
    by_cases hlt : k < n
    · obtain ⟨p, hp⟩ : ∃ p, ps[k]? = some p := ⟨_, List.getElem?_eq_getElem (by rw [HN.out]; exact hlt)⟩
      have hpn := pn_at p
      have c5 := ok.stage hp hst 5 (by omega)
      have c6 := ok.stage hp hst 6 (by omega)
      rw [hpn.2.2.2.2.2.1] at c5
      rw [hpn.2.2.2.2.2.2] at c6
      have c0 := HCA.out _ _ hst
      simp at c0
      rw [HN.out] at c0
      have hkI : (k : Int) < (n : Int) := by omega
      have hk0 : ¬ (k : Int) < 0 := by omega
      have H1 := Lib.hid hst; have HP := Lib.hid hp; have HNO := Lib.hid hno
      clear hst hp hno hpn
      have hstep : ¬ (p.stage = 2 ∧ p.serial = s) → ∀ wx, St W wx I (DeskL gd gc ps last ++ ((b, .cells R 44 (0, 0)) :: F)) → ∃ k' : Nat, Value.int .i64 ((k : Int) + 1) = .int .i64 k' ∧ k' ≤ n ∧ (∀ (j : Nat) (q : Pn), j < k' → ps[j]? = some q → ¬ (q.stage = 2 ∧ q.serial = s)) ∧ St W wx I (DeskL gd gc ps last ++ ((b, .cells R 44 (0, 0)) :: F)) := fun hne wx hx =>
        ⟨k + 1, rfl, by omega, fun j q hj hq => by
          by_cases hjk : j = k
          · subst hjk
            rw [HP.out] at hq
            injection hq with hq
            rw [← hq]
            exact hne
          · exact HNO.out j q (by omega) hq, hx⟩
      have HSTEP := Lib.hid hstep
      clear hstep
      by_cases hs2 : p.stage = 2
      · by_cases hsr : p.serial = s
        · have hit := HA.out k p HP.out ⟨hs2, hsr⟩ HNO.out
          have HIT := Lib.hid hit
          have hsz := dcells_size ok
          have hq1 : ({ p with stage := 3 } : Pn).Ok := ⟨(ok p (List.mem_of_getElem? HP.out)).c, (ok p (List.mem_of_getElem? HP.out)).r, (ok p (List.mem_of_getElem? HP.out)).n⟩
          have fit : k * 87 + 7 + R.size ≤ ((dcells ps).setIfInBounds (k * 87 + 6) (.int .i64 3)).size := by
            have : (k + 1) * 87 ≤ n * 87 := Nat.mul_le_mul_right _ hlt
            rw [SIZ.out, Array.size_setIfInBounds, hsz, HN.out]
            omega
          have row := DANS.out k p HP.out
          have hlen : (ps.set k { p with stage := 3, rep := r }).length = ps.length := List.length_set
          have HDAT := Lib.hid row; have FIT := Lib.hid fit; have HLEN := Lib.hid hlen
          obtain ⟨sg, hsg⟩ : ∃ x, p.stage = x := ⟨_, rfl⟩
          obtain ⟨se, hse⟩ : ∃ x, p.serial = x := ⟨_, rfl⟩
          rw [hsg] at c6 hs2
          rw [hse] at c5 hsr
          subst hs2; subst hsr
          have hu := H1.out.perm (show (DeskL gd gc ps last ++ ((b, .cells R 44 (0, 0)) :: F)).Perm ((gc, .cells (dcells ps) 90 (0, 0)) :: (gd, .cells #[.slice (some ⟨gc, 0, none⟩) ps.length ps.length, .int .i64 last] 86 (0, 0)) :: (b, .cells R 44 (0, 0)) :: F) from List.Perm.swap _ _ _)
          have sx : ∀ v, ∀ D : Array Value, D[k * 87 + 6]?.isSome = true → St W v I ((gc, Obj.cells D 90 (0, 0)) :: (gd, .cells #[.slice (some ⟨gc, 0, none⟩) ps.length ps.length, .int .i64 last] 86 (0, 0)) :: (b, .cells R 44 (0, 0)) :: F) → (v.rangeAt b 0 R.toList ∧ (v.cell? ⟨gc, k * 87 + 6, none⟩).isSome = true ∧ v.frozen? ⟨gc, k * 87 + 6, none⟩ = false) := fun v D hD hv => by
            refine ⟨hv.rangeAt (g := b) (cs := R) (t := 44) (fr := (0, 0)) (by simp) (fun j hj => by rw [Nat.zero_add, Array.getElem?_toList]), ?_, hv.frozen (g := gc) (cs := D) (t := 90) (by simp) _⟩
            rw [hv.cell (g := gc) (cs := D) (t := 90) (fr := (0, 0)) (by simp)]
            exact hD
          have hD0 : (dcells ps)[k * 87 + 6]?.isSome = true := by rw [dcells_get ok HP.out 6 (by omega), (pn_at p).2.2.2.2.2.2]; rfl
          have hx := hu.drew1
          have hx2 := St.set (A := []) hx (k * 87 + 6) (.int .i64 3)
          have hD1 : ((dcells ps).setIfInBounds (k * 87 + 6) (.int .i64 3))[k * 87 + 6]?.isSome = true := by
            have hlt6 : k * 87 + 6 < (dcells ps).size := by
              cases h9 : (dcells ps)[k * 87 + 6]? with
              | none => rw [h9] at hD0; cases hD0
              | some x => exact (Array.getElem?_eq_some_iff.1 h9).1
            rw [Array.getElem?_setIfInBounds_self_of_lt hlt6]
            rfl
          have hp3 : (ps.set k { p with stage := 3, rep := r })[k]? = some { p with stage := 3, rep := r } := List.getElem?_set_self (by rw [HN.out]; exact hlt)
          have hq3 : ({ p with stage := 3, rep := r } : Pn).Ok := ⟨hq1.c, OKR.out, hq1.n⟩
          have hD2 : (dcells (ps.set k { p with stage := 3, rep := r }))[k * 87 + 6]?.isSome = true := by rw [dcells_get (ok.set k hq3) hp3 6 (by omega)]; rfl
          have HD2 := Lib.hid hD2
          clear hp3 hq3 hD2
          have HUL := Lib.hid Tryd.underlying44
          have HMA : Hid ((Tryd.prog.info? 44).map (·.size) = some R.toList.length) := Lib.hid (by rw [INF.out, Array.length_toList])
          have SX := Lib.hid sx; have HD0 := Lib.hid hD0; have HD1 := Lib.hid hD1; have HX2 := Lib.hid hx2
          clear sx hD0 hD1 hu row fit hlen hsz hq1 hit H1 hx2
          go_wp2_with fail
          refine wp_region_held_drew (S := fun v => (v.rangeAt b 0 R.toList ∧ (v.cell? ⟨gc, k * 87 + 6, none⟩).isSome = true ∧ v.frozen? ⟨gc, k * 87 + 6, none⟩ = false)) (by kernel_rfl) (SX.out _ _ HD0.out hx) (fun hHeld => ?_)
          refine wpAnyH_take (i := 0) (oi := ?_) (v := ?_) ?_ ?_ ?_ ?_ ?_ ?_ ?_ ?_
          rotate_left 2
          · (simp only [List.getElem?_toArray, List.getElem?_cons_succ, List.getElem?_cons_zero]; exact rfl)
          · kernel_rfl
          · kernel_rfl
          · kernel_rfl
          · exact fun _ _ _ h => h
          · first | (refine Or.inl ⟨by rfl, ?_⟩; intro w hSw; (try dsimp only at hSw); go_simp; try with_reducible rfl) | (refine Or.inr ⟨by rfl, ?_⟩; rfl)
          · assumption
          try simp only [Act.put, List.setIfInBounds_toArray, List.set_cons_zero, List.set_cons_succ]
          refine wpAnyH_take (i := 1) (oi := ?_) (v := ?_) ?_ ?_ ?_ ?_ ?_ ?_ ?_ ?_
          rotate_left 2
          · (simp only [List.getElem?_toArray, List.getElem?_cons_succ, List.getElem?_cons_zero]; exact rfl)
          · kernel_rfl
          · kernel_rfl
          · kernel_rfl
          · exact fun _ _ _ h => h
          · first | (refine Or.inl ⟨by rfl, ?_⟩; intro w hSw; (try dsimp only at hSw); go_simp; try with_reducible rfl) | (refine Or.inr ⟨by rfl, ?_⟩; rfl)
          · assumption
          try simp only [Act.put, List.setIfInBounds_toArray, List.set_cons_zero, List.set_cons_succ]
          refine wpAnyH_take (i := 2) (oi := ?_) (v := ?_) ?_ ?_ ?_ ?_ ?_ ?_ ?_ ?_
          rotate_left 2
          · (simp only [List.getElem?_toArray, List.getElem?_cons_succ, List.getElem?_cons_zero]; exact rfl)
          · kernel_rfl
          · kernel_rfl
          · kernel_rfl
          · exact fun _ _ _ h => h
          · first | (first | ((refine yieldsIf_load_mid ?_ 44 (.tmp 5) ?_ b 0 ?_ R.toList _ ?_ HUL.out ?_ HMA.out) <;> first | rfl | exact fun w h => h.1) | (refine Or.inl ⟨by rfl, ?_⟩; intro w hSw; obtain ⟨hS1, hS2, hS3⟩ := hSw; go_simp; try with_reducible rfl)) | (refine Or.inr ⟨by rfl, ?_⟩; rfl)
          · assumption
          try simp only [Act.put, List.setIfInBounds_toArray, List.set_cons_zero, List.set_cons_succ]
          refine wpAnyH_take (i := 3) (oi := ?_) (v := ?_) ?_ ?_ ?_ ?_ ?_ ?_ ?_ ?_
          rotate_left 2
          · (simp only [List.getElem?_toArray, List.getElem?_cons_succ, List.getElem?_cons_zero]; exact rfl)
          · kernel_rfl
          · kernel_rfl
          · kernel_rfl
          · exact fun _ _ _ h => h
          · first | (refine Or.inl ⟨by rfl, ?_⟩; intro w hSw; (try dsimp only at hSw); go_simp; try with_reducible rfl) | (refine Or.inr ⟨by rfl, ?_⟩; rfl)
          · assumption
          try simp only [Act.put, List.setIfInBounds_toArray, List.set_cons_zero, List.set_cons_succ]
          refine wpAnyH_take (i := 4) (oi := ?_) (v := ?_) ?_ ?_ ?_ ?_ ?_ ?_ ?_ ?_
          rotate_left 2
          · (simp only [List.getElem?_toArray, List.getElem?_cons_succ, List.getElem?_cons_zero]; exact rfl)
          · kernel_rfl
          · kernel_rfl
          · kernel_rfl
          · exact fun _ _ _ h => h
          · first | (refine Or.inl ⟨by rfl, ?_⟩; intro w hSw; (try dsimp only at hSw); go_simp; try with_reducible rfl) | (refine Or.inr ⟨by rfl, ?_⟩; rfl)
          · assumption
          try simp only [Act.put, List.setIfInBounds_toArray, List.set_cons_zero, List.set_cons_succ]
          refine wpAnyH_ready (rs := [5]) (by kernel_rfl) (by simp) ?_
          refine AllReadyH.cons (o := ?_) ?_ (fun K hK => ?_) ?_
          rotate_left 1
          · (simp only [List.getElem?_toArray, List.getElem?_cons_succ, List.getElem?_cons_zero]; exact rfl)
          · go_simp
            refine hK.out _ _ ?_ (fun hHeld => ?_)
            · (try dsimp only) <;> (first | exact SX.out _ _ HD1.out HX2.out | exact SX.out _ _ HD0.out hx | exact hK9)
            clear hK K
            try simp only [Act.put, List.setIfInBounds_toArray, List.set_cons_zero, List.set_cons_succ]
            refine wpAnyH_take (i := 6) (oi := ?_) (v := ?_) ?_ ?_ ?_ ?_ ?_ ?_ ?_ ?_
            rotate_left 2
            · (simp only [List.getElem?_toArray, List.getElem?_cons_succ, List.getElem?_cons_zero]; exact rfl)
            · kernel_rfl
            · kernel_rfl
            · kernel_rfl
            · exact fun _ _ _ h => h
            · first | (refine Or.inl ⟨by rfl, ?_⟩; intro w hSw; (try dsimp only at hSw); go_simp; try with_reducible rfl) | (refine Or.inr ⟨by rfl, ?_⟩; rfl)
            · assumption
            try simp only [Act.put, List.setIfInBounds_toArray, List.set_cons_zero, List.set_cons_succ]
            refine wpAnyH_take (i := 7) (oi := ?_) (v := ?_) ?_ ?_ ?_ ?_ ?_ ?_ ?_ ?_
            rotate_left 2
            · (simp only [List.getElem?_toArray, List.getElem?_cons_succ, List.getElem?_cons_zero]; exact rfl)
            · kernel_rfl
            · kernel_rfl
            · kernel_rfl
            · exact fun _ _ _ h => h
            · first | (refine Or.inl ⟨by rfl, ?_⟩; intro w hSw; (try dsimp only at hSw); go_simp; try with_reducible rfl) | (refine Or.inr ⟨by rfl, ?_⟩; rfl)
            · assumption
            try simp only [Act.put, List.setIfInBounds_toArray, List.set_cons_zero, List.set_cons_succ]
            refine wpAnyH_ready (rs := [8]) (by kernel_rfl) (by simp) ?_
            refine AllReadyH.cons (o := ?_) ?_ (fun K hK => ?_) ?_
            rotate_left 1
            · (simp only [List.getElem?_toArray, List.getElem?_cons_succ, List.getElem?_cons_zero]; exact rfl)
            · ((refine step_store_st rfl 44 (.tmp 42) (.tmp 38) rfl (off := k * 87 + 7) R rfl rfl HX2.out FIT.out INF.out ONE.out ?_; intro w9 h9; rw [HDAT.out] at h9; have hK9 := SX.out _ _ HD2.out h9; dsimp only))
              refine hK.out _ _ ?_ (fun hHeld => ?_)
              · (try dsimp only) <;> (first | exact SX.out _ _ HD1.out HX2.out | exact SX.out _ _ HD0.out hx | exact hK9)
              clear hK K
              try simp only [Act.put, List.setIfInBounds_toArray, List.set_cons_zero, List.set_cons_succ]
              refine wpAnyH_done (by kernel_rfl) ?_ _
              have H9 := Lib.hid h9
              clear h9 hx SX
              go_wp2_with fail
              go_ret
              rw [HIT.out]
              refine ⟨rfl, ?_⟩
              unfold DeskL
              rw [HLEN.out]
              exact St.weaken (A := [_]) (H9.out.perm (perm3 _ _ _ _))
            exact AllReadyH.nil
          exact AllReadyH.nil
        · have hne : (p.serial == s) = false := beq_eq_false_iff_ne.2 hsr
          have hnn := HSTEP.out (fun hh => hsr hh.2)
          have HNN := Lib.hid hnn
          clear hnn HSTEP
          generalize p.serial = se at *
          generalize p.stage = sg at *
          subst hs2
          go_wp2_with fail
          exact ⟨HNN.out _ H1.out, by simp [intOf]; omega⟩
      · have hne : (p.stage == 2) = false := beq_eq_false_iff_ne.2 hs2
        have hnn := HSTEP.out (fun hh => hs2 hh.1)
        have HNN := Lib.hid hnn
        clear hnn HSTEP
        generalize p.serial = se at *
        generalize p.stage = sg at *
        go_wp2_with fail
        exact ⟨HNN.out _ H1.out, by simp [intOf]; omega⟩
    · have hkn : k = n := by omega
      subst hkn
      have hv := HB.out (fun j q hq => hno j q (by have := (List.getElem?_eq_some_iff.1 hq).1; rw [HN.out] at this; exact this) hq)
      have HV := Lib.hid hv
      have H1 := Lib.hid hst
      clear hst hv
      go_wp2_with fail
      go_ret
      rw [HV.out]
      exact ⟨rfl, St.weaken (A := [_]) (H1.out.perm (perm3c _ _ _ _))⟩
end
end

section
set_option linter.unusedVariables false
set_option linter.unusedSimpArgs false
set_option linter.unnecessarySimpa false
open Go.RowKit Go.Lib

theorem results_tmp_row_tmp {P : Program} {fn : Func} {q p r : Tmp} {ty : TypeId} (h : fn.results = #[.tmp q, .cell p ty, .tmp r]) (tmps : Array Value) (w : World) (g : Nat) (t : TypeId) (cs : Array Value) (fr : Nat × Nat) (d : TypeDesc) (v u : Value)
    (hq : tmps.getD q undef = v) (hp : tmps.getD p undef = .pointer (some ⟨g, 0, none⟩)) (hr : tmps.getD r undef = u) (hg : w.heap[g]? = some (.cells cs t fr))
    (hu : P.underlying ty = some d) (hd : (match d with | .struct _ | .array _ _ => true | _ => false) = true) (hi : (P.info? ty).map (·.size) = some cs.size) :
    (results fn tmps).run P w = .ok (.tuple #[v, .agg cs, u]) w := by
  have hp' : tmps[p]?.getD undef = .pointer (some ⟨g, 0, none⟩) := by simpa using hp
  have hq' : tmps[q]?.getD undef = v := by simpa using hq
  have hr' : tmps[r]?.getD undef = u := by simpa using hr
  simp [results, h, hp', hq', hr', asAddr, run_loadVar_row w g t ty cs fr d hg hu hd hi]
theorem perm4b {α : Type} (a b c d : α) (l : List α) : (a :: b :: c :: d :: l).Perm (d :: b :: c :: a :: l) :=
  ((perm3b a b c (d :: l)).trans (((List.Perm.swap d a l).cons c).cons b)).trans (perm3c b c d (a :: l))
theorem perm4c {α : Type} (a b c d : α) (l : List α) : (a :: b :: c :: d :: l).Perm (a :: c :: b :: d :: l) := (List.Perm.swap c b (d :: l)).cons a
section
variable {W w : World} {I : Nat → Option Obj} {F : List (Nat × Obj)} {gd gc : Nat} {ps : List Pn} {last : Int}
theorem zr_fit : 0 + zR.cells.size ≤ (Tryd.zeroCells44).size := by rw [zR.size zR_ok]; decide
theorem zr_whole (D : Array Value) (hD : D.size = 80) (r : Rp) (ok : r.Ok) : 0 + r.cells.size ≤ D.size ∧ setMany D 0 r.cells.toList = r.cells := ⟨by rw [r.size ok, hD]; omega, setMany_whole _ _ (by rw [Array.length_toList, r.size ok, hD])⟩
theorem zp_whole (D : Array Value) (hD : D.size = 87) (p : Pn) (ok : p.Ok) : 0 + p.cells.size ≤ D.size ∧ setMany D 0 p.cells.toList = p.cells := ⟨by rw [p.size ok, hD]; omega, setMany_whole _ _ (by rw [Array.length_toList, p.size ok, hD])⟩
set_option maxRecDepth 100000 in
set_option maxHeartbeats 8000000 in
theorem desk_take (ok : AllOk ps) (hn : ps.length ≤ 8) (i : Int) (h : St W w I (DeskL gd gc ps last ++ F)) :
    Calls Tryd.prog 21 #[.pointer (some ⟨gd, 0, none⟩), .int .i64 i] w fun e w' => e = .returned (.tuple #[.int .i64 (takeD ps i).2.1, .agg (takeD ps i).2.2.1.cells, .bool (takeD ps i).2.2.2]) ∧
      St W w' I (DeskL gd gc (takeD ps i).1 last ++ F) := by
  have h0 := (h.alloc (.cells Tryd.zeroCells44 44)).perm (perm3b _ _ _ _)
  have hz := zr_whole Tryd.zeroCells44 (by decide) zR zR_ok
  have inf := rp_info zR zR_ok
  have one := zR.one
  obtain ⟨b, hb⟩ : ∃ b, w.heap.size = b := ⟨_, rfl⟩
  have hsz : (w.alloc (.cells Tryd.zeroCells44 44)).heap.size = b + 1 := by rw [World.size_alloc, hb]
  rw [hb] at h0
  obtain ⟨T, hT⟩ : ∃ T, takeD ps i = T := ⟨_, rfl⟩
  rw [hT]
  have ht := hT
  unfold takeD at ht
  have FZ := Lib.hid hz.1; have MZ := Lib.hid hz.2; have IZ := Lib.hid inf; have OZ := Lib.hid one; have H0 := Lib.hid h0
  have ULR := Lib.hid Tryd.underlying44
  clear h h0 hz inf one hT hsz
  by_cases hi : i < 0 ∨ (ps.length : Int) ≤ i
  · have hv : atD ps i = none := by
      unfold atD
      by_cases h0 : 0 ≤ i
      · rw [if_pos h0, List.getElem?_eq_none (by omega)]
      · rw [if_neg h0]
    rw [hv] at ht
    dsimp only at ht
    subst ht
    have KC := Lib.hid (fun (v : World) (F : List (Nat × Obj)) (hv : St W v I (DeskL gd gc ps last ++ F)) => desk_client_no (F := F) hn i hi hv)
    clear hi hv
    go_enter Tryd.func21, Tryd.ntmps21
    go_wp2_with fail
    refine (KC.out _ _ H0.out).mono ?_
    rintro e w1 ⟨rfl, h1⟩
    have H1 := Lib.hid (h1.perm (perm3c _ _ _ _))
    clear h1 H0 KC
    go_wp2_with (with_reducible refine wpList_store_st rfl 44 (.tmp 5) (.tmp 21) rfl (off := 0) zR.cells rfl rfl H1.out FZ.out IZ.out OZ.out ?_; intro w9 h9; rw [MZ.out] at h9; have H9 := Lib.hid h9; clear h9)
    refine bodyPost_ret (results_tmp_row_tmp rfl _ _ b 44 zR.cells (0, 0) _ _ _ rfl rfl rfl (H9.out.own (b, .cells zR.cells 44 (0, 0)) (by simp)) ULR.out rfl IZ.out) rfl ⟨rfl, ?_⟩
    exact St.weaken (A := [_]) H9.out
  · obtain ⟨k, rfl⟩ : ∃ k : Nat, i = (k : Int) := ⟨i.toNat, by omega⟩
    have hkn : k < ps.length := by omega
    obtain ⟨p, hp⟩ : ∃ p, ps[k]? = some p := ⟨_, List.getElem?_eq_getElem hkn⟩
    have hv : atD ps (k : Int) = some p := by unfold atD; rw [if_pos (by omega), Int.toNat_natCast, hp]
    rw [hv] at ht
    dsimp only at ht
    rw [Int.toNat_natCast] at ht
    have KC := Lib.hid (fun (v : World) (F : List (Nat × Obj)) (hv : St W v I (DeskL gd gc ps last ++ F)) => desk_client (F := F) hn k hkn hv)
    have h6 := (pn_at p).2.2.2.2.2.2
    have hpok := ok p (List.mem_of_getElem? hp)
    clear hi hv
    by_cases hs : p.stage = 3
    · rw [if_pos hs] at ht
      rw [hs] at h6
      subst ht
      have hst := fun (v : World) (F : List (Nat × Obj)) (hv : St W v I (DeskL gd gc ps last ++ F)) => (ok.stage hp hv 6 (by omega)).trans h6
      have hys : ∀ j, j < p.cells.size → (dcells ps)[k * 87 + j]? = p.cells[j]? := fun j hj => dcells_get ok hp j (by rw [p.size hpok] at hj; exact hj)
      have infp := pn_info p hpok
      have onep := p.one
      have zp := zp_whole Tryd.zeroCells90 (by decide) p hpok
      have row := dcells_row ok hkn zP zP_ok
      have fit : k * 87 + zP.cells.size ≤ (dcells ps).size := by
        rw [Pn.size _ zP_ok, dcells_size ok]
        have : (k + 1) * 87 ≤ ps.length * 87 := Nat.mul_le_mul_right _ hkn
        omega
      have infz := pn_info zP zP_ok
      have onez := zP.one
      have hlen : (ps.set k zP).length = ps.length := List.length_set
      have p5 := (pn_at p).2.2.2.2.2.1
      have prep := fun j => pn_rep p j
      have zr := zr_whole Tryd.zeroCells44 (by decide) p.rep hpok.r
      have infr := rp_info p.rep hpok.r
      have oner := p.rep.one
      have HST := Lib.hid hst; have HYS := Lib.hid hys; have INP := Lib.hid infp; have ONP := Lib.hid onep; have FZP := Lib.hid zp.1; have MZP := Lib.hid zp.2; have ROW := Lib.hid row; have FIT := Lib.hid fit; have INZ := Lib.hid infz; have ONZ := Lib.hid onez; have HLEN := Lib.hid hlen; have P5 := Lib.hid p5; have PREP := Lib.hid prep; have FZR := Lib.hid zr.1; have MZR := Lib.hid zr.2; have INR := Lib.hid infr; have ONR := Lib.hid oner
      clear hst hys infp onep zp row fit infz onez hlen p5 prep zr infr oner hp h6 hpok hs FZ MZ IZ OZ
      dsimp only
      generalize p.cells = C at *
      generalize p.rep.cells = R at *
      generalize p.serial = se at *
      go_enter Tryd.func21, Tryd.ntmps21
      go_wp2_with fail
      refine (KC.out _ _ H0.out).mono ?_
      rintro e w1 ⟨rfl, h1⟩
      have c6 := HST.out _ _ h1
      have h2 := (h1.alloc (.cells Tryd.zeroCells90 90))
      obtain ⟨b8, hb8⟩ : ∃ x, w1.heap.size = x := ⟨_, rfl⟩
      rw [hb8] at h2
      have H1 := Lib.hid h1; have H2 := Lib.hid h2
      clear h1 h2 H0 KC HST
      go_wp2_with (first | (with_reducible refine wpList_load_st rfl 90 (.tmp 23) rfl (g := gc) (off := k * 87) rfl H1.out (cs := dcells ps) (t := 90) (fr := (0, 0)) (by simp [DeskL]) C HYS.out _ Tryd.underlying90 rfl INP.out ?_) | (with_reducible refine wpList_store_st rfl 90 (.tmp 8) (.tmp 24) rfl (off := 0) C rfl rfl H2.out FZP.out INP.out ONP.out ?_; intro w2 h2; rw [MZP.out] at h2; have H3 := Lib.hid (h2.perm (perm3 _ _ _ _)); clear h2) | (with_reducible refine wpList_store_st rfl 90 (.tmp 27) (.tmp 26) rfl (off := k * 87) zP.cells rfl rfl H3.out FIT.out INZ.out ONZ.out ?_; intro w3 h3; rw [ROW.out] at h3; have H4 := Lib.hid h3; clear h3 H3))
      have hx := (H4.out.perm (perm4b _ _ _ _ _)).drew1
      have sx : ∀ v, ∀ D : Array Value, St W v I ((b, Obj.cells D 44 (0, 0)) :: (gd, .cells #[.slice (some ⟨gc, 0, none⟩) ps.length ps.length, .int .i64 last] 86 (0, 0)) :: (b8, .cells C 90 (0, 0)) :: (gc, Obj.cells (dcells (ps.set k zP)) 90 (0, 0)) :: F) → (v.cell? ⟨b8, 5, none⟩ = some (.int .i64 se) ∧ v.rangeAt b8 7 R.toList) := fun v D hv =>
        ⟨by rw [hv.cell (g := b8) (cs := C) (t := 90) (fr := (0, 0)) (by simp)]; exact P5.out, hv.rangeAt (g := b8) (cs := C) (t := 90) (fr := (0, 0)) (by simp) (fun j hj => by rw [PREP.out, Array.getElem?_toList])⟩
      have SX := Lib.hid sx
      have HUL := Lib.hid Tryd.underlying44
      have HMA : Hid ((Tryd.prog.info? 44).map (·.size) = some R.toList.length) := Lib.hid (by rw [INR.out, Array.length_toList])
      clear sx H4 H1 H2 c6
      refine wp_region_held_drew (S := fun v => (v.cell? ⟨b8, 5, none⟩ = some (.int .i64 se) ∧ v.rangeAt b8 7 R.toList)) (by kernel_rfl) (SX.out _ _ hx) (fun hHeld => ?_)
      refine wpAnyH_take (i := 0) (oi := ?_) (v := ?_) ?_ ?_ ?_ ?_ ?_ ?_ ?_ ?_
      rotate_left 2
      · (simp only [List.getElem?_toArray, List.getElem?_cons_succ, List.getElem?_cons_zero]; exact rfl)
      · kernel_rfl
      · kernel_rfl
      · kernel_rfl
      · exact fun _ _ _ h => h
      · first | (refine Or.inl ⟨by rfl, ?_⟩; intro w hSw; (try dsimp only at hSw); go_simp; try with_reducible rfl) | (refine Or.inr ⟨by rfl, ?_⟩; rfl)
      · assumption
      try simp only [Act.put, List.setIfInBounds_toArray, List.set_cons_zero, List.set_cons_succ]
      refine wpAnyH_take (i := 1) (oi := ?_) (v := ?_) ?_ ?_ ?_ ?_ ?_ ?_ ?_ ?_
      rotate_left 2
      · (simp only [List.getElem?_toArray, List.getElem?_cons_succ, List.getElem?_cons_zero]; exact rfl)
      · kernel_rfl
      · kernel_rfl
      · kernel_rfl
      · exact fun _ _ _ h => h
      · first | (first | ((refine yieldsIf_load_mid ?_ 44 (.tmp 30) ?_ b8 7 ?_ R.toList _ ?_ HUL.out ?_ HMA.out) <;> first | rfl | exact fun w h => h.2) | (refine Or.inl ⟨by rfl, ?_⟩; intro w hSw; obtain ⟨hS1, hS2⟩ := hSw; go_simp; try with_reducible rfl)) | (refine Or.inr ⟨by rfl, ?_⟩; rfl)
      · assumption
      try simp only [Act.put, List.setIfInBounds_toArray, List.set_cons_zero, List.set_cons_succ]
      refine wpAnyH_take (i := 2) (oi := ?_) (v := ?_) ?_ ?_ ?_ ?_ ?_ ?_ ?_ ?_
      rotate_left 2
      · (simp only [List.getElem?_toArray, List.getElem?_cons_succ, List.getElem?_cons_zero]; exact rfl)
      · kernel_rfl
      · kernel_rfl
      · kernel_rfl
      · exact fun _ _ _ h => h
      · first | (refine Or.inl ⟨by rfl, ?_⟩; intro w hSw; (try dsimp only at hSw); go_simp; try with_reducible rfl) | (refine Or.inr ⟨by rfl, ?_⟩; rfl)
      · assumption
      try simp only [Act.put, List.setIfInBounds_toArray, List.set_cons_zero, List.set_cons_succ]
      refine wpAnyH_take (i := 3) (oi := ?_) (v := ?_) ?_ ?_ ?_ ?_ ?_ ?_ ?_ ?_
      rotate_left 2
      · (simp only [List.getElem?_toArray, List.getElem?_cons_succ, List.getElem?_cons_zero]; exact rfl)
      · kernel_rfl
      · kernel_rfl
      · kernel_rfl
      · exact fun _ _ _ h => h
      · first | (first | ((refine yieldsIf_load_mid ?_ 44 (.tmp 30) ?_ b8 7 ?_ R.toList _ ?_ HUL.out ?_ HMA.out) <;> first | rfl | exact fun w h => h.2) | (refine Or.inl ⟨by rfl, ?_⟩; intro w hSw; obtain ⟨hS1, hS2⟩ := hSw; go_simp; try with_reducible rfl)) | (refine Or.inr ⟨by rfl, ?_⟩; rfl)
      · assumption
      try simp only [Act.put, List.setIfInBounds_toArray, List.set_cons_zero, List.set_cons_succ]
      refine wpAnyH_take (i := 4) (oi := ?_) (v := ?_) ?_ ?_ ?_ ?_ ?_ ?_ ?_ ?_
      rotate_left 2
      · (simp only [List.getElem?_toArray, List.getElem?_cons_succ, List.getElem?_cons_zero]; exact rfl)
      · kernel_rfl
      · kernel_rfl
      · kernel_rfl
      · exact fun _ _ _ h => h
      · first | (refine Or.inl ⟨by rfl, ?_⟩; intro w hSw; (try dsimp only at hSw); go_simp; try with_reducible rfl) | (refine Or.inr ⟨by rfl, ?_⟩; rfl)
      · assumption
      try simp only [Act.put, List.setIfInBounds_toArray, List.set_cons_zero, List.set_cons_succ]
      refine wpAnyH_ready (rs := [5]) (by kernel_rfl) (by simp) ?_
      refine AllReadyH.cons (o := ?_) ?_ (fun K hK => ?_) ?_
      rotate_left 1
      · (simp only [List.getElem?_toArray, List.getElem?_cons_succ, List.getElem?_cons_zero]; exact rfl)
      · ((refine step_store_st rfl 44 (.tmp 5) (.tmp 31) rfl (off := 0) R rfl rfl hx FZR.out INR.out ONR.out ?_; intro w9 h9; rw [MZR.out] at h9; dsimp only))
        refine hK.out _ _ ?_ (fun hHeld => ?_)
        · (try dsimp only) <;> (first | exact SX.out _ _ hx | exact SX.out _ _ h9)
        clear hK K
        try simp only [Act.put, List.setIfInBounds_toArray, List.set_cons_zero, List.set_cons_succ]
        refine wpAnyH_take (i := 6) (oi := ?_) (v := ?_) ?_ ?_ ?_ ?_ ?_ ?_ ?_ ?_
        rotate_left 2
        · (simp only [List.getElem?_toArray, List.getElem?_cons_succ, List.getElem?_cons_zero]; exact rfl)
        · kernel_rfl
        · kernel_rfl
        · kernel_rfl
        · exact fun _ _ _ h => h
        · first | (refine Or.inl ⟨by rfl, ?_⟩; intro w hSw; (try dsimp only at hSw); go_simp; try with_reducible rfl) | (refine Or.inr ⟨by rfl, ?_⟩; rfl)
        · assumption
        try simp only [Act.put, List.setIfInBounds_toArray, List.set_cons_zero, List.set_cons_succ]
        refine wpAnyH_done (by kernel_rfl) ?_ _
        have H9 := Lib.hid h9
        clear h9 hx SX
        go_wp2_with fail
        refine bodyPost_ret (results_tmp_row_tmp rfl _ _ b 44 R (0, 0) _ _ _ rfl rfl rfl (H9.out.own (b, .cells R 44 (0, 0)) (by simp)) ULR.out rfl INR.out) rfl ⟨rfl, ?_⟩
        unfold DeskL
        rw [HLEN.out]
        exact St.weaken (A := [_, _]) (H9.out.perm (perm4c _ _ _ _ _))
      exact AllReadyH.nil
    · rw [if_neg hs] at ht
      subst ht
      have hst := fun (v : World) (F : List (Nat × Obj)) (hv : St W v I (DeskL gd gc ps last ++ F)) => (ok.stage hp hv 6 (by omega)).trans h6
      have hsb : (p.stage == 3) = false := beq_eq_false_iff_ne.2 hs
      have HST := Lib.hid hst
      clear hst hp h6 hpok
      generalize p.stage = sg at *
      go_enter Tryd.func21, Tryd.ntmps21
      go_wp2_with fail
      refine (KC.out _ _ H0.out).mono ?_
      rintro e w1 ⟨rfl, h1⟩
      have c6 := HST.out _ _ h1
      have H1 := Lib.hid (h1.perm (perm3c _ _ _ _))
      clear h1 H0 KC HST
      go_wp2_with (with_reducible refine wpList_store_st rfl 44 (.tmp 5) (.tmp 21) rfl (off := 0) zR.cells rfl rfl H1.out FZ.out IZ.out OZ.out ?_; intro w9 h9; rw [MZ.out] at h9; have H9 := Lib.hid h9; clear h9)
      refine bodyPost_ret (results_tmp_row_tmp rfl _ _ b 44 zR.cells (0, 0) _ _ _ rfl rfl rfl (H9.out.own (b, .cells zR.cells 44 (0, 0)) (by simp)) ULR.out rfl IZ.out) rfl ⟨rfl, ?_⟩
      exact St.weaken (A := [_]) H9.out
end
end

section
set_option linter.unusedVariables false
set_option linter.unusedSimpArgs false
set_option linter.unnecessarySimpa false
open Go.RowKit Go.Lib

theorem waitD_cons (p : Pn) (ps : List Pn) : waitD (p :: ps) = (if p.stage = 1 then 1 else 0) + waitD ps := by
  unfold waitD
  by_cases h : p.stage = 1
  · rw [if_pos h, List.filter_cons_of_pos (by simpa using h), List.length_cons, Nat.add_comm]
  · rw [if_neg h, List.filter_cons_of_neg (by simpa using h), Nat.zero_add]
theorem pick_step_no (p : Pn) (ps : List Pn) (l : Nat) (h : ¬ p.stage = 1) : pickD (p :: ps) l = (p :: (pickD ps l).1, (pickD ps l).2) := by cases l <;> simp [pickD, h]
theorem pick_step_zero (p : Pn) (ps : List Pn) (h : p.stage = 1) : pickD (p :: ps) 0 = ({ p with stage := 2 } :: ps, (p.serial, p.call)) := by simp [pickD, h]
theorem pick_step_succ (p : Pn) (ps : List Pn) (l : Nat) (h : p.stage = 1) : pickD (p :: ps) (l + 1) = (p :: (pickD ps l).1, (pickD ps l).2) := by simp [pickD, h]
theorem drop_cons_of {ps : List Pn} {k : Nat} {p : Pn} (hp : ps[k]? = some p) : ps.drop k = p :: ps.drop (k + 1) := by
  obtain ⟨hk, hv⟩ := List.getElem?_eq_some_iff.1 hp
  rw [List.drop_eq_getElem_cons hk, hv]
theorem perm_tail {α : Type} (a b c : α) (l : List α) : (a :: b :: c :: l).Perm (a :: c :: b :: l) := (List.Perm.swap c b l).cons a
section
variable {W w : World} {I : Nat → Option Obj} {F : List (Nat × Obj)} {gd gc : Nat} {ps : List Pn} {last : Int}
set_option maxRecDepth 100000 in
set_option maxHeartbeats 8000000 in
theorem desk_next (ok : AllOk ps) (hn : ps.length ≤ 8) (pick : Int) (hp1 : pick ≤ 9223372036854775807) (h : St W w I (DeskL gd gc ps last ++ F)) :
    Calls Tryd.prog 19 #[.pointer (some ⟨gd, 0, none⟩), .int .i64 pick] w fun e w' => e = .returned (.tuple #[.int .i64 (nextD ps pick).2.1, .agg (nextD ps pick).2.2.1.cells, .bool (nextD ps pick).2.2.2]) ∧
      St W w' I (DeskL gd gc (nextD ps pick).1 last ++ F) := by
  have h0 := (h.alloc (.cells #[Value.int .i64 0, .int .i64 0, .int .i64 0, .int .i64 0, .string ⟨#[]⟩] 23)).perm (perm3b _ _ _ _)
  obtain ⟨b, hb⟩ : ∃ b, w.heap.size = b := ⟨_, rfl⟩
  rw [hb] at h0
  have KW := Lib.hid (fun (v : World) (F : List (Nat × Obj)) (hv : St W v I (DeskL gd gc ps last ++ F)) => desk_waiting (F := F) ok hn hv)
  have hwl := waitD_le ps
  obtain ⟨T, hT⟩ : ∃ T, nextD ps pick = T := ⟨_, rfl⟩
  rw [hT]
  have ht := hT
  unfold nextD at ht
  have ULC := Lib.hid Tryd.underlying23
  have H0 := Lib.hid h0
  clear h h0 hT
  obtain ⟨m, hm⟩ : ∃ m, waitD ps = m := ⟨_, rfl⟩
  rw [hm] at ht hwl
  rw [hm] at KW
  by_cases hm0 : m = 0
  · subst hm0
    rw [if_pos rfl] at ht
    subst ht
    clear hm
    go_enter Tryd.func19, Tryd.ntmps19
    go_wp2_with fail
    refine (KW.out _ _ H0.out).mono ?_
    rintro e w1 ⟨rfl, h1⟩
    have H1 := Lib.hid (h1.perm (perm3c _ _ _ _))
    have FZ : Hid (0 + zC.cells.size ≤ (#[Value.int .i64 0, .int .i64 0, .int .i64 0, .int .i64 0, .string ⟨#[]⟩]).size) := Lib.hid (call_fit zC zC).1
    have MZ : Hid (setMany #[Value.int .i64 0, .int .i64 0, .int .i64 0, .int .i64 0, .string ⟨#[]⟩] 0 zC.cells.toList = zC.cells) := Lib.hid (call_fit zC zC).2
    have IZ := Lib.hid (call_info zC)
    have OZ := Lib.hid zC.one
    clear h1 H0 KW
    go_wp2_with (with_reducible refine wpList_store_st rfl 23 (.tmp 5) (.tmp 15) rfl (off := 0) zC.cells rfl rfl H1.out FZ.out IZ.out OZ.out ?_; intro w9 h9; rw [MZ.out] at h9; have H9 := Lib.hid h9; clear h9)
    refine bodyPost_ret (results_tmp_row_tmp rfl _ _ b 23 zC.cells (0, 0) _ _ _ rfl rfl rfl (H9.out.own (b, .cells zC.cells 23 (0, 0)) (by simp)) ULC.out rfl IZ.out) rfl ⟨rfl, ?_⟩
    exact St.weaken (A := [_]) H9.out
  · rw [if_neg hm0] at ht
    obtain ⟨q, hq⟩ : ∃ q, (max pick 0).toNat % m = q := ⟨_, rfl⟩
    rw [hq] at ht
    have hqm : q < m := by rw [← hq]; exact Nat.mod_lt _ (by omega)
    have hrem : (max pick 0).tmod (m : Int) = (q : Int) := by
      obtain ⟨x, hx⟩ : ∃ x : Nat, max pick 0 = (x : Int) := ⟨(max pick 0).toNat, by omega⟩
      rw [← hq, hx, Int.toNat_natCast]
      exact Int.ofNat_tmod x m
    have hmI : ¬ ((m : Int) = 0) := by omega
    obtain ⟨R, hR⟩ : ∃ R, pickD ps q = R := ⟨_, rfl⟩
    rw [hR] at ht
    obtain ⟨n, hnl⟩ : ∃ n, ps.length = n := ⟨_, rfl⟩
    have hca := fun (v : World) (F : List (Nat × Obj)) (hv : St W v I (DeskL gd gc ps last ++ F)) => hv.cell (g := gd) (cs := #[.slice (some ⟨gc, 0, none⟩) ps.length ps.length, .int .i64 last]) (t := 86) (fr := (0, 0)) (by simp [DeskL]) 0
    have HCA := Lib.hid hca; have HN := Lib.hid hnl; have HT := Lib.hid ht; have HR := Lib.hid hR; have HM := Lib.hid hm
    rw [hnl] at hn hwl
    clear hca hq hm hnl ht hR
    go_enter Tryd.func19, Tryd.ntmps19
    go_wp2_with fail
    refine (KW.out _ _ H0.out).mono ?_
    rintro e w1 ⟨rfl, h1⟩
    have c0 := HCA.out _ _ h1
    simp at c0
    rw [HN.out] at c0
    have H1 := Lib.hid h1
    clear h1 H0 KW
    go_wp2_with fail
    go_loopw [8, 25] (fun lv i wr => ∃ k l : Nat, i = .int .i64 k ∧ lv = .int .i64 l ∧ k ≤ n ∧ l < waitD (ps.drop k) ∧ ps.take k ++ (pickD (ps.drop k) l).1 = R.1 ∧ (pickD (ps.drop k) l).2 = R.2 ∧ St W wr I (DeskL gd gc ps last ++ ((b, .cells #[Value.int .i64 0, .int .i64 0, .int .i64 0, .int .i64 0, .string ⟨#[]⟩] 23 (0, 0)) :: F))) (fun _ i _ => n - (intOf i).toNat)
    case atStart => exact ⟨0, q, rfl, rfl, by omega, by rw [List.drop_zero, HM.out]; exact hqm, by rw [List.drop_zero, HR.out]; rfl, by rw [List.drop_zero, HR.out], H1.out⟩
    case round =>
      obtain ⟨k, l, rfl, rfl, hk, hlw, hr1, hr2, hst⟩ := hrel
      clear H1 c0
      have hkn : k < n := by
        rcases Nat.lt_or_ge k n with h | h
        · exact h
        · rw [List.drop_eq_nil_of_le (by rw [HN.out]; exact h)] at hlw
          simp [waitD] at hlw
      obtain ⟨p, hp⟩ : ∃ p, ps[k]? = some p := ⟨_, List.getElem?_eq_getElem (by rw [HN.out]; exact hkn)⟩
      have hdc := drop_cons_of hp
      have htk : ps.take (k + 1) = ps.take k ++ [p] := by rw [List.take_add_one, hp]; rfl
      rw [hdc] at hlw hr1 hr2
      have hll : waitD (p :: ps.drop (k + 1)) ≤ n := by rw [← hdc]; have := waitD_le (ps.drop k); rw [List.length_drop, HN.out] at this; omega
      have hpn := pn_at p
      have c5 := ok.stage hp hst 5 (by omega)
      have c6 := ok.stage hp hst 6 (by omega)
      rw [hpn.2.2.2.2.2.1] at c5
      rw [hpn.2.2.2.2.2.2] at c6
      have f6 := hst.frozen (g := gc) (cs := dcells ps) (t := 90) (by simp [DeskL]) (k * 87 + 6)
      have c0 := HCA.out _ _ hst
      simp at c0
      rw [HN.out] at c0
      have hkI : (k : Int) < (n : Int) := by omega
      have hk0 : ¬ (k : Int) < 0 := by omega
      have H1 := Lib.hid hst; have HP := Lib.hid hp; have HR1 := Lib.hid hr1; have HR2 := Lib.hid hr2; have HLW := Lib.hid hlw; have HTK := Lib.hid htk
      clear hst hp hpn hr1 hr2 hlw hdc htk
      by_cases hs : p.stage = 1
      · rw [hs] at c6
        cases l with
        | zero =>
          have hr1 := HR1.out
          have hr2 := HR2.out
          rw [pick_step_zero p _ hs] at hr1 hr2
          have hset : ps.set k { p with stage := 2 } = R.1 := by
            rw [← hr1, List.set_eq_take_append_cons_drop, if_pos (by rw [HN.out]; exact hkn)]
          have hpok := ok p (List.mem_of_getElem? HP.out)
          have hq1 : ({ p with stage := 2 } : Pn).Ok := ⟨hpok.c, hpok.r, hpok.n⟩
          have hp3 : (ps.set k { p with stage := 2 })[k]? = some { p with stage := 2 } := List.getElem?_set_self (by rw [HN.out]; exact hkn)
          have h2 := St.set (A := [_]) (B := (b, .cells #[Value.int .i64 0, .int .i64 0, .int .i64 0, .int .i64 0, .string ⟨#[]⟩] 23 (0, 0)) :: F) (g := gc) H1.out (k * 87 + 6) (.int .i64 2)
          rw [dcells_set ok HP.out 6 (by omega) (.int .i64 2) { p with stage := 2 } rfl] at h2
          have hget := fun j (hj : j < 87) => dcells_get (ok.set k hq1) hp3 j hj
          have g5 := hget 5 (by omega)
          have g0 : ∀ j, j < p.call.cells.toList.length → (dcells (ps.set k { p with stage := 2 }))[k * 87 + j]? = p.call.cells.toList[j]? := fun j hj => by
            rw [Array.length_toList, Cl.size] at hj
            rw [hget j (by omega)]
            rcases (by omega : j = 0 ∨ j = 1 ∨ j = 2 ∨ j = 3 ∨ j = 4) with h | h | h | h | h <;> rw [h] <;> rfl
          have hlen : (ps.set k { p with stage := 2 }).length = ps.length := List.length_set
          obtain ⟨C, hC⟩ : ∃ C, p.call.cells = C := ⟨_, rfl⟩
          have fz := call_fit zC p.call
          have iz := call_info p.call
          have oz := p.call.one
          rw [hC] at g0 fz iz oz
          have HC := Lib.hid hC
          have FZ : Hid (0 + C.size ≤ (#[Value.int .i64 0, .int .i64 0, .int .i64 0, .int .i64 0, .string ⟨#[]⟩]).size) := Lib.hid fz.1
          have MZ : Hid (setMany #[Value.int .i64 0, .int .i64 0, .int .i64 0, .int .i64 0, .string ⟨#[]⟩] 0 C.toList = C) := Lib.hid fz.2
          have IZ := Lib.hid iz
          have OZ := Lib.hid oz
          have G5 := Lib.hid g5; have G0 := Lib.hid g0; have HLEN := Lib.hid hlen; have HSET := Lib.hid hset; have HRR := Lib.hid hr2
          have HMA : Hid ((Tryd.prog.info? 23).map (·.size) = some C.toList.length) := Lib.hid (by rw [IZ.out, Array.length_toList])
          clear hC fz iz oz
          have H2 := Lib.hid (h2.perm (show ([(gd, Obj.cells #[Value.slice (some ⟨gc, 0, none⟩) ps.length ps.length, .int .i64 last] 86 (0, 0))] ++ (gc, .cells (dcells (ps.set k { p with stage := 2 })) 90 (0, 0)) :: (b, .cells #[Value.int .i64 0, .int .i64 0, .int .i64 0, .int .i64 0, .string ⟨#[]⟩] 23 (0, 0)) :: F).Perm ((b, .cells #[Value.int .i64 0, .int .i64 0, .int .i64 0, .int .i64 0, .string ⟨#[]⟩] 23 (0, 0)) :: (gc, .cells (dcells (ps.set k { p with stage := 2 })) 90 (0, 0)) :: (gd, Obj.cells #[Value.slice (some ⟨gc, 0, none⟩) ps.length ps.length, .int .i64 last] 86 (0, 0)) :: F) from perm3 _ _ _ _))
          have hx := H2.out.drew1
          have sx : ∀ v, ∀ D : Array Value, St W v I ((b, Obj.cells D 23 (0, 0)) :: (gc, .cells (dcells (ps.set k { p with stage := 2 })) 90 (0, 0)) :: (gd, .cells #[.slice (some ⟨gc, 0, none⟩) ps.length ps.length, .int .i64 last] 86 (0, 0)) :: F) → (v.cell? ⟨gc, k * 87 + 5, none⟩ = some (.int .i64 p.serial) ∧ v.rangeAt gc (k * 87) C.toList) := fun v D hv =>
            ⟨by rw [hv.cell (g := gc) (cs := dcells (ps.set k { p with stage := 2 })) (t := 90) (fr := (0, 0)) (by simp), G5.out]; rfl, hv.rangeAt (g := gc) (cs := dcells (ps.set k { p with stage := 2 })) (t := 90) (fr := (0, 0)) (by simp) G0.out⟩
          have SX := Lib.hid sx
          clear sx h2 hget g5 g0 hlen hset hr1 hr2 hq1 hp3 hpok H2
          go_wp2_with fail
          refine wp_region_held_drew (S := fun v => (v.cell? ⟨gc, k * 87 + 5, none⟩ = some (.int .i64 p.serial) ∧ v.rangeAt gc (k * 87) C.toList)) (by kernel_rfl) (SX.out _ _ hx) (fun hHeld => ?_)
          refine wpAnyH_take (i := 0) (oi := ?_) (v := ?_) ?_ ?_ ?_ ?_ ?_ ?_ ?_ ?_
          rotate_left 2
          · (simp only [List.getElem?_toArray, List.getElem?_cons_succ, List.getElem?_cons_zero]; exact rfl)
          · kernel_rfl
          · kernel_rfl
          · kernel_rfl
          · exact fun _ _ _ h => h
          · first | (refine Or.inl ⟨by rfl, ?_⟩; intro w hSw; (try dsimp only at hSw); go_simp; try with_reducible rfl) | (refine Or.inr ⟨by rfl, ?_⟩; rfl)
          · assumption
          try simp only [Act.put, List.setIfInBounds_toArray, List.set_cons_zero, List.set_cons_succ]
          refine wpAnyH_take (i := 1) (oi := ?_) (v := ?_) ?_ ?_ ?_ ?_ ?_ ?_ ?_ ?_
          rotate_left 2
          · (simp only [List.getElem?_toArray, List.getElem?_cons_succ, List.getElem?_cons_zero]; exact rfl)
          · kernel_rfl
          · kernel_rfl
          · kernel_rfl
          · exact fun _ _ _ h => h
          · first | (refine Or.inl ⟨by rfl, ?_⟩; intro w hSw; (try dsimp only at hSw); go_simp; try with_reducible rfl) | (refine Or.inr ⟨by rfl, ?_⟩; rfl)
          · assumption
          try simp only [Act.put, List.setIfInBounds_toArray, List.set_cons_zero, List.set_cons_succ]
          refine wpAnyH_take (i := 2) (oi := ?_) (v := ?_) ?_ ?_ ?_ ?_ ?_ ?_ ?_ ?_
          rotate_left 2
          · (simp only [List.getElem?_toArray, List.getElem?_cons_succ, List.getElem?_cons_zero]; exact rfl)
          · kernel_rfl
          · kernel_rfl
          · kernel_rfl
          · exact fun _ _ _ h => h
          · first | (refine Or.inl ⟨by rfl, ?_⟩; intro w hSw; (try dsimp only at hSw); go_simp; try with_reducible rfl) | (refine Or.inr ⟨by rfl, ?_⟩; rfl)
          · assumption
          try simp only [Act.put, List.setIfInBounds_toArray, List.set_cons_zero, List.set_cons_succ]
          refine wpAnyH_take (i := 3) (oi := ?_) (v := ?_) ?_ ?_ ?_ ?_ ?_ ?_ ?_ ?_
          rotate_left 2
          · (simp only [List.getElem?_toArray, List.getElem?_cons_succ, List.getElem?_cons_zero]; exact rfl)
          · kernel_rfl
          · kernel_rfl
          · kernel_rfl
          · exact fun _ _ _ h => h
          · first | (first | ((refine yieldsIf_load_mid ?_ 23 (.tmp 50) ?_ gc (k * 87) ?_ C.toList _ ?_ ULC.out ?_ HMA.out) <;> first | rfl | exact fun w h => h.2) | (refine Or.inl ⟨by rfl, ?_⟩; intro w hSw; obtain ⟨hS1, hS2⟩ := hSw; go_simp; try with_reducible rfl)) | (refine Or.inr ⟨by rfl, ?_⟩; rfl)
          · assumption
          try simp only [Act.put, List.setIfInBounds_toArray, List.set_cons_zero, List.set_cons_succ]
          refine wpAnyH_take (i := 4) (oi := ?_) (v := ?_) ?_ ?_ ?_ ?_ ?_ ?_ ?_ ?_
          rotate_left 2
          · (simp only [List.getElem?_toArray, List.getElem?_cons_succ, List.getElem?_cons_zero]; exact rfl)
          · kernel_rfl
          · kernel_rfl
          · kernel_rfl
          · exact fun _ _ _ h => h
          · first | (refine Or.inl ⟨by rfl, ?_⟩; intro w hSw; (try dsimp only at hSw); go_simp; try with_reducible rfl) | (refine Or.inr ⟨by rfl, ?_⟩; rfl)
          · assumption
          try simp only [Act.put, List.setIfInBounds_toArray, List.set_cons_zero, List.set_cons_succ]
          refine wpAnyH_take (i := 5) (oi := ?_) (v := ?_) ?_ ?_ ?_ ?_ ?_ ?_ ?_ ?_
          rotate_left 2
          · (simp only [List.getElem?_toArray, List.getElem?_cons_succ, List.getElem?_cons_zero]; exact rfl)
          · kernel_rfl
          · kernel_rfl
          · kernel_rfl
          · exact fun _ _ _ h => h
          · first | (refine Or.inl ⟨by rfl, ?_⟩; intro w hSw; (try dsimp only at hSw); go_simp; try with_reducible rfl) | (refine Or.inr ⟨by rfl, ?_⟩; rfl)
          · assumption
          try simp only [Act.put, List.setIfInBounds_toArray, List.set_cons_zero, List.set_cons_succ]
          refine wpAnyH_take (i := 6) (oi := ?_) (v := ?_) ?_ ?_ ?_ ?_ ?_ ?_ ?_ ?_
          rotate_left 2
          · (simp only [List.getElem?_toArray, List.getElem?_cons_succ, List.getElem?_cons_zero]; exact rfl)
          · kernel_rfl
          · kernel_rfl
          · kernel_rfl
          · exact fun _ _ _ h => h
          · first | (refine Or.inl ⟨by rfl, ?_⟩; intro w hSw; (try dsimp only at hSw); go_simp; try with_reducible rfl) | (refine Or.inr ⟨by rfl, ?_⟩; rfl)
          · assumption
          try simp only [Act.put, List.setIfInBounds_toArray, List.set_cons_zero, List.set_cons_succ]
          refine wpAnyH_take (i := 7) (oi := ?_) (v := ?_) ?_ ?_ ?_ ?_ ?_ ?_ ?_ ?_
          rotate_left 2
          · (simp only [List.getElem?_toArray, List.getElem?_cons_succ, List.getElem?_cons_zero]; exact rfl)
          · kernel_rfl
          · kernel_rfl
          · kernel_rfl
          · exact fun _ _ _ h => h
          · first | (first | ((refine yieldsIf_load_mid ?_ 23 (.tmp 50) ?_ gc (k * 87) ?_ C.toList _ ?_ ULC.out ?_ HMA.out) <;> first | rfl | exact fun w h => h.2) | (refine Or.inl ⟨by rfl, ?_⟩; intro w hSw; obtain ⟨hS1, hS2⟩ := hSw; go_simp; try with_reducible rfl)) | (refine Or.inr ⟨by rfl, ?_⟩; rfl)
          · assumption
          try simp only [Act.put, List.setIfInBounds_toArray, List.set_cons_zero, List.set_cons_succ]
          refine wpAnyH_take (i := 8) (oi := ?_) (v := ?_) ?_ ?_ ?_ ?_ ?_ ?_ ?_ ?_
          rotate_left 2
          · (simp only [List.getElem?_toArray, List.getElem?_cons_succ, List.getElem?_cons_zero]; exact rfl)
          · kernel_rfl
          · kernel_rfl
          · kernel_rfl
          · exact fun _ _ _ h => h
          · first | (refine Or.inl ⟨by rfl, ?_⟩; intro w hSw; (try dsimp only at hSw); go_simp; try with_reducible rfl) | (refine Or.inr ⟨by rfl, ?_⟩; rfl)
          · assumption
          try simp only [Act.put, List.setIfInBounds_toArray, List.set_cons_zero, List.set_cons_succ]
          refine wpAnyH_ready (rs := [9]) (by kernel_rfl) (by simp) ?_
          refine AllReadyH.cons (o := ?_) ?_ (fun K hK => ?_) ?_
          rotate_left 1
          · (simp only [List.getElem?_toArray, List.getElem?_cons_succ, List.getElem?_cons_zero]; exact rfl)
          · ((refine step_store_st rfl 23 (.tmp 5) (.tmp 51) rfl (off := 0) C rfl rfl hx FZ.out IZ.out OZ.out ?_; intro w9 h9; rw [MZ.out] at h9; dsimp only))
            refine hK.out _ _ ?_ (fun hHeld => ?_)
            · (try dsimp only) <;> (first | exact SX.out _ _ hx | exact SX.out _ _ h9)
            clear hK K
            try simp only [Act.put, List.setIfInBounds_toArray, List.set_cons_zero, List.set_cons_succ]
            refine wpAnyH_take (i := 10) (oi := ?_) (v := ?_) ?_ ?_ ?_ ?_ ?_ ?_ ?_ ?_
            rotate_left 2
            · (simp only [List.getElem?_toArray, List.getElem?_cons_succ, List.getElem?_cons_zero]; exact rfl)
            · kernel_rfl
            · kernel_rfl
            · kernel_rfl
            · exact fun _ _ _ h => h
            · first | (refine Or.inl ⟨by rfl, ?_⟩; intro w hSw; (try dsimp only at hSw); go_simp; try with_reducible rfl) | (refine Or.inr ⟨by rfl, ?_⟩; rfl)
            · assumption
            try simp only [Act.put, List.setIfInBounds_toArray, List.set_cons_zero, List.set_cons_succ]
            refine wpAnyH_done (by kernel_rfl) ?_ _
            have H9 := Lib.hid h9
            clear h9 hx SX
            go_wp2_with fail
            refine bodyPost_ret (results_tmp_row_tmp rfl _ _ b 23 C (0, 0) _ _ _ rfl rfl rfl (H9.out.own (b, .cells C 23 (0, 0)) (by simp)) ULC.out rfl IZ.out) rfl ?_
            rw [← HT.out]
            dsimp only
            rw [← HRR.out, ← HC.out, ← HSET.out]
            refine ⟨rfl, ?_⟩
            unfold DeskL
            rw [HLEN.out]
            exact St.weaken (A := [_]) (H9.out.perm (perm_tail _ _ _ _))
          exact AllReadyH.nil
        | succ l =>
          have h9 : ∃ k' l' : Nat, Value.int .i64 ((k : Int) + 1) = .int .i64 k' ∧ Value.int .i64 (l : Int) = .int .i64 l' ∧ k' ≤ n ∧ l' < waitD (ps.drop k') ∧ ps.take k' ++ (pickD (ps.drop k') l').1 = R.1 ∧ (pickD (ps.drop k') l').2 = R.2 ∧ St W wr I (DeskL gd gc ps last ++ ((b, .cells #[Value.int .i64 0, .int .i64 0, .int .i64 0, .int .i64 0, .string ⟨#[]⟩] 23 (0, 0)) :: F)) := by
            have hr1 := HR1.out
            have hr2 := HR2.out
            have hlw := HLW.out
            rw [pick_step_succ p _ l hs] at hr1 hr2
            rw [waitD_cons, if_pos hs] at hlw
            exact ⟨k + 1, l, rfl, rfl, by omega, by omega, by rw [HTK.out, ← hr1]; simp, hr2, H1.out⟩
          have H9 := Lib.hid h9
          have hl8 : l < 8 := by have := HLW.out; omega
          have hl0 : ¬ ((l : Int) + 1 = 0) := by omega
          have e1 : ((l : Int) + 1) - 1 = (l : Int) := by omega
          clear h9 H1 HR1 HR2 HTK
          go_wp2_with fail
          exact ⟨H9.out, by simp [intOf]; omega⟩
      · have h9 : ∃ k' l' : Nat, Value.int .i64 ((k : Int) + 1) = .int .i64 k' ∧ Value.int .i64 (l : Int) = .int .i64 l' ∧ k' ≤ n ∧ l' < waitD (ps.drop k') ∧ ps.take k' ++ (pickD (ps.drop k') l').1 = R.1 ∧ (pickD (ps.drop k') l').2 = R.2 ∧ St W wr I (DeskL gd gc ps last ++ ((b, .cells #[Value.int .i64 0, .int .i64 0, .int .i64 0, .int .i64 0, .string ⟨#[]⟩] 23 (0, 0)) :: F)) := by
          have hr1 := HR1.out
          have hr2 := HR2.out
          have hlw := HLW.out
          rw [pick_step_no p _ l hs] at hr1 hr2
          rw [waitD_cons, if_neg hs] at hlw
          exact ⟨k + 1, l, rfl, rfl, by omega, by omega, by rw [HTK.out, ← hr1]; simp, hr2, H1.out⟩
        have H9 := Lib.hid h9
        have hsb : (p.stage == 1) = false := beq_eq_false_iff_ne.2 hs
        clear h9 H1 HR1 HR2 HTK
        generalize p.stage = sg at *
        go_wp2_with fail
        exact ⟨H9.out, by simp [intOf]; omega⟩
end
end

section
set_option linter.unusedVariables false
set_option linter.unusedSimpArgs false
set_option linter.unnecessarySimpa false
open Go.RowKit Go.Lib

section
variable {W w : World} {I : Nat → Option Obj} {F : List (Nat × Obj)} {gd gc : Nat} {ps : List Pn} {last : Int}
theorem dropN_take (ps : List Pn) {k : Nat} {p : Pn} (hp : ps[k]? = some p) : dropN (ps.take (k + 1)) = dropN (ps.take k) + (if p.stage = 0 then 0 else 1) := by
  unfold dropN
  rw [List.take_add_one, hp, List.filter_append, List.length_append]
  by_cases h : p.stage = 0 <;> simp [h]
theorem dropN_le (ps : List Pn) : dropN ps ≤ ps.length := List.length_filter_le _ _
theorem zeros_desk (n : Nat) : (Builtin.zeroCells zP.cells n).toList = (List.replicate n zP.list).flatten := by
  have h : Builtin.zeroCells zP.cells n = madeCells zP.cells (n * 87) := by
    unfold Builtin.zeroCells madeCells
    rw [zP.size zP_ok]
  rw [h]
  unfold Pn.cells
  rw [made_flat 87 (by omega) _ (zP.len zP_ok) n]
theorem clear_len (n : Nat) : ((List.replicate n zP.list).flatten).length = n * 87 := by
  rw [flat_len 87 _ (fun x hx => by rw [List.eq_of_mem_replicate hx]; exact zP.len zP_ok), List.length_replicate]
theorem clear_whole {ps : List Pn} (ok : AllOk ps) : setMany (dcells ps) 0 (List.replicate ps.length zP.list).flatten = dcells (List.replicate ps.length zP) := by
  rw [setMany_whole _ _ (by rw [clear_len, dcells_size ok])]
  unfold dcells
  rw [List.map_replicate]
theorem zero_desk (w : World) : (zeroValue 90).run Tryd.prog w = .ok (.agg zP.cells) w := by kernel_rfl
theorem run_clear_desk (ok : AllOk ps) (hn : 0 < ps.length) (w : World) {F : List (Nat × Obj)} (h : St W w I ((gc, .cells (dcells ps) 90 (0, 0)) :: F)) (ty : TypeId) :
    (Builtin.clear_ #[84] ty #[.slice (some ⟨gc, 0, none⟩) ps.length ps.length]).run Tryd.prog w = .ok (.tuple #[]) (w.setCells gc 0 (List.replicate ps.length zP.list).flatten) := by
  have hst := run_storeCells_cells (P := Tryd.prog) gc 0 (List.replicate ps.length zP.list).flatten 0 w (fun j hj => by
      rw [clear_len] at hj
      rw [h.cell (g := gc) (cs := dcells ps) (t := 90) (fr := (0, 0)) (by simp), Array.getElem?_eq_getElem (by rw [dcells_size ok]; omega)]
      rfl) (fun j hj => h.frozen (g := gc) (cs := dcells ps) (t := 90) (by simp) _) (fun v hv => by
      obtain ⟨l, hl, hvl⟩ := List.mem_flatten.1 hv
      rw [List.eq_of_mem_replicate hl] at hvl
      have h1 := zP.one
      unfold Pn.cells at h1
      rw [List.all_toArray] at h1
      exact List.all_eq_true.1 h1 v hvl)
  simp only [Nat.add_zero] at hst
  obtain ⟨m, hm⟩ : ∃ m, ps.length = m + 1 := ⟨ps.length - 1, by omega⟩
  have hz := zeros_desk ps.length
  rw [hm] at hst hz ⊢
  have hu := Tryd.underlying84
  simp only [Builtin.clear_]
  have e : Tryd.zeroCells90 = zP.cells := by kernel_rfl
  simp [run_underlying hu, zero_desk, Value.cells]
  rw [e, hz, hst]
  rfl
set_option maxRecDepth 100000 in
set_option maxHeartbeats 4000000 in
theorem desk_drop (ok : AllOk ps) (hn1 : 1 ≤ ps.length) (hn : ps.length ≤ 8) (h : St W w I (DeskL gd gc ps last ++ F)) :
    Calls Tryd.prog 22 #[.pointer (some ⟨gd, 0, none⟩)] w fun e w' => e = .returned (.int .i64 (dropN ps : Nat)) ∧
      St W w' I (DeskL gd gc (List.replicate ps.length zP) last ++ F) := by
  have c0 := h.cell (g := gd) (cs := #[.slice (some ⟨gc, 0, none⟩) ps.length ps.length, .int .i64 last]) (t := 86) (fr := (0, 0)) (by simp [DeskL]) 0
  simp at c0
  obtain ⟨n, hnl⟩ : ∃ n, ps.length = n := ⟨_, rfl⟩
  rw [hnl] at hn c0 ⊢
  have H := Lib.hid h
  clear h
  have HN := Lib.hid hnl
  clear hnl
  go_enter Tryd.func22, Tryd.ntmps22
  go_wp2_with fail
  go_loopw [3, 11] (fun o i wr => ∃ k : Nat, i = .int .i64 k ∧ k ≤ n ∧ o = .int .i64 (dropN (ps.take k) : Nat) ∧ St W wr I ((gd, .cells #[.slice (some ⟨gc, 0, none⟩) ps.length ps.length, .int .i64 last] 86 (0, 0)) :: (gc, .cells (dcells ps) 90 (0, 0)) :: F)) (fun _ i _ => n - (intOf i).toNat)
  case atStart => exact ⟨0, rfl, by omega, by simp [dropN], H.out⟩
  case round =>
    obtain ⟨k, rfl, hk, rfl, hst⟩ := hrel
    clear H c0
    by_cases hlt : k < n
    · obtain ⟨p, hp⟩ : ∃ p, ps[k]? = some p := ⟨_, List.getElem?_eq_getElem (by rw [HN.out]; exact hlt)⟩
      have hpok := ok p (List.mem_of_getElem? hp)
      have h2 := hst.alloc (.cells Tryd.zeroCells90 90)
      have hw := dropN_take ps hp
      have hwl := dropN_le (ps.take k)
      rw [List.length_take] at hwl
      have hwl2 : dropN (ps.take k) ≤ 8 := by omega
      have h6 := (pn_at p).2.2.2.2.2.2
      have H1 := Lib.hid hst
      have HZ := Lib.hid h2
      have HW := Lib.hid hw
      have hys : ∀ j, j < p.cells.size → (dcells ps)[k * 87 + j]? = p.cells[j]? := fun j hj => dcells_get ok hp j (by rw [p.size hpok] at hj; exact hj)
      have HY := Lib.hid hys
      have HI := Lib.hid (pn_info p hpok)
      have HO := Lib.hid p.one
      have HF := Lib.hid (show 0 + p.cells.size ≤ (Tryd.zeroCells90).size from by rw [p.size hpok]; decide)
      have HM := Lib.hid (show setMany Tryd.zeroCells90 0 p.cells.toList = p.cells from setMany_whole _ _ (by rw [Array.length_toList, p.size hpok]; rfl))
      have H6 := Lib.hid h6
      clear hst h2 hw hwl hp hys h6
      generalize dropN (ps.take k) = w0 at *
      generalize p.cells = C at *
      generalize p.stage = sg at *
      by_cases hs : sg = 0
      · subst hs
        go_wp2_with (first | (with_reducible refine wpList_load_st rfl 90 (.tmp 13) rfl (g := gc) (off := k * 87) rfl H1.out (cs := dcells ps) (t := 90) (fr := (0, 0)) (by simp) C HY.out _ Tryd.underlying90 rfl HI.out ?_) | (with_reducible refine wpList_store_st rfl 90 (.tmp 5) (.tmp 14) rfl (off := 0) C rfl rfl HZ.out HF.out HI.out HO.out ?_; intro w3 h3; rw [HM.out] at h3; have q6 := (h3.cell (g := wr.heap.size) (cs := C) (t := 90) (fr := (0, 0)) (by simp) 6).trans H6.out; have H4 := Lib.hid h3; clear h3))
        exact ⟨⟨k + 1, rfl, by omega, by rw [HW.out, if_pos rfl]; rfl, St.weaken (A := [_]) H4.out⟩, by simp [intOf]; omega⟩
      · have hne : (sg == 0) = false := beq_eq_false_iff_ne.2 hs
        go_wp2_with (first | (with_reducible refine wpList_load_st rfl 90 (.tmp 13) rfl (g := gc) (off := k * 87) rfl H1.out (cs := dcells ps) (t := 90) (fr := (0, 0)) (by simp) C HY.out _ Tryd.underlying90 rfl HI.out ?_) | (with_reducible refine wpList_store_st rfl 90 (.tmp 5) (.tmp 14) rfl (off := 0) C rfl rfl HZ.out HF.out HI.out HO.out ?_; intro w3 h3; rw [HM.out] at h3; have q6 := (h3.cell (g := wr.heap.size) (cs := C) (t := 90) (fr := (0, 0)) (by simp) 6).trans H6.out; have H4 := Lib.hid h3; clear h3))
        exact ⟨⟨k + 1, rfl, by omega, by rw [HW.out, if_neg hs]; rfl, St.weaken (A := [_]) H4.out⟩, by simp [intOf]; omega⟩
    · have hkn : k = n := by omega
      subst hkn
      have hT : ps.take k = ps := by rw [← HN.out, List.take_length]
      rw [hT]
      have h8 := hst.perm (List.Perm.swap _ _ _)
      have hcl := run_clear_desk ok hn1 wr h8
      have h9 := St.setCells (List.replicate ps.length zP.list).flatten 0 _ _ h8
      rw [clear_whole ok] at h9
      have c0 := hst.cell (g := gd) (cs := #[.slice (some ⟨gc, 0, none⟩) ps.length ps.length, .int .i64 last]) (t := 86) (fr := (0, 0)) (by simp) 0
      simp at c0
      rw [HN.out] at c0 hcl
      have H1 := Lib.hid (h9.perm (List.Perm.swap _ _ _))
      clear hst hT h8 h9
      rw [HN.out] at H1
      obtain ⟨d, hd⟩ : ∃ d, dropN ps = d := ⟨_, rfl⟩
      have HD := Lib.hid hd
      rw [hd]
      clear hd
      go_wp2_with fail
      go_ret
      rw [HD.out]
      unfold DeskL
      rw [List.length_replicate]
      exact ⟨rfl, H1.out⟩
end
end
end Go.Proofs.YtjcekmmieihllaaDoor
