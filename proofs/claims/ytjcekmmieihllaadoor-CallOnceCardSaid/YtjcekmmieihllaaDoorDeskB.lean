/- call: a desk: Ask: walk. -/
import Derived.Test.YtjcekmmieihllaaDoorDkA
import Derived.Test.YtjcekmmieihllaaDoorCaE
import Derived.Deep.RegionWith
import Derived.Deep.RegionHeld3
import Derived.Deep.MidRow
namespace Go.Proofs.YtjcekmmieihllaaDoor
set_option linter.unusedVariables false
set_option linter.unusedSimpArgs false
set_option linter.unnecessarySimpa false
open Go.RowKit Go.Lib

section
variable {W w : World} {I : Nat → Option Obj} {F : List (Nat × Obj)} {gd gc : Nat} {ps : List Pn} {last : Int}
theorem perm3 {α : Type} (a b c : α) (l : List α) : (a :: b :: c :: l).Perm (c :: b :: a :: l) :=
  ((List.Perm.swap b a (c :: l)).trans ((List.Perm.swap c a l).cons b)).trans (List.Perm.swap c b (a :: l))
theorem perm3b {α : Type} (a b c : α) (l : List α) : (a :: b :: c :: l).Perm (b :: c :: a :: l) := (List.Perm.swap b a (c :: l)).trans ((List.Perm.swap c a l).cons b)
theorem perm3c {α : Type} (a b c : α) (l : List α) : (a :: b :: c :: l).Perm (c :: a :: b :: l) := ((List.Perm.swap c b l).cons a).trans (List.Perm.swap c a (b :: l))
/-- A desk in memory. -/
def DeskL (gd gc : Nat) (ps : List Pn) (last : Int) : List (Nat × Obj) := [(gd, .cells #[.slice (some ⟨gc, 0, none⟩) ps.length ps.length, .int .i64 last] 86 (0, 0)), (gc, .cells (dcells ps) 90 (0, 0))]
set_option maxRecDepth 100000 in
set_option maxHeartbeats 8000000 in
theorem desk_ask (t : TB W I) (t4 : Tab4 W) (ok : AllOk ps) (hn : ps.length ≤ 8) (l0 : 0 ≤ last) (l1 : last ≤ 1000000) (c : Cl) (okc : c.Ok) (hnm : c.name.size ≤ 1000000) (h : St W w I (DeskL gd gc ps last ++ F)) :
    Calls Tryd.prog 17 #[.pointer (some ⟨gd, 0, none⟩), c.val] w fun e w' => e = .returned (.tuple #[.int .i64 (askD ps last c).2.1, .int .i64 (askD ps last c).2.2]) ∧
      St W w' I (DeskL gd gc (askD ps last c).1.1 (askD ps last c).1.2 ++ F) := by
  have h0 := h.alloc (.cells c.cells 23)
  have kR := fun (v : World) (F : List (Nat × Obj)) (hv : St W v I F) => call_right t t4 c okc hv
  obtain ⟨A, hA⟩ : ∃ A, askD ps last c = A := ⟨_, rfl⟩
  have hrf := rightC_facts c
  obtain ⟨R, hR⟩ : ∃ R, rightC c = R := ⟨_, rfl⟩
  have ha := hA
  unfold askD at ha
  rw [hR] at kR ha hrf
  rw [hA]
  cases R with
  | false =>
    rw [if_neg (by simp)] at ha
    subst ha
    have H0 := Lib.hid h0; have KR := Lib.hid kR
    clear h h0 kR t t4 okc hA hrf hR
    obtain ⟨cl, kd, sl, jo, na⟩ := c
    simp only [Cl.val, Cl.cells] at H0 KR ⊢
    go_enter Tryd.func17, Tryd.ntmps17
    go_wp2_with fail
    refine (KR.out _ _ H0.out).mono ?_
    rintro e w1 ⟨rfl, h1⟩
    have H1 := Lib.hid h1
    clear h1 H0 KR
    go_wp2_with fail
    refine bodyPost_ret (results_tmp2 rfl _ _ _) rfl ⟨rfl, St.weaken (A := [_]) H1.out⟩
  | true =>
    rw [if_pos rfl] at ha
    obtain ⟨q0, q1, -⟩ := hrf rfl
    obtain ⟨k, hk⟩ : ∃ k : Nat, c.client = (k : Int) := ⟨c.client.toNat, by omega⟩
    by_cases hkn : k < ps.length
    · obtain ⟨p, hp⟩ : ∃ p, ps[k]? = some p := ⟨_, List.getElem?_eq_getElem hkn⟩
      have hkt : c.client.toNat = k := by omega
      rw [hkt, hp] at ha
      dsimp only at ha
      have kC := fun (v : World) (F : List (Nat × Obj)) (hv : St W v I (DeskL gd gc ps last ++ F)) => desk_client (F := F) hn k hkn hv
      by_cases hs : p.stage = 0
      · rw [if_pos hs] at ha
        subst ha
        have ok2 : (⟨c, last + 1, 1, zR⟩ : Pn).Ok := ⟨okc, zR_ok, hnm⟩
        have row := dcells_row ok hkn ⟨c, last + 1, 1, zR⟩ ok2
        have fit : k * 87 + (⟨c, last + 1, 1, zR⟩ : Pn).cells.size ≤ (dcells ps).size := by
          rw [Pn.size _ ok2, dcells_size ok]
          have : (k + 1) * 87 ≤ ps.length * 87 := Nat.mul_le_mul_right _ hkn
          omega
        have inf := pn_info ⟨c, last + 1, 1, zR⟩ ok2
        have one := Pn.one ⟨c, last + 1, 1, zR⟩
        have hlen : (ps.set k ⟨c, last + 1, 1, zR⟩).length = ps.length := List.length_set
        have h6 := (pn_at p).2.2.2.2.2.2
        rw [hs] at h6
        have hst := fun (v : World) (F : List (Nat × Obj)) (hv : St W v I (DeskL gd gc ps last ++ F)) => (ok.stage hp hv 6 (by omega)).trans h6
        have hc1 := fun (v : World) (F : List (Nat × Obj)) (hv : St W v I (DeskL gd gc ps last ++ F)) => hv.cell (g := gd) (cs := #[.slice (some ⟨gc, 0, none⟩) ps.length ps.length, .int .i64 last]) (t := 86) (fr := (0, 0)) (by simp [DeskL]) 1
        have hf1 := fun (v : World) (F : List (Nat × Obj)) (hv : St W v I (DeskL gd gc ps last ++ F)) => hv.frozen (g := gd) (cs := #[.slice (some ⟨gc, 0, none⟩) ps.length ps.length, .int .i64 last]) (t := 86) (by simp [DeskL]) 1
        have ROW := Lib.hid row; have FIT := Lib.hid fit; have INF := Lib.hid inf; have ONE := Lib.hid one; have HLEN := Lib.hid hlen; have HST := Lib.hid hst; have HC1 := Lib.hid hc1; have HF1 := Lib.hid hf1
        have KC := Lib.hid kC; have KR := Lib.hid kR; have H0 := Lib.hid h0
        have sl1 : IntKind.i64.wrap (last + 1) = last + 1 := IntWalk.i64_in _ (by omega)
        clear h h0 kR kC t t4 okc hA hrf hR row fit inf one hlen hst hc1 hf1 hp hs h6 hkt hnm ok2
        obtain ⟨cl, kd, sl, jo, na⟩ := c
        simp only [Cl.val, Cl.cells] at H0 KR hk q0 q1 ⊢
        subst hk
        go_enter Tryd.func17, Tryd.ntmps17
        go_wp2_with fail
        refine (KR.out _ _ H0.out).mono ?_
        rintro e w1 ⟨rfl, h1⟩
        have h2 : St W w1 I (DeskL gd gc ps last ++ ((w.heap.size, .cells #[.int .i64 (k : Int), .int .i64 kd, .int .i64 sl, .int .i64 jo, .string na] 23 (0, 0)) :: F)) := h1.perm (perm3b _ _ _ _)
        have b0 := h1.cell (g := w.heap.size) (cs := #[.int .i64 (k : Int), .int .i64 kd, .int .i64 sl, .int .i64 jo, .string na]) (t := 23) (fr := (0, 0)) (by simp) 0
        simp at b0
        have H2 := Lib.hid h2
        clear h1 h2 H0 KR
        go_wp2_with fail
        refine (KC.out _ _ H2.out).mono ?_
        rintro e w2 ⟨rfl, h2⟩
        have c6 := HST.out _ _ h2
        have c1 := HC1.out _ _ h2
        have f1 := HF1.out _ _ h2
        simp at c1
        have h3 := St.set (A := []) h2 1 (.int .i64 (last + 1))
        have H3 := Lib.hid h3
        clear h2 h3 H2 KC b0 HST HC1 HF1
        go_wp2_with fail
        have h5 : St W _ I ((gc, Obj.cells (dcells ps) 90 (0, 0)) :: (gd, .cells #[.slice (some ⟨gc, 0, none⟩) ps.length ps.length, .int .i64 (last + 1)] 86 (0, 0)) :: (w.heap.size, .cells #[Value.int .i64 (k : Int), .int .i64 kd, .int .i64 sl, .int .i64 jo, .string na] 23 (0, 0)) :: F) := H3.out.perm (List.Perm.swap _ _ _)
        have sx : ∀ v, ∀ D : Array Value, St W v I ((gc, Obj.cells D 90 (0, 0)) :: (gd, .cells #[.slice (some ⟨gc, 0, none⟩) ps.length ps.length, .int .i64 (last + 1)] 86 (0, 0)) :: (w.heap.size, .cells #[Value.int .i64 (k : Int), .int .i64 kd, .int .i64 sl, .int .i64 jo, .string na] 23 (0, 0)) :: F) → v.cell? ⟨gd, 1, none⟩ = some (.int .i64 (last + 1)) ∧ v.cell? ⟨w.heap.size, 0, none⟩ = some (.int .i64 (k : Int)) ∧ v.cell? ⟨w.heap.size, 1, none⟩ = some (.int .i64 kd) ∧ v.cell? ⟨w.heap.size, 2, none⟩ = some (.int .i64 sl) ∧ v.cell? ⟨w.heap.size, 3, none⟩ = some (.int .i64 jo) ∧ v.cell? ⟨w.heap.size, 4, none⟩ = some (.string na) := fun v D hv => by
          have e1 := hv.cell (g := gd) (cs := #[.slice (some ⟨gc, 0, none⟩) ps.length ps.length, .int .i64 (last + 1)]) (t := 86) (fr := (0, 0)) (by simp) 1
          have e2 := hv.cell (g := w.heap.size) (cs := #[Value.int .i64 (k : Int), .int .i64 kd, .int .i64 sl, .int .i64 jo, .string na]) (t := 23) (fr := (0, 0)) (by simp)
          exact ⟨e1, e2 0, e2 1, e2 2, e2 3, e2 4⟩
        have hx := h5.drew1
        have SX := Lib.hid sx
        clear sx h5 H3 c6 c1 f1
        generalize w.heap.size = b at *
        refine wp_region_held_drew (S := fun v => v.cell? ⟨gd, 1, none⟩ = some (.int .i64 (last + 1)) ∧ v.cell? ⟨b, 0, none⟩ = some (.int .i64 (k : Int)) ∧ v.cell? ⟨b, 1, none⟩ = some (.int .i64 kd) ∧ v.cell? ⟨b, 2, none⟩ = some (.int .i64 sl) ∧ v.cell? ⟨b, 3, none⟩ = some (.int .i64 jo) ∧ v.cell? ⟨b, 4, none⟩ = some (.string na)) (by kernel_rfl) (SX.out _ _ hx) (fun hHeld => ?_)
        refine wpAnyH_take (i := 0) (oi := ?_) (v := ?_) ?_ ?_ ?_ ?_ ?_ ?_ ?_ ?_
        rotate_left 2
        · (simp only [List.getElem?_toArray, List.getElem?_cons_succ, List.getElem?_cons_zero]; exact rfl)
        · kernel_rfl
        · kernel_rfl
        · kernel_rfl
        · exact fun _ _ _ h => h
        · first | (refine Or.inl ⟨by rfl, ?_⟩; intro w hSw; (try dsimp only at hSw); go_simp; try with_reducible rfl) | (refine Or.inr ⟨by rfl, ?_⟩; rfl)
        · assumption
        try simp only [Act.put, List.setIfInBounds_toArray, List.set_cons_zero, List.set_cons_succ]
        refine wpAnyH_take (i := 1) (oi := ?_) (v := ?_) ?_ ?_ ?_ ?_ ?_ ?_ ?_ ?_
        rotate_left 2
        · (simp only [List.getElem?_toArray, List.getElem?_cons_succ, List.getElem?_cons_zero]; exact rfl)
        · kernel_rfl
        · kernel_rfl
        · kernel_rfl
        · exact fun _ _ _ h => h
        · first | ((refine Or.inl ⟨by rfl, ?_⟩; intro w hSw; obtain ⟨hS1, hS2, hS3, hS4, hS5, hS6⟩ := hSw; go_simp; try with_reducible rfl)) | (refine Or.inr ⟨by rfl, ?_⟩; rfl)
        · assumption
        try simp only [Act.put, List.setIfInBounds_toArray, List.set_cons_zero, List.set_cons_succ]
        refine wpAnyH_take (i := 2) (oi := ?_) (v := ?_) ?_ ?_ ?_ ?_ ?_ ?_ ?_ ?_
        rotate_left 2
        · (simp only [List.getElem?_toArray, List.getElem?_cons_succ, List.getElem?_cons_zero]; exact rfl)
        · kernel_rfl
        · kernel_rfl
        · kernel_rfl
        · exact fun _ _ _ h => h
        · first | (refine Or.inl ⟨by rfl, ?_⟩; intro w hSw; (try dsimp only at hSw); go_simp; try with_reducible rfl) | (refine Or.inr ⟨by rfl, ?_⟩; rfl)
        · assumption
        try simp only [Act.put, List.setIfInBounds_toArray, List.set_cons_zero, List.set_cons_succ]
        refine wpAnyH_take (i := 3) (oi := ?_) (v := ?_) ?_ ?_ ?_ ?_ ?_ ?_ ?_ ?_
        rotate_left 2
        · (simp only [List.getElem?_toArray, List.getElem?_cons_succ, List.getElem?_cons_zero]; exact rfl)
        · kernel_rfl
        · kernel_rfl
        · kernel_rfl
        · exact fun _ _ _ h => h
        · first | (refine Or.inl ⟨by rfl, ?_⟩; intro w hSw; (try dsimp only at hSw); go_simp; try with_reducible rfl) | (refine Or.inr ⟨by rfl, ?_⟩; rfl)
        · assumption
        try simp only [Act.put, List.setIfInBounds_toArray, List.set_cons_zero, List.set_cons_succ]
        refine wpAnyH_take (i := 4) (oi := ?_) (v := ?_) ?_ ?_ ?_ ?_ ?_ ?_ ?_ ?_
        rotate_left 2
        · (simp only [List.getElem?_toArray, List.getElem?_cons_succ, List.getElem?_cons_zero]; exact rfl)
        · kernel_rfl
        · kernel_rfl
        · kernel_rfl
        · exact fun _ _ _ h => h
        · first | (refine Or.inl ⟨by rfl, ?_⟩; intro w hSw; (try dsimp only at hSw); go_simp; try with_reducible rfl) | (refine Or.inr ⟨by rfl, ?_⟩; rfl)
        · assumption
        try simp only [Act.put, List.setIfInBounds_toArray, List.set_cons_zero, List.set_cons_succ]
        refine wpAnyH_take (i := 5) (oi := ?_) (v := ?_) ?_ ?_ ?_ ?_ ?_ ?_ ?_ ?_
        rotate_left 2
        · (simp only [List.getElem?_toArray, List.getElem?_cons_succ, List.getElem?_cons_zero]; exact rfl)
        · kernel_rfl
        · kernel_rfl
        · kernel_rfl
        · exact fun _ _ _ h => h
        · first | ((refine Or.inl ⟨by rfl, ?_⟩; intro w hSw; obtain ⟨hS1, hS2, hS3, hS4, hS5, hS6⟩ := hSw; go_simp; try with_reducible rfl)) | (refine Or.inr ⟨by rfl, ?_⟩; rfl)
        · assumption
        try simp only [Act.put, List.setIfInBounds_toArray, List.set_cons_zero, List.set_cons_succ]
        refine wpAnyH_take (i := 6) (oi := ?_) (v := ?_) ?_ ?_ ?_ ?_ ?_ ?_ ?_ ?_
        rotate_left 2
        · (simp only [List.getElem?_toArray, List.getElem?_cons_succ, List.getElem?_cons_zero]; exact rfl)
        · kernel_rfl
        · kernel_rfl
        · kernel_rfl
        · exact fun _ _ _ h => h
        · first | (refine Or.inl ⟨by rfl, ?_⟩; intro w hSw; (try dsimp only at hSw); go_simp; try with_reducible rfl) | (refine Or.inr ⟨by rfl, ?_⟩; rfl)
        · assumption
        try simp only [Act.put, List.setIfInBounds_toArray, List.set_cons_zero, List.set_cons_succ]
        refine wpAnyH_take (i := 7) (oi := ?_) (v := ?_) ?_ ?_ ?_ ?_ ?_ ?_ ?_ ?_
        rotate_left 2
        · (simp only [List.getElem?_toArray, List.getElem?_cons_succ, List.getElem?_cons_zero]; exact rfl)
        · kernel_rfl
        · kernel_rfl
        · kernel_rfl
        · exact fun _ _ _ h => h
        · first | (refine Or.inl ⟨by rfl, ?_⟩; intro w hSw; (try dsimp only at hSw); go_simp; try with_reducible rfl) | (refine Or.inr ⟨by rfl, ?_⟩; rfl)
        · assumption
        try simp only [Act.put, List.setIfInBounds_toArray, List.set_cons_zero, List.set_cons_succ]
        refine wpAnyH_ready (rs := [8]) (by kernel_rfl) (by simp) ?_
        refine AllReadyH.cons (o := ?_) ?_ (fun K hK => ?_) ?_
        rotate_left 1
        · (simp only [List.getElem?_toArray, List.getElem?_cons_succ, List.getElem?_cons_zero]; exact rfl)
        · ((refine step_store_st rfl 90 (.tmp 37) (.tmp 36) rfl (off := k * 87) (Pn.cells ⟨⟨(k : Int), kd, sl, jo, na⟩, last + 1, 1, zR⟩) rfl rfl hx FIT.out INF.out ONE.out ?_; intro w9 h9; rw [ROW.out] at h9; dsimp only))
          refine hK.out _ _ ?_ (fun hHeld => ?_)
          · (try dsimp only) <;> (first | exact SX.out _ _ hx | exact SX.out _ _ h9)
          clear hK K
          try simp only [Act.put, List.setIfInBounds_toArray, List.set_cons_zero, List.set_cons_succ]
          refine wpAnyH_done (by kernel_rfl) ?_ _
          have d1 := (SX.out _ _ h9).1
          have H9 := Lib.hid h9
          clear h9 hx SX
          go_wp2_with fail
          refine bodyPost_ret (results_tmp2 rfl _ _ _) rfl ⟨rfl, ?_⟩
          unfold DeskL
          rw [HLEN.out]
          exact St.weaken (A := [_]) (H9.out.perm (perm3 _ _ _ _))
        exact AllReadyH.nil
      · rw [if_neg hs] at ha
        subst ha
        have h6 := (pn_at p).2.2.2.2.2.2
        have hst := fun (v : World) (F : List (Nat × Obj)) (hv : St W v I (DeskL gd gc ps last ++ F)) => (ok.stage hp hv 6 (by omega)).trans h6
        have hsb : (p.stage == 0) = false := beq_eq_false_iff_ne.2 hs
        have HST := Lib.hid hst
        have KC := Lib.hid kC; have KR := Lib.hid kR; have H0 := Lib.hid h0
        clear h h0 kR kC t t4 okc hA hrf hR hst hp h6 hkt hnm
        obtain ⟨cl, kd, sl, jo, na⟩ := c
        simp only [Cl.val, Cl.cells] at H0 KR hk q0 q1 ⊢
        subst hk
        generalize p.stage = sg at *
        go_enter Tryd.func17, Tryd.ntmps17
        go_wp2_with fail
        refine (KR.out _ _ H0.out).mono ?_
        rintro e w1 ⟨rfl, h1⟩
        have h2 : St W w1 I (DeskL gd gc ps last ++ ((w.heap.size, .cells #[Value.int .i64 (k : Int), .int .i64 kd, .int .i64 sl, .int .i64 jo, .string na] 23 (0, 0)) :: F)) := h1.perm (perm3b _ _ _ _)
        have b0 := h1.cell (g := w.heap.size) (cs := #[Value.int .i64 (k : Int), .int .i64 kd, .int .i64 sl, .int .i64 jo, .string na]) (t := 23) (fr := (0, 0)) (by simp) 0
        simp at b0
        have H2 := Lib.hid h2
        clear h1 h2 H0 KR
        go_wp2_with fail
        refine (KC.out _ _ H2.out).mono ?_
        rintro e w2 ⟨rfl, h2⟩
        have c6 := HST.out _ _ h2
        have H3 := Lib.hid h2
        clear h2 H2 KC b0 HST
        go_wp2_with fail
        refine bodyPost_ret (results_tmp2 rfl _ _ _) rfl ⟨rfl, St.weaken (A := [_]) (H3.out.perm (perm3c _ _ _ _))⟩
    · have hkt : c.client.toNat = k := by omega
      rw [hkt, List.getElem?_eq_none (by omega)] at ha
      dsimp only at ha
      subst ha
      have kC := fun (v : World) (F : List (Nat × Obj)) (hv : St W v I (DeskL gd gc ps last ++ F)) => desk_client_no (F := F) hn (k : Int) (.inr (by omega)) hv
      have KC := Lib.hid kC; have KR := Lib.hid kR; have H0 := Lib.hid h0
      clear h h0 kR kC t t4 okc hA hrf hR hkt hnm
      obtain ⟨cl, kd, sl, jo, na⟩ := c
      simp only [Cl.val, Cl.cells] at H0 KR hk q0 q1 ⊢
      subst hk
      go_enter Tryd.func17, Tryd.ntmps17
      go_wp2_with fail
      refine (KR.out _ _ H0.out).mono ?_
      rintro e w1 ⟨rfl, h1⟩
      have h2 : St W w1 I (DeskL gd gc ps last ++ ((w.heap.size, .cells #[Value.int .i64 (k : Int), .int .i64 kd, .int .i64 sl, .int .i64 jo, .string na] 23 (0, 0)) :: F)) := h1.perm (perm3b _ _ _ _)
      have b0 := h1.cell (g := w.heap.size) (cs := #[Value.int .i64 (k : Int), .int .i64 kd, .int .i64 sl, .int .i64 jo, .string na]) (t := 23) (fr := (0, 0)) (by simp) 0
      simp at b0
      have H2 := Lib.hid h2
      clear h1 h2 H0 KR
      go_wp2_with fail
      refine (KC.out _ _ H2.out).mono ?_
      rintro e w2 ⟨rfl, h2⟩
      have H3 := Lib.hid h2
      clear h2 H2 KC b0
      go_wp2_with fail
      refine bodyPost_ret (results_tmp2 rfl _ _ _) rfl ⟨rfl, St.weaken (A := [_]) (H3.out.perm (perm3c _ _ _ _))⟩
end
end Go.Proofs.YtjcekmmieihllaaDoor
