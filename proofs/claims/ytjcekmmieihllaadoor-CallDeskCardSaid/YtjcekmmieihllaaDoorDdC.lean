/- call: a desk of the document's: Ask: walk. -/
import Derived.Test.YtjcekmmieihllaaDoorDdG
import Derived.Test.YtjcekmmieihllaaDoorGnA
import Derived.Test.YtjcekmmieihllaaDoorCallB
import Derived.Deep.RegionLaw
import Derived.Deep.MidRow
namespace Go.Proofs.YtjcekmmieihllaaDoor
set_option linter.unusedVariables false
set_option linter.unusedSimpArgs false
set_option linter.unnecessarySimpa false
open Go.RowKit Go.Lib

section
theorem Src.newS' (w : World) (size : Nat) (cs : Array Value) (t : TypeId) {b : Nat} (hb : w.heap.size = b) (n : Nat) (hn : cs.size = n * size) : Src (w.alloc (.cells cs t)) size (some ⟨b, 0, none⟩) n cs.toList := by
  subst hb
  refine ⟨by simpa using hn, fun j u hj => ⟨_, rfl, ?_⟩⟩
  rw [show (⟨w.heap.size, 0, none⟩ : Addr).add j = ⟨w.heap.size, j, none⟩ by unfold Addr.add; split <;> simp_all]
  exact cell_new rfl (by rw [← Array.getElem?_toList]; exact hj)
/-- AS ONE STEP of a region that draws its order: append onto a slice of the proof's own that begins at its block's head. -/
theorem step_append_row0 {P : Program} {W w : World} {I : Nat → Option Obj} {F L : List (Nat × Obj)} {ops : Array Oper} {o : Oper} {a : Act} {K : Act → World → Prop} {Q : Exit → Act → World → Prop} {E : Prop} (hgd : o.guard = none) (s x : Operand) (t : TypeId)
    (ho : o.op = .call { callee := .builtin .append, args := #[s, x], argTypes := #[t, t] })
    (e : TypeId) (z : Value) (size bytes : Nat) (ht : P.underlying t = some (.slice e)) (hi : (P.info? e).map (fun i => (i.zero, i.size, i.bytes)) = some (some z, size, bytes)) (hzs : z.cells.size = size) (hsz : 0 < size)
    {v : Value} {n : Nat} {xs : List Value} (hs : a.eval s = v) (hrow : Row e size v n xs L) (hst : St W w I (L ++ F)) {A : Option Addr} {m c : Nat} {news : List Value} (hx : a.eval x = .slice A m c) (hsrc : Src w size A m news) (h1 : ∀ u ∈ news, u.oneCell' = true)
    (k : Nat) (hk : n + m = k) (ys : List Value) (hys : xs ++ news = ys) (h63 : k ≤ maxLen) (hbytes : k * bytes ≤ 140737488355328) (h0 : Off0 v)
    (h : ∀ A' c' w' L', Row e size (.slice A' k c') k ys L' → St W w' I (L' ++ F) → Off0 (.slice A' k c') → K (a.put o.dst (.slice A' k c')) w') :
    if Region.wanted o (yielded ops a.tmps) = true then Oper.wp P o a w K Q else E := by
  have hw : Region.wanted o (yielded ops a.tmps) = true := by simp [Region.wanted, hgd]
  rw [if_pos hw]
  subst hk
  subst hys
  obtain ⟨v', w', L', hr, h2, h3, h4⟩ := run_append_row0 (P := P) t o.type e z size bytes ht hi hzs hsz hrow hst (c := c) hsrc h1 h63 hbytes
  unfold Oper.wp execOp
  simp only [ho, resolve, invoke, builtin, Sem.run_bind, Sem.run_pure, Result.andThen_ok, List.map_toArray, List.map_cons, List.map_nil, hs, hx, hr]
  obtain ⟨A', c', rfl⟩ := h2.shape
  exact h A' c' w' L' h2 h3 (h4 h0)
end
section
variable {W w : World} {I : Nat → Option Obj} {F : List (Nat × Obj)} {gr : Nat} {all : List Pn} {last : Int}
theorem RAll.src {A : Option Addr} {c : Nat} {L LL : List (Nat × Obj)} (ok : AllOk all) (hA : RAll A c all L) (h : St W w I LL) (hm : ∀ p ∈ L, p ∈ LL) : Src w 87 A all.length (dlist all) :=
  (hA.row ok).1.src (fun p hp => h.own p (hm p hp))
theorem St.srcX {b : Nat} {X : Array Value} {LL : List (Nat × Obj)} (hX : X.size = 87) (h : St W w I LL) (hm : (b, Obj.cells X 92 (0, 0)) ∈ LL) : Src w 87 (some ⟨b, 0, none⟩) 1 X.toList :=
  (Row.whole 92 87 b 1 X (by rw [hX]) (by unfold maxLen; omega)).src (fun p hp => by
    simp only [List.mem_singleton] at hp
    subst hp
    exact h.own _ hm)
theorem dlist_one (all : List Pn) : ∀ u ∈ dlist all, u.oneCell' = true := fun u hu => by
  unfold dlist at hu
  obtain ⟨x, hx, h⟩ := List.mem_flatten.1 hu
  obtain ⟨p, _, rfl⟩ := List.mem_map.1 hx
  have := p.one
  unfold Pn.cells at this
  rw [List.all_toArray] at this
  exact List.all_eq_true.1 this u h
theorem fold_set' : ∀ (xs : List Value) (k : Nat) (Z : Array Value), List.foldl (fun cs (x : Value × Nat) => cs.setIfInBounds x.snd x.fst) Z (xs.zipIdx k) = setMany Z k xs
  | [], _, _ => rfl
  | x :: xs, k, Z => by
    rw [List.zipIdx_cons, List.foldl_cons, fold_set' xs (k + 1)]
    rfl
theorem fold_fill' (X Z : Array Value) (n : Nat) (h : X.size = n) (hz : Z.size = n) : Array.foldl (fun cs (x : Value × Nat) => cs.setIfInBounds x.snd x.fst) Z X.zipIdx 0 n = X := by
  have e : Array.foldl (fun cs (x : Value × Nat) => cs.setIfInBounds x.snd x.fst) Z X.zipIdx 0 n = Array.foldl (fun cs (x : Value × Nat) => cs.setIfInBounds x.snd x.fst) Z X.zipIdx 0 X.zipIdx.size := by rw [Array.size_zipIdx, h]
  rw [e, ← Array.foldl_toList, Array.toList_zipIdx, fold_set', setMany_whole _ _ (by rw [Array.length_toList, h, hz]), Array.toArray_toList]
theorem rinfo : (Tryd.prog.info? 92).map (fun i => (i.zero, i.size, i.bytes)) = some (some (.agg zP.cells), 87, 256) := by kernel_rfl
theorem rzero : (Value.agg zP.cells).cells.size = 87 := by kernel_rfl
def RaskPost (W : World) (I : Nat → Option Obj) (gr n : Nat) (r : (List Pn × Int) × (Int × Int)) (F : List (Nat × Obj)) (e : Ending) (w' : World) : Prop :=
  ∃ A c L, e = .returned (.tuple #[.int .i64 r.2.1, .int .i64 r.2.2]) ∧ RAll A c r.1.1 L ∧ St W w' I (RdL gr (n : Int) A r.1.1.length c r.1.2 L ++ F)
theorem perm_back {α : Type} (a : α) (L F : List α) : (a :: (L ++ F)).Perm (L ++ (a :: F)) := List.perm_middle.symm
set_option maxRecDepth 100000 in
set_option maxHeartbeats 8000000 in
theorem rd_ask {A : Option Addr} {c n : Nat} {L : List (Nat × Obj)} (t : TB W I) (t4 : Tab4 W) (ok : AllOk all) (hn : all.length ≤ 8) (hn8 : n ≤ 8) (hA : RAll A c all L) (l0 : 0 ≤ last) (l1 : last ≤ 1000000) (d : Cl) (okd : d.Ok) (hnm : d.name.size ≤ 1000000) (h : St W w I (RdL gr (n : Int) A all.length c last L ++ F)) :
    Calls Tryd.prog 24 #[.pointer (some ⟨gr, 0, none⟩), d.val] w (RaskPost W I gr n (askR n all last d) F) := by
  have h0 := h.alloc (.cells d.cells 23)
  have kR := fun (v : World) (F : List (Nat × Obj)) (hv : St W v I F) => cref_right t t4 d okd hv
  obtain ⟨X, hX⟩ : ∃ X, askR n all last d = X := ⟨_, rfl⟩
  have hrf := rightC_facts d
  obtain ⟨R, hR⟩ : ∃ R, rightC d = R := ⟨_, rfl⟩
  have ha := hX
  unfold askR at ha
  rw [hR] at kR ha hrf
  rw [hX]
  cases R with
  | false =>
    rw [if_neg (by simp)] at ha
    subst ha
    have H0 := Lib.hid h0; have KR := Lib.hid kR; have HA := Lib.hid hA
    clear h h0 kR t t4 okd hX hrf hR hA
    obtain ⟨cl, kd, sl, jo, na⟩ := d
    simp only [Cl.val, Cl.cells] at H0 KR ⊢
    go_enter Tryd.func24, Tryd.ntmps24
    go_wp2_with fail
    refine (KR.out _ _ H0.out).mono ?_
    rintro e w1 ⟨rfl, h1⟩
    have H1 := Lib.hid h1
    clear h1 H0 KR
    go_wp2_with fail
    refine bodyPost_ret (results_tmp2 rfl _ _ _) rfl ⟨A, c, L, rfl, HA.out, St.weaken (A := [_]) H1.out⟩
  | true =>
    rw [if_pos rfl] at ha
    obtain ⟨q0, q1, -⟩ := hrf rfl
    obtain ⟨k, hk⟩ : ∃ k : Nat, d.client = (k : Int) := ⟨d.client.toNat, by omega⟩
    rw [hk] at ha
    have kF := fun (v : World) (G : List (Nat × Obj)) (hv : St W v I (RdL gr (n : Int) A all.length c last L ++ G)) => rd_find ok hn hA (k : Int) hv
    unfold idxR at kF
    have hb : ∀ (v : World) (G : List (Nat × Obj)), St W v I (RdL gr (n : Int) A all.length c last L ++ ((w.heap.size, .cells d.cells 23 (0, 0)) :: G)) → v.cell? ⟨w.heap.size, 0, none⟩ = some (.int .i64 (k : Int)) ∧ v.cell? ⟨gr, 0, none⟩ = some (.int .i64 (n : Int)) := fun v G hv => by
      have e1 := hv.cell (g := w.heap.size) (cs := d.cells) (t := 23) (fr := (0, 0)) (by simp) 0
      have e2 := hv.cell (g := gr) (cs := rdesk (n : Int) A all.length c last) (t := 66) (fr := (0, 0)) (by simp [RdL]) 0
      exact ⟨e1.trans (by rw [Cl.at0, hk]), e2⟩
    have hp0 : St W (w.alloc (.cells d.cells 23)) I (RdL gr (n : Int) A all.length c last L ++ ((w.heap.size, .cells d.cells 23 (0, 0)) :: F)) := h0.perm (perm_back _ _ _)
    have H0 := Lib.hid hp0; have KR := Lib.hid kR; have KF := Lib.hid kF; have HB := Lib.hid hb; have HA := Lib.hid hA; have OK := Lib.hid ok; have OKD := Lib.hid okd
    clear h h0 kR t t4 okd hX hrf hR hp0 kF hb hA ok
    obtain ⟨bc, hbc⟩ : ∃ x, w.heap.size = x := ⟨_, rfl⟩
    rw [hbc] at H0 HB
    by_cases hkn : (n : Int) ≤ (k : Int)
    · rw [if_pos (.inl hkn)] at ha
      subst ha
      clear KF OK OKD
      obtain ⟨cl, kd, sl, jo, na⟩ := d
      simp only [Cl.val, Cl.cells] at H0 KR HB hk ⊢
      subst hk
      have hkb : decide ((n : Int) ≤ (k : Int)) = true := decide_eq_true hkn
      go_enter Tryd.func24, Tryd.ntmps24
      go_wp2_with fail
      refine (KR.out _ _ H0.out).mono ?_
      rintro e w1 ⟨rfl, hx⟩
      obtain ⟨d0, d1⟩ := HB.out _ _ hx
      clear H0 KR
      go_wp2_with fail
      refine wp_region_held_drew (S := fun v => v.cell? ⟨bc, 0, none⟩ = some (.int .i64 (k : Int)) ∧ v.cell? ⟨gr, 0, none⟩ = some (.int .i64 (n : Int))) (by kernel_rfl) ⟨d0, d1⟩ (fun hHeld => ?_)
      refine wpAnyH_take (i := 0) (oi := ?_) (v := ?_) ?_ ?_ ?_ ?_ ?_ ?_ ?_ ?_
      rotate_left 2
      · (simp only [List.getElem?_toArray, List.getElem?_cons_succ, List.getElem?_cons_zero]; exact rfl)
      · kernel_rfl
      · kernel_rfl
      · kernel_rfl
      · exact fun _ _ _ h => h
      · first | (refine Or.inl ⟨by rfl, ?_⟩; intro w hSw; (try dsimp only at hSw); go_simp; try with_reducible rfl) | (refine Or.inr ⟨by rfl, ?_⟩; rfl)
      · assumption
      try simp only [Act.put, List.setIfInBounds_toArray, List.set_cons_zero, List.set_cons_succ]
      refine wpAnyH_take (i := 1) (oi := ?_) (v := ?_) ?_ ?_ ?_ ?_ ?_ ?_ ?_ ?_
      rotate_left 2
      · (simp only [List.getElem?_toArray, List.getElem?_cons_succ, List.getElem?_cons_zero]; exact rfl)
      · kernel_rfl
      · kernel_rfl
      · kernel_rfl
      · exact fun _ _ _ h => h
      · first | ((refine Or.inl ⟨by rfl, ?_⟩; intro w hSw; obtain ⟨hS1, hS2⟩ := hSw; go_simp; try with_reducible rfl)) | (refine Or.inr ⟨by rfl, ?_⟩; rfl)
      · assumption
      try simp only [Act.put, List.setIfInBounds_toArray, List.set_cons_zero, List.set_cons_succ]
      refine wpAnyH_take (i := 2) (oi := ?_) (v := ?_) ?_ ?_ ?_ ?_ ?_ ?_ ?_ ?_
      rotate_left 2
      · (simp only [List.getElem?_toArray, List.getElem?_cons_succ, List.getElem?_cons_zero]; exact rfl)
      · kernel_rfl
      · kernel_rfl
      · kernel_rfl
      · exact fun _ _ _ h => h
      · first | (refine Or.inl ⟨by rfl, ?_⟩; intro w hSw; (try dsimp only at hSw); go_simp; try with_reducible rfl) | (refine Or.inr ⟨by rfl, ?_⟩; rfl)
      · assumption
      try simp only [Act.put, List.setIfInBounds_toArray, List.set_cons_zero, List.set_cons_succ]
      refine wpAnyH_take (i := 3) (oi := ?_) (v := ?_) ?_ ?_ ?_ ?_ ?_ ?_ ?_ ?_
      rotate_left 2
      · (simp only [List.getElem?_toArray, List.getElem?_cons_succ, List.getElem?_cons_zero]; exact rfl)
      · kernel_rfl
      · kernel_rfl
      · kernel_rfl
      · exact fun _ _ _ h => h
      · first | (refine Or.inl ⟨by rfl, ?_⟩; intro w hSw; (try dsimp only at hSw); go_simp; try with_reducible rfl) | (refine Or.inr ⟨by rfl, ?_⟩; rfl)
      · assumption
      try simp only [Act.put, List.setIfInBounds_toArray, List.set_cons_zero, List.set_cons_succ]
      refine wpAnyH_take (i := 4) (oi := ?_) (v := ?_) ?_ ?_ ?_ ?_ ?_ ?_ ?_ ?_
      rotate_left 2
      · (simp only [List.getElem?_toArray, List.getElem?_cons_succ, List.getElem?_cons_zero]; exact rfl)
      · kernel_rfl
      · kernel_rfl
      · kernel_rfl
      · exact fun _ _ _ h => h
      · first | (refine Or.inl ⟨by rfl, ?_⟩; intro w hSw; (try dsimp only at hSw); go_simp; try with_reducible rfl) | (refine Or.inr ⟨by rfl, ?_⟩; rfl)
      · assumption
      try simp only [Act.put, List.setIfInBounds_toArray, List.set_cons_zero, List.set_cons_succ]
      refine wpAnyH_take (i := 5) (oi := ?_) (v := ?_) ?_ ?_ ?_ ?_ ?_ ?_ ?_ ?_
      rotate_left 2
      · (simp only [List.getElem?_toArray, List.getElem?_cons_succ, List.getElem?_cons_zero]; exact rfl)
      · kernel_rfl
      · kernel_rfl
      · kernel_rfl
      · exact fun _ _ _ h => h
      · first | ((refine Or.inl ⟨by rfl, ?_⟩; intro w hSw; obtain ⟨hS1, hS2⟩ := hSw; go_simp; try with_reducible rfl)) | (refine Or.inr ⟨by rfl, ?_⟩; rfl)
      · assumption
      try simp only [Act.put, List.setIfInBounds_toArray, List.set_cons_zero, List.set_cons_succ]
      refine wpAnyH_take (i := 6) (oi := ?_) (v := ?_) ?_ ?_ ?_ ?_ ?_ ?_ ?_ ?_
      rotate_left 2
      · (simp only [List.getElem?_toArray, List.getElem?_cons_succ, List.getElem?_cons_zero]; exact rfl)
      · kernel_rfl
      · kernel_rfl
      · kernel_rfl
      · exact fun _ _ _ h => h
      · first | (refine Or.inl ⟨by rfl, ?_⟩; intro w hSw; (try dsimp only at hSw); go_simp; try with_reducible rfl) | (refine Or.inr ⟨by rfl, ?_⟩; rfl)
      · assumption
      try simp only [Act.put, List.setIfInBounds_toArray, List.set_cons_zero, List.set_cons_succ]
      refine wpAnyH_take (i := 7) (oi := ?_) (v := ?_) ?_ ?_ ?_ ?_ ?_ ?_ ?_ ?_
      rotate_left 2
      · (simp only [List.getElem?_toArray, List.getElem?_cons_succ, List.getElem?_cons_zero]; exact rfl)
      · kernel_rfl
      · kernel_rfl
      · kernel_rfl
      · exact fun _ _ _ h => h
      · first | (refine Or.inl ⟨by rfl, ?_⟩; intro w hSw; (try dsimp only at hSw); go_simp; try with_reducible rfl) | (refine Or.inr ⟨by rfl, ?_⟩; rfl)
      · assumption
      try simp only [Act.put, List.setIfInBounds_toArray, List.set_cons_zero, List.set_cons_succ]
      refine wpAnyH_take (i := 8) (oi := ?_) (v := ?_) ?_ ?_ ?_ ?_ ?_ ?_ ?_ ?_
      rotate_left 2
      · (simp only [List.getElem?_toArray, List.getElem?_cons_succ, List.getElem?_cons_zero]; exact rfl)
      · kernel_rfl
      · kernel_rfl
      · kernel_rfl
      · exact fun _ _ _ h => h
      · (refine Or.inr ⟨by rfl, ?_⟩; rfl)
      · assumption
      try simp only [Act.put, List.setIfInBounds_toArray, List.set_cons_zero, List.set_cons_succ]
      refine wpAnyH_take (i := 9) (oi := ?_) (v := ?_) ?_ ?_ ?_ ?_ ?_ ?_ ?_ ?_
      rotate_left 2
      · (simp only [List.getElem?_toArray, List.getElem?_cons_succ, List.getElem?_cons_zero]; exact rfl)
      · kernel_rfl
      · kernel_rfl
      · kernel_rfl
      · exact fun _ _ _ h => h
      · (refine Or.inr ⟨by rfl, ?_⟩; rfl)
      · assumption
      try simp only [Act.put, List.setIfInBounds_toArray, List.set_cons_zero, List.set_cons_succ]
      refine wpAnyH_take (i := 10) (oi := ?_) (v := ?_) ?_ ?_ ?_ ?_ ?_ ?_ ?_ ?_
      rotate_left 2
      · (simp only [List.getElem?_toArray, List.getElem?_cons_succ, List.getElem?_cons_zero]; exact rfl)
      · kernel_rfl
      · kernel_rfl
      · kernel_rfl
      · exact fun _ _ _ h => h
      · (refine Or.inr ⟨by rfl, ?_⟩; rfl)
      · assumption
      try simp only [Act.put, List.setIfInBounds_toArray, List.set_cons_zero, List.set_cons_succ]
      refine wpAnyH_take (i := 11) (oi := ?_) (v := ?_) ?_ ?_ ?_ ?_ ?_ ?_ ?_ ?_
      rotate_left 2
      · (simp only [List.getElem?_toArray, List.getElem?_cons_succ, List.getElem?_cons_zero]; exact rfl)
      · kernel_rfl
      · kernel_rfl
      · kernel_rfl
      · exact fun _ _ _ h => h
      · (refine Or.inr ⟨by rfl, ?_⟩; rfl)
      · assumption
      try simp only [Act.put, List.setIfInBounds_toArray, List.set_cons_zero, List.set_cons_succ]
      refine wpAnyH_take (i := 12) (oi := ?_) (v := ?_) ?_ ?_ ?_ ?_ ?_ ?_ ?_ ?_
      rotate_left 2
      · (simp only [List.getElem?_toArray, List.getElem?_cons_succ, List.getElem?_cons_zero]; exact rfl)
      · kernel_rfl
      · kernel_rfl
      · kernel_rfl
      · exact fun _ _ _ h => h
      · (refine Or.inr ⟨by rfl, ?_⟩; rfl)
      · assumption
      try simp only [Act.put, List.setIfInBounds_toArray, List.set_cons_zero, List.set_cons_succ]
      refine wpAnyH_take (i := 13) (oi := ?_) (v := ?_) ?_ ?_ ?_ ?_ ?_ ?_ ?_ ?_
      rotate_left 2
      · (simp only [List.getElem?_toArray, List.getElem?_cons_succ, List.getElem?_cons_zero]; exact rfl)
      · kernel_rfl
      · kernel_rfl
      · kernel_rfl
      · exact fun _ _ _ h => h
      · first | (refine Or.inl ⟨by rfl, ?_⟩; intro w hSw; (try dsimp only at hSw); go_simp; try with_reducible rfl) | (refine Or.inr ⟨by rfl, ?_⟩; rfl)
      · assumption
      try simp only [Act.put, List.setIfInBounds_toArray, List.set_cons_zero, List.set_cons_succ]
      refine wpAnyH_done (by kernel_rfl) ?_ _
      have HZ := Lib.hid hx.drew1
      clear hx d0 d1 HB
      go_wp2_with fail
      refine bodyPost_ret (results_tmp2 rfl _ _ _) rfl ⟨A, c, L, rfl, HA.out, (St.mid (B := [_]) HZ.out)⟩
    · have hkb : decide ((n : Int) ≤ (k : Int)) = false := decide_eq_false hkn
      have hkb2 : decide (n ≤ k) = false := decide_eq_false (by omega)
      cases hf : findR all (k : Int) with
      | some j =>
        rw [hf] at ha
        rw [if_pos (.inr rfl)] at ha
        subst ha
        have KF2 := Lib.hid (fun v G hv => by have h := KF.out v G hv; rw [hf] at h; exact h : ∀ (v : World) (G : List (Nat × Obj)), St W v I (RdL gr (n : Int) A all.length c last L ++ G) → Calls Tryd.prog 43 #[.pointer (some ⟨gr, 0, none⟩), .int .i64 (k : Int)] v fun e w' => e = .returned (.int .i64 (j : Int)) ∧ St W w' I (RdL gr (n : Int) A all.length c last L ++ G))
        clear KF OK OKD hf
        obtain ⟨cl, kd, sl, jo, na⟩ := d
        simp only [Cl.val, Cl.cells] at H0 KR HB hk ⊢
        subst hk
        have hj0 : decide ((0 : Int) ≤ (j : Int)) = true := decide_eq_true (by omega)
        go_enter Tryd.func24, Tryd.ntmps24
        go_wp2_with fail
        refine (KR.out _ _ H0.out).mono ?_
        rintro e w1 ⟨rfl, hx⟩
        obtain ⟨d0, d1⟩ := HB.out _ _ hx
        clear H0 KR
        go_wp2_with fail
        refine wp_region_held_drew (S := fun v => v.cell? ⟨bc, 0, none⟩ = some (.int .i64 (k : Int)) ∧ v.cell? ⟨gr, 0, none⟩ = some (.int .i64 (n : Int))) (by kernel_rfl) ⟨d0, d1⟩ (fun hHeld => ?_)
        refine wpAnyH_take (i := 0) (oi := ?_) (v := ?_) ?_ ?_ ?_ ?_ ?_ ?_ ?_ ?_
        rotate_left 2
        · (simp only [List.getElem?_toArray, List.getElem?_cons_succ, List.getElem?_cons_zero]; exact rfl)
        · kernel_rfl
        · kernel_rfl
        · kernel_rfl
        · exact fun _ _ _ h => h
        · first | (refine Or.inl ⟨by rfl, ?_⟩; intro w hSw; (try dsimp only at hSw); go_simp; try with_reducible rfl) | (refine Or.inr ⟨by rfl, ?_⟩; rfl)
        · assumption
        try simp only [Act.put, List.setIfInBounds_toArray, List.set_cons_zero, List.set_cons_succ]
        refine wpAnyH_take (i := 1) (oi := ?_) (v := ?_) ?_ ?_ ?_ ?_ ?_ ?_ ?_ ?_
        rotate_left 2
        · (simp only [List.getElem?_toArray, List.getElem?_cons_succ, List.getElem?_cons_zero]; exact rfl)
        · kernel_rfl
        · kernel_rfl
        · kernel_rfl
        · exact fun _ _ _ h => h
        · first | ((refine Or.inl ⟨by rfl, ?_⟩; intro w hSw; obtain ⟨hS1, hS2⟩ := hSw; go_simp; try with_reducible rfl)) | (refine Or.inr ⟨by rfl, ?_⟩; rfl)
        · assumption
        try simp only [Act.put, List.setIfInBounds_toArray, List.set_cons_zero, List.set_cons_succ]
        refine wpAnyH_take (i := 2) (oi := ?_) (v := ?_) ?_ ?_ ?_ ?_ ?_ ?_ ?_ ?_
        rotate_left 2
        · (simp only [List.getElem?_toArray, List.getElem?_cons_succ, List.getElem?_cons_zero]; exact rfl)
        · kernel_rfl
        · kernel_rfl
        · kernel_rfl
        · exact fun _ _ _ h => h
        · first | (refine Or.inl ⟨by rfl, ?_⟩; intro w hSw; (try dsimp only at hSw); go_simp; try with_reducible rfl) | (refine Or.inr ⟨by rfl, ?_⟩; rfl)
        · assumption
        try simp only [Act.put, List.setIfInBounds_toArray, List.set_cons_zero, List.set_cons_succ]
        refine wpAnyH_take (i := 3) (oi := ?_) (v := ?_) ?_ ?_ ?_ ?_ ?_ ?_ ?_ ?_
        rotate_left 2
        · (simp only [List.getElem?_toArray, List.getElem?_cons_succ, List.getElem?_cons_zero]; exact rfl)
        · kernel_rfl
        · kernel_rfl
        · kernel_rfl
        · exact fun _ _ _ h => h
        · first | (refine Or.inl ⟨by rfl, ?_⟩; intro w hSw; (try dsimp only at hSw); go_simp; try with_reducible rfl) | (refine Or.inr ⟨by rfl, ?_⟩; rfl)
        · assumption
        try simp only [Act.put, List.setIfInBounds_toArray, List.set_cons_zero, List.set_cons_succ]
        refine wpAnyH_take (i := 4) (oi := ?_) (v := ?_) ?_ ?_ ?_ ?_ ?_ ?_ ?_ ?_
        rotate_left 2
        · (simp only [List.getElem?_toArray, List.getElem?_cons_succ, List.getElem?_cons_zero]; exact rfl)
        · kernel_rfl
        · kernel_rfl
        · kernel_rfl
        · exact fun _ _ _ h => h
        · first | (refine Or.inl ⟨by rfl, ?_⟩; intro w hSw; (try dsimp only at hSw); go_simp; try with_reducible rfl) | (refine Or.inr ⟨by rfl, ?_⟩; rfl)
        · assumption
        try simp only [Act.put, List.setIfInBounds_toArray, List.set_cons_zero, List.set_cons_succ]
        refine wpAnyH_take (i := 5) (oi := ?_) (v := ?_) ?_ ?_ ?_ ?_ ?_ ?_ ?_ ?_
        rotate_left 2
        · (simp only [List.getElem?_toArray, List.getElem?_cons_succ, List.getElem?_cons_zero]; exact rfl)
        · kernel_rfl
        · kernel_rfl
        · kernel_rfl
        · exact fun _ _ _ h => h
        · first | ((refine Or.inl ⟨by rfl, ?_⟩; intro w hSw; obtain ⟨hS1, hS2⟩ := hSw; go_simp; try with_reducible rfl)) | (refine Or.inr ⟨by rfl, ?_⟩; rfl)
        · assumption
        try simp only [Act.put, List.setIfInBounds_toArray, List.set_cons_zero, List.set_cons_succ]
        refine wpAnyH_take (i := 6) (oi := ?_) (v := ?_) ?_ ?_ ?_ ?_ ?_ ?_ ?_ ?_
        rotate_left 2
        · (simp only [List.getElem?_toArray, List.getElem?_cons_succ, List.getElem?_cons_zero]; exact rfl)
        · kernel_rfl
        · kernel_rfl
        · kernel_rfl
        · exact fun _ _ _ h => h
        · first | (refine Or.inl ⟨by rfl, ?_⟩; intro w hSw; (try dsimp only at hSw); go_simp; try with_reducible rfl) | (refine Or.inr ⟨by rfl, ?_⟩; rfl)
        · assumption
        try simp only [Act.put, List.setIfInBounds_toArray, List.set_cons_zero, List.set_cons_succ]
        refine wpAnyH_take (i := 7) (oi := ?_) (v := ?_) ?_ ?_ ?_ ?_ ?_ ?_ ?_ ?_
        rotate_left 2
        · (simp only [List.getElem?_toArray, List.getElem?_cons_succ, List.getElem?_cons_zero]; exact rfl)
        · kernel_rfl
        · kernel_rfl
        · kernel_rfl
        · exact fun _ _ _ h => h
        · first | (refine Or.inl ⟨by rfl, ?_⟩; intro w hSw; (try dsimp only at hSw); go_simp; try with_reducible rfl) | (refine Or.inr ⟨by rfl, ?_⟩; rfl)
        · assumption
        try simp only [Act.put, List.setIfInBounds_toArray, List.set_cons_zero, List.set_cons_succ]
        refine wpAnyH_take (i := 8) (oi := ?_) (v := ?_) ?_ ?_ ?_ ?_ ?_ ?_ ?_ ?_
        rotate_left 2
        · (simp only [List.getElem?_toArray, List.getElem?_cons_succ, List.getElem?_cons_zero]; exact rfl)
        · kernel_rfl
        · kernel_rfl
        · kernel_rfl
        · exact fun _ _ _ h => h
        · first | (refine Or.inl ⟨by rfl, ?_⟩; intro w hSw; (try dsimp only at hSw); go_simp; try with_reducible rfl) | (refine Or.inr ⟨by rfl, ?_⟩; rfl)
        · assumption
        try simp only [Act.put, List.setIfInBounds_toArray, List.set_cons_zero, List.set_cons_succ]
        refine wpAnyH_take (i := 9) (oi := ?_) (v := ?_) ?_ ?_ ?_ ?_ ?_ ?_ ?_ ?_
        rotate_left 2
        · (simp only [List.getElem?_toArray, List.getElem?_cons_succ, List.getElem?_cons_zero]; exact rfl)
        · kernel_rfl
        · kernel_rfl
        · kernel_rfl
        · exact fun _ _ _ h => h
        · first | (refine Or.inl ⟨by rfl, ?_⟩; intro w hSw; (try dsimp only at hSw); go_simp; try with_reducible rfl) | (refine Or.inr ⟨by rfl, ?_⟩; rfl)
        · assumption
        try simp only [Act.put, List.setIfInBounds_toArray, List.set_cons_zero, List.set_cons_succ]
        refine wpAnyH_take (i := 10) (oi := ?_) (v := ?_) ?_ ?_ ?_ ?_ ?_ ?_ ?_ ?_
        rotate_left 2
        · (simp only [List.getElem?_toArray, List.getElem?_cons_succ, List.getElem?_cons_zero]; exact rfl)
        · kernel_rfl
        · kernel_rfl
        · kernel_rfl
        · exact fun _ _ _ h => h
        · first | ((refine Or.inl ⟨by rfl, ?_⟩; intro w hSw; obtain ⟨hS1, hS2⟩ := hSw; go_simp; try with_reducible rfl)) | (refine Or.inr ⟨by rfl, ?_⟩; rfl)
        · assumption
        try simp only [Act.put, List.setIfInBounds_toArray, List.set_cons_zero, List.set_cons_succ]
        refine wpAnyH_ready (rs := [11]) (by kernel_rfl) (by simp) ?_
        refine AllReadyH.cons (o := ?_) ?_ (fun K hK => ?_) ?_
        rotate_left 1
        · (simp only [List.getElem?_toArray, List.getElem?_cons_succ, List.getElem?_cons_zero]; exact rfl)
        · go_simp
          ((go_at_call 43; (with_reducible refine (KF2.out _ _ (by first | exact hx.drew1 | exact hx)).mono ?_); rintro e wx ⟨rfl, hx⟩; dsimp only))
          refine hK.out _ _ ?_ (fun hHeld => ?_)
          · (try dsimp only) <;> (first | exact HB.out _ _ hx | exact ⟨d0, d1⟩)
          clear hK K
          try simp only [Act.put, List.setIfInBounds_toArray, List.set_cons_zero, List.set_cons_succ]
          refine wpAnyH_take (i := 12) (oi := ?_) (v := ?_) ?_ ?_ ?_ ?_ ?_ ?_ ?_ ?_
          rotate_left 2
          · (simp only [List.getElem?_toArray, List.getElem?_cons_succ, List.getElem?_cons_zero]; exact rfl)
          · kernel_rfl
          · kernel_rfl
          · kernel_rfl
          · exact fun _ _ _ h => h
          · first | (refine Or.inl ⟨by rfl, ?_⟩; intro w hSw; (try dsimp only at hSw); go_simp; try with_reducible rfl) | (refine Or.inr ⟨by rfl, ?_⟩; rfl)
          · assumption
          try simp only [Act.put, List.setIfInBounds_toArray, List.set_cons_zero, List.set_cons_succ]
          refine wpAnyH_take (i := 13) (oi := ?_) (v := ?_) ?_ ?_ ?_ ?_ ?_ ?_ ?_ ?_
          rotate_left 2
          · (simp only [List.getElem?_toArray, List.getElem?_cons_succ, List.getElem?_cons_zero]; exact rfl)
          · kernel_rfl
          · kernel_rfl
          · kernel_rfl
          · exact fun _ _ _ h => h
          · first | (refine Or.inl ⟨by rfl, ?_⟩; intro w hSw; (try dsimp only at hSw); go_simp; try with_reducible rfl) | (refine Or.inr ⟨by rfl, ?_⟩; rfl)
          · assumption
          try simp only [Act.put, List.setIfInBounds_toArray, List.set_cons_zero, List.set_cons_succ]
          refine wpAnyH_done (by kernel_rfl) ?_ _
          have HZ := Lib.hid hx
          clear hx d0 d1 HB
          go_wp2_with fail
          refine bodyPost_ret (results_tmp2 rfl _ _ _) rfl ⟨A, c, L, rfl, HA.out, (St.mid (B := [_]) HZ.out)⟩
        exact AllReadyH.nil
      | none =>
        rw [hf] at ha
        rw [if_neg (by simpa using hkn)] at ha
        subst ha
        have KF2 := Lib.hid (fun v G hv => by have h := KF.out v G hv; rw [hf] at h; exact h : ∀ (v : World) (G : List (Nat × Obj)), St W v I (RdL gr (n : Int) A all.length c last L ++ G) → Calls Tryd.prog 43 #[.pointer (some ⟨gr, 0, none⟩), .int .i64 (k : Int)] v fun e w' => e = .returned (.int .i64 (-1)) ∧ St W w' I (RdL gr (n : Int) A all.length c last L ++ G))
        have okp : (⟨d, last + 1, 1, zR⟩ : Pn).Ok := ⟨OKD.out, zR_ok, hnm⟩
        have hlit : (⟨d, last + 1, 1, zR⟩ : Pn).cells = (((((((Tryd.zeroCells92.setIfInBounds 0 (Value.int .i64 d.client)).setIfInBounds 1 (Value.int .i64 d.kind)).setIfInBounds 2 (Value.int .i64 d.slot)).setIfInBounds 3 (Value.int .i64 d.job)).setIfInBounds 4 (Value.string d.name)).setIfInBounds 5 (Value.int .i64 (last + 1))).setIfInBounds 6 (Value.int .i64 1)) := rfl
        have hps := Pn.size _ okp
        have hpo := dlist_one [(⟨d, last + 1, 1, zR⟩ : Pn)]
        have hdl : dlist all ++ (⟨d, last + 1, 1, zR⟩ : Pn).cells.toList = dlist (all ++ [⟨d, last + 1, 1, zR⟩]) := by unfold dlist Pn.cells; simp
        have hpl : dlist [(⟨d, last + 1, 1, zR⟩ : Pn)] = (⟨d, last + 1, 1, zR⟩ : Pn).cells.toList := by unfold dlist Pn.cells; simp
        rw [hpl, hlit] at hpo
        rw [hlit] at hps hdl
        obtain ⟨X, hX⟩ : ∃ X, (((((((Tryd.zeroCells92.setIfInBounds 0 (Value.int .i64 d.client)).setIfInBounds 1 (Value.int .i64 d.kind)).setIfInBounds 2 (Value.int .i64 d.slot)).setIfInBounds 3 (Value.int .i64 d.job)).setIfInBounds 4 (Value.string d.name)).setIfInBounds 5 (Value.int .i64 (last + 1))).setIfInBounds 6 (Value.int .i64 1)) = X := ⟨_, rfl⟩
        rw [hX] at hps hdl hpo
        have hfold : Array.foldl (fun cs (x : Value × Nat) => cs.setIfInBounds x.snd x.fst) #[Tryd.zeroCells92[0], Tryd.zeroCells92[1], Tryd.zeroCells92[2], Tryd.zeroCells92[3], Tryd.zeroCells92[4], Tryd.zeroCells92[5], Tryd.zeroCells92[6], Tryd.zeroCells92[7], Tryd.zeroCells92[8], Tryd.zeroCells92[9], Tryd.zeroCells92[10], Tryd.zeroCells92[11], Tryd.zeroCells92[12], Tryd.zeroCells92[13], Tryd.zeroCells92[14], Tryd.zeroCells92[15], Tryd.zeroCells92[16], Tryd.zeroCells92[17], Tryd.zeroCells92[18], Tryd.zeroCells92[19], Tryd.zeroCells92[20], Tryd.zeroCells92[21], Tryd.zeroCells92[22], Tryd.zeroCells92[23], Tryd.zeroCells92[24], Tryd.zeroCells92[25], Tryd.zeroCells92[26], Tryd.zeroCells92[27], Tryd.zeroCells92[28], Tryd.zeroCells92[29], Tryd.zeroCells92[30], Tryd.zeroCells92[31], Tryd.zeroCells92[32], Tryd.zeroCells92[33], Tryd.zeroCells92[34], Tryd.zeroCells92[35], Tryd.zeroCells92[36], Tryd.zeroCells92[37], Tryd.zeroCells92[38], Tryd.zeroCells92[39], Tryd.zeroCells92[40], Tryd.zeroCells92[41], Tryd.zeroCells92[42], Tryd.zeroCells92[43], Tryd.zeroCells92[44], Tryd.zeroCells92[45], Tryd.zeroCells92[46], Tryd.zeroCells92[47], Tryd.zeroCells92[48], Tryd.zeroCells92[49], Tryd.zeroCells92[50], Tryd.zeroCells92[51], Tryd.zeroCells92[52], Tryd.zeroCells92[53], Tryd.zeroCells92[54], Tryd.zeroCells92[55], Tryd.zeroCells92[56], Tryd.zeroCells92[57], Tryd.zeroCells92[58], Tryd.zeroCells92[59], Tryd.zeroCells92[60], Tryd.zeroCells92[61], Tryd.zeroCells92[62], Tryd.zeroCells92[63], Tryd.zeroCells92[64], Tryd.zeroCells92[65], Tryd.zeroCells92[66], Tryd.zeroCells92[67], Tryd.zeroCells92[68], Tryd.zeroCells92[69], Tryd.zeroCells92[70], Tryd.zeroCells92[71], Tryd.zeroCells92[72], Tryd.zeroCells92[73], Tryd.zeroCells92[74], Tryd.zeroCells92[75], Tryd.zeroCells92[76], Tryd.zeroCells92[77], Tryd.zeroCells92[78], Tryd.zeroCells92[79], Tryd.zeroCells92[80], Tryd.zeroCells92[81], Tryd.zeroCells92[82], Tryd.zeroCells92[83], Tryd.zeroCells92[84], Tryd.zeroCells92[85], Tryd.zeroCells92[86]] X.zipIdx 0 87 = X := by
          exact fold_fill' X _ 87 hps rfl
        have HBX := Lib.hid hX; have HFOLD := Lib.hid hfold
        have hfin : ∀ (A5 : Option Addr) (c5 : Nat) (L5 : List (Nat × Obj)), Row 92 87 (.slice A5 (all.length + 1) c5) (all.length + 1) (dlist (all ++ [⟨d, last + 1, 1, zR⟩])) L5 → Off0 (.slice A5 (all.length + 1) c5) → RAll A5 c5 (all ++ [⟨d, last + 1, 1, zR⟩]) L5 := fun A5 c5 L5 h1 h2 => RAll.of_row (by simp) h1 h2
        have hcl : ∀ (v : World) (G : List (Nat × Obj)), St W v I (RdL gr (n : Int) A all.length c last L ++ G) → v.cell? ⟨gr, 2, none⟩ = some (.int .i64 last) ∧ v.frozen? ⟨gr, 2, none⟩ = false := fun v G hv => ⟨hv.cell (g := gr) (cs := rdesk (n : Int) A all.length c last) (t := 66) (fr := (0, 0)) (by simp [RdL]) 2, hv.frozen (g := gr) (cs := rdesk (n : Int) A all.length c last) (t := 66) (by simp [RdL]) 2⟩
        have HFIN := Lib.hid hfin; have HDL := Lib.hid hdl; have HPS := Lib.hid hps; have HPO := Lib.hid hpo; have HCL := Lib.hid hcl
        have sl1 : IntKind.i64.wrap (last + 1) = last + 1 := IntWalk.i64_in _ (by omega)
        clear KF hf hpo hdl hpl hlit hX hfold hfin hcl hnm OKD okp
        obtain ⟨cl, kd, sl, jo, na⟩ := d
        simp only [Cl.val, Cl.cells] at H0 KR HB hk ⊢
        subst hk
        go_enter Tryd.func24, Tryd.ntmps24
        go_wp2_with fail
        refine (KR.out _ _ H0.out).mono ?_
        rintro e w1 ⟨rfl, hx⟩
        obtain ⟨d0, d1⟩ := HB.out _ _ hx
        clear H0 KR
        go_wp2_with fail
        refine wp_region_held_drew (S := fun v => v.cell? ⟨bc, 0, none⟩ = some (.int .i64 (k : Int)) ∧ v.cell? ⟨gr, 0, none⟩ = some (.int .i64 (n : Int))) (by kernel_rfl) ⟨d0, d1⟩ (fun hHeld => ?_)
        refine wpAnyH_take (i := 0) (oi := ?_) (v := ?_) ?_ ?_ ?_ ?_ ?_ ?_ ?_ ?_
        rotate_left 2
        · (simp only [List.getElem?_toArray, List.getElem?_cons_succ, List.getElem?_cons_zero]; exact rfl)
        · kernel_rfl
        · kernel_rfl
        · kernel_rfl
        · exact fun _ _ _ h => h
        · first | (refine Or.inl ⟨by rfl, ?_⟩; intro w hSw; (try dsimp only at hSw); go_simp; try with_reducible rfl) | (refine Or.inr ⟨by rfl, ?_⟩; rfl)
        · assumption
        try simp only [Act.put, List.setIfInBounds_toArray, List.set_cons_zero, List.set_cons_succ]
        refine wpAnyH_take (i := 1) (oi := ?_) (v := ?_) ?_ ?_ ?_ ?_ ?_ ?_ ?_ ?_
        rotate_left 2
        · (simp only [List.getElem?_toArray, List.getElem?_cons_succ, List.getElem?_cons_zero]; exact rfl)
        · kernel_rfl
        · kernel_rfl
        · kernel_rfl
        · exact fun _ _ _ h => h
        · first | ((refine Or.inl ⟨by rfl, ?_⟩; intro w hSw; obtain ⟨hS1, hS2⟩ := hSw; go_simp; try with_reducible rfl)) | (refine Or.inr ⟨by rfl, ?_⟩; rfl)
        · assumption
        try simp only [Act.put, List.setIfInBounds_toArray, List.set_cons_zero, List.set_cons_succ]
        refine wpAnyH_take (i := 2) (oi := ?_) (v := ?_) ?_ ?_ ?_ ?_ ?_ ?_ ?_ ?_
        rotate_left 2
        · (simp only [List.getElem?_toArray, List.getElem?_cons_succ, List.getElem?_cons_zero]; exact rfl)
        · kernel_rfl
        · kernel_rfl
        · kernel_rfl
        · exact fun _ _ _ h => h
        · first | (refine Or.inl ⟨by rfl, ?_⟩; intro w hSw; (try dsimp only at hSw); go_simp; try with_reducible rfl) | (refine Or.inr ⟨by rfl, ?_⟩; rfl)
        · assumption
        try simp only [Act.put, List.setIfInBounds_toArray, List.set_cons_zero, List.set_cons_succ]
        refine wpAnyH_take (i := 3) (oi := ?_) (v := ?_) ?_ ?_ ?_ ?_ ?_ ?_ ?_ ?_
        rotate_left 2
        · (simp only [List.getElem?_toArray, List.getElem?_cons_succ, List.getElem?_cons_zero]; exact rfl)
        · kernel_rfl
        · kernel_rfl
        · kernel_rfl
        · exact fun _ _ _ h => h
        · first | (refine Or.inl ⟨by rfl, ?_⟩; intro w hSw; (try dsimp only at hSw); go_simp; try with_reducible rfl) | (refine Or.inr ⟨by rfl, ?_⟩; rfl)
        · assumption
        try simp only [Act.put, List.setIfInBounds_toArray, List.set_cons_zero, List.set_cons_succ]
        refine wpAnyH_take (i := 4) (oi := ?_) (v := ?_) ?_ ?_ ?_ ?_ ?_ ?_ ?_ ?_
        rotate_left 2
        · (simp only [List.getElem?_toArray, List.getElem?_cons_succ, List.getElem?_cons_zero]; exact rfl)
        · kernel_rfl
        · kernel_rfl
        · kernel_rfl
        · exact fun _ _ _ h => h
        · first | (refine Or.inl ⟨by rfl, ?_⟩; intro w hSw; (try dsimp only at hSw); go_simp; try with_reducible rfl) | (refine Or.inr ⟨by rfl, ?_⟩; rfl)
        · assumption
        try simp only [Act.put, List.setIfInBounds_toArray, List.set_cons_zero, List.set_cons_succ]
        refine wpAnyH_take (i := 5) (oi := ?_) (v := ?_) ?_ ?_ ?_ ?_ ?_ ?_ ?_ ?_
        rotate_left 2
        · (simp only [List.getElem?_toArray, List.getElem?_cons_succ, List.getElem?_cons_zero]; exact rfl)
        · kernel_rfl
        · kernel_rfl
        · kernel_rfl
        · exact fun _ _ _ h => h
        · first | ((refine Or.inl ⟨by rfl, ?_⟩; intro w hSw; obtain ⟨hS1, hS2⟩ := hSw; go_simp; try with_reducible rfl)) | (refine Or.inr ⟨by rfl, ?_⟩; rfl)
        · assumption
        try simp only [Act.put, List.setIfInBounds_toArray, List.set_cons_zero, List.set_cons_succ]
        refine wpAnyH_take (i := 6) (oi := ?_) (v := ?_) ?_ ?_ ?_ ?_ ?_ ?_ ?_ ?_
        rotate_left 2
        · (simp only [List.getElem?_toArray, List.getElem?_cons_succ, List.getElem?_cons_zero]; exact rfl)
        · kernel_rfl
        · kernel_rfl
        · kernel_rfl
        · exact fun _ _ _ h => h
        · first | (refine Or.inl ⟨by rfl, ?_⟩; intro w hSw; (try dsimp only at hSw); go_simp; try with_reducible rfl) | (refine Or.inr ⟨by rfl, ?_⟩; rfl)
        · assumption
        try simp only [Act.put, List.setIfInBounds_toArray, List.set_cons_zero, List.set_cons_succ]
        refine wpAnyH_take (i := 7) (oi := ?_) (v := ?_) ?_ ?_ ?_ ?_ ?_ ?_ ?_ ?_
        rotate_left 2
        · (simp only [List.getElem?_toArray, List.getElem?_cons_succ, List.getElem?_cons_zero]; exact rfl)
        · kernel_rfl
        · kernel_rfl
        · kernel_rfl
        · exact fun _ _ _ h => h
        · first | (refine Or.inl ⟨by rfl, ?_⟩; intro w hSw; (try dsimp only at hSw); go_simp; try with_reducible rfl) | (refine Or.inr ⟨by rfl, ?_⟩; rfl)
        · assumption
        try simp only [Act.put, List.setIfInBounds_toArray, List.set_cons_zero, List.set_cons_succ]
        refine wpAnyH_take (i := 8) (oi := ?_) (v := ?_) ?_ ?_ ?_ ?_ ?_ ?_ ?_ ?_
        rotate_left 2
        · (simp only [List.getElem?_toArray, List.getElem?_cons_succ, List.getElem?_cons_zero]; exact rfl)
        · kernel_rfl
        · kernel_rfl
        · kernel_rfl
        · exact fun _ _ _ h => h
        · first | (refine Or.inl ⟨by rfl, ?_⟩; intro w hSw; (try dsimp only at hSw); go_simp; try with_reducible rfl) | (refine Or.inr ⟨by rfl, ?_⟩; rfl)
        · assumption
        try simp only [Act.put, List.setIfInBounds_toArray, List.set_cons_zero, List.set_cons_succ]
        refine wpAnyH_take (i := 9) (oi := ?_) (v := ?_) ?_ ?_ ?_ ?_ ?_ ?_ ?_ ?_
        rotate_left 2
        · (simp only [List.getElem?_toArray, List.getElem?_cons_succ, List.getElem?_cons_zero]; exact rfl)
        · kernel_rfl
        · kernel_rfl
        · kernel_rfl
        · exact fun _ _ _ h => h
        · first | (refine Or.inl ⟨by rfl, ?_⟩; intro w hSw; (try dsimp only at hSw); go_simp; try with_reducible rfl) | (refine Or.inr ⟨by rfl, ?_⟩; rfl)
        · assumption
        try simp only [Act.put, List.setIfInBounds_toArray, List.set_cons_zero, List.set_cons_succ]
        refine wpAnyH_take (i := 10) (oi := ?_) (v := ?_) ?_ ?_ ?_ ?_ ?_ ?_ ?_ ?_
        rotate_left 2
        · (simp only [List.getElem?_toArray, List.getElem?_cons_succ, List.getElem?_cons_zero]; exact rfl)
        · kernel_rfl
        · kernel_rfl
        · kernel_rfl
        · exact fun _ _ _ h => h
        · first | ((refine Or.inl ⟨by rfl, ?_⟩; intro w hSw; obtain ⟨hS1, hS2⟩ := hSw; go_simp; try with_reducible rfl)) | (refine Or.inr ⟨by rfl, ?_⟩; rfl)
        · assumption
        try simp only [Act.put, List.setIfInBounds_toArray, List.set_cons_zero, List.set_cons_succ]
        refine wpAnyH_ready (rs := [11]) (by kernel_rfl) (by simp) ?_
        refine AllReadyH.cons (o := ?_) ?_ (fun K hK => ?_) ?_
        rotate_left 1
        · (simp only [List.getElem?_toArray, List.getElem?_cons_succ, List.getElem?_cons_zero]; exact rfl)
        · go_simp
          ((go_at_call 43; (with_reducible refine (KF2.out _ _ (by first | exact hx.drew1 | exact hx)).mono ?_); rintro e wx ⟨rfl, hx⟩; dsimp only))
          refine hK.out _ _ ?_ (fun hHeld => ?_)
          · (try dsimp only) <;> (first | exact HB.out _ _ hx | exact ⟨d0, d1⟩)
          clear hK K
          try simp only [Act.put, List.setIfInBounds_toArray, List.set_cons_zero, List.set_cons_succ]
          refine wpAnyH_take (i := 12) (oi := ?_) (v := ?_) ?_ ?_ ?_ ?_ ?_ ?_ ?_ ?_
          rotate_left 2
          · (simp only [List.getElem?_toArray, List.getElem?_cons_succ, List.getElem?_cons_zero]; exact rfl)
          · kernel_rfl
          · kernel_rfl
          · kernel_rfl
          · exact fun _ _ _ h => h
          · first | (refine Or.inl ⟨by rfl, ?_⟩; intro w hSw; (try dsimp only at hSw); go_simp; try with_reducible rfl) | (refine Or.inr ⟨by rfl, ?_⟩; rfl)
          · assumption
          try simp only [Act.put, List.setIfInBounds_toArray, List.set_cons_zero, List.set_cons_succ]
          refine wpAnyH_take (i := 13) (oi := ?_) (v := ?_) ?_ ?_ ?_ ?_ ?_ ?_ ?_ ?_
          rotate_left 2
          · (simp only [List.getElem?_toArray, List.getElem?_cons_succ, List.getElem?_cons_zero]; exact rfl)
          · kernel_rfl
          · kernel_rfl
          · kernel_rfl
          · exact fun _ _ _ h => h
          · first | (refine Or.inl ⟨by rfl, ?_⟩; intro w hSw; (try dsimp only at hSw); go_simp; try with_reducible rfl) | (refine Or.inr ⟨by rfl, ?_⟩; rfl)
          · assumption
          try simp only [Act.put, List.setIfInBounds_toArray, List.set_cons_zero, List.set_cons_succ]
          refine wpAnyH_done (by kernel_rfl) ?_ _
          have HZ := Lib.hid hx
          clear hx d0 d1 HB KF2
          obtain ⟨e0, e1⟩ := HCL.out _ _ HZ.out
          have h3 := St.set (A := []) HZ.out 2 (.int .i64 (last + 1))
          have H3 := Lib.hid h3
          clear h3 HCL HZ
          go_wp2_with fail
          have h6 : St W _ I ((gr, Obj.cells (rdesk (n : Int) A all.length c (last + 1)) 66 (0, 0)) :: (L ++ ((bc, Obj.cells #[Value.int .i64 (k : Int), .int .i64 kd, .int .i64 sl, .int .i64 jo, .string na] 23 (0, 0)) :: F))) := H3.out
          clear H3 e0 e1
          generalize World.setCell _ _ _ = w6 at *
          have sx : ∀ (v : World) (G : List (Nat × Obj)), St W v I G → (gr, Obj.cells (rdesk (n : Int) A all.length c (last + 1)) 66 (0, 0)) ∈ G → (bc, Obj.cells #[Value.int .i64 (k : Int), .int .i64 kd, .int .i64 sl, .int .i64 jo, .string na] 23 (0, 0)) ∈ G → (v.cell? ⟨gr, 1, none⟩ = some (.slice A all.length c) ∧ v.cell? ⟨gr, 2, none⟩ = some (.int .i64 (last + 1)) ∧ v.cell? ⟨bc, 0, none⟩ = some (.int .i64 (k : Int)) ∧ v.cell? ⟨bc, 1, none⟩ = some (.int .i64 kd) ∧ v.cell? ⟨bc, 2, none⟩ = some (.int .i64 sl) ∧ v.cell? ⟨bc, 3, none⟩ = some (.int .i64 jo) ∧ v.cell? ⟨bc, 4, none⟩ = some (.string na)) := fun v G hv m1 m2 => by
            have e1 := hv.cell (g := gr) (cs := rdesk (n : Int) A all.length c (last + 1)) (t := 66) (fr := (0, 0)) m1
            have e2 := hv.cell (g := bc) (cs := #[Value.int .i64 (k : Int), .int .i64 kd, .int .i64 sl, .int .i64 jo, .string na]) (t := 23) (fr := (0, 0)) m2
            exact ⟨e1 1, e1 2, e2 0, e2 1, e2 2, e2 3, e2 4⟩
          have sb : St W ((w6.alloc (.cells #[] 92)).alloc (.cells X 92)) I ([(w6.heap.size, Obj.cells #[] 92 (0, 0))] ++ ((gr, Obj.cells (rdesk (n : Int) A all.length c (last + 1)) 66 (0, 0)) :: (w6.heap.size + 1, .cells X 92 (0, 0)) :: (L ++ ((bc, Obj.cells #[Value.int .i64 (k : Int), .int .i64 kd, .int .i64 sl, .int .i64 jo, .string na] 23 (0, 0)) :: F)))) := by
            have h := (h6.alloc (.cells #[] 92)).alloc (.cells X 92)
            rw [World.size_alloc] at h
            exact h.perm (perm3b _ _ _ _)
          have sc : St W ((w6.alloc (.cells X 92)).alloc (.cells #[] 92)) I ([(w6.heap.size + 1, Obj.cells #[] 92 (0, 0))] ++ ((gr, Obj.cells (rdesk (n : Int) A all.length c (last + 1)) 66 (0, 0)) :: (w6.heap.size, .cells X 92 (0, 0)) :: (L ++ ((bc, Obj.cells #[Value.int .i64 (k : Int), .int .i64 kd, .int .i64 sl, .int .i64 jo, .string na] 23 (0, 0)) :: F)))) := by
            have h := (h6.alloc (.cells X 92)).alloc (.cells #[] 92)
            rw [World.size_alloc] at h
            exact h.perm (perm_tail _ _ _ _)
          have SX := Lib.hid sx; have SB := Lib.hid sb; have SC := Lib.hid sc
          clear sx sb sc
          refine wp_region_sink (S := fun v => (v.cell? ⟨gr, 1, none⟩ = some (.slice A all.length c) ∧ v.cell? ⟨gr, 2, none⟩ = some (.int .i64 (last + 1)) ∧ v.cell? ⟨bc, 0, none⟩ = some (.int .i64 (k : Int)) ∧ v.cell? ⟨bc, 1, none⟩ = some (.int .i64 kd) ∧ v.cell? ⟨bc, 2, none⟩ = some (.int .i64 sl) ∧ v.cell? ⟨bc, 3, none⟩ = some (.int .i64 jo) ∧ v.cell? ⟨bc, 4, none⟩ = some (.string na))) 17 (by kernel_rfl) (by kernel_rfl) rfl (SX.out _ _ h6.drew1 (by simp) (by simp)) (fun hHeld => ?_)
          dsimp only [List.take]
          refine wpAnyH_take (i := 0) (oi := ?_) (v := ?_) ?_ ?_ ?_ ?_ ?_ ?_ ?_ ?_
          rotate_left 2
          · (simp only [List.getElem?_toArray, List.getElem?_cons_succ, List.getElem?_cons_zero]; exact rfl)
          · kernel_rfl
          · kernel_rfl
          · kernel_rfl
          · exact fun _ _ _ h => h
          · first | (refine Or.inl ⟨by rfl, ?_⟩; intro w hSw; (try dsimp only at hSw); go_simp; try with_reducible rfl) | (refine Or.inr ⟨by rfl, ?_⟩; rfl)
          · assumption
          try simp only [Act.put, List.setIfInBounds_toArray, List.set_cons_zero, List.set_cons_succ]
          try simp only [HBX.out, HFOLD.out]
          refine wpAnyH_take (i := 2) (oi := ?_) (v := ?_) ?_ ?_ ?_ ?_ ?_ ?_ ?_ ?_
          rotate_left 2
          · (simp only [List.getElem?_toArray, List.getElem?_cons_succ, List.getElem?_cons_zero]; exact rfl)
          · kernel_rfl
          · kernel_rfl
          · kernel_rfl
          · exact fun _ _ _ h => h
          · first | (refine Or.inl ⟨by rfl, ?_⟩; intro w hSw; (try dsimp only at hSw); go_simp; try with_reducible rfl) | (refine Or.inr ⟨by rfl, ?_⟩; rfl)
          · assumption
          try simp only [Act.put, List.setIfInBounds_toArray, List.set_cons_zero, List.set_cons_succ]
          try simp only [HBX.out, HFOLD.out]
          refine wpAnyH_take (i := 3) (oi := ?_) (v := ?_) ?_ ?_ ?_ ?_ ?_ ?_ ?_ ?_
          rotate_left 2
          · (simp only [List.getElem?_toArray, List.getElem?_cons_succ, List.getElem?_cons_zero]; exact rfl)
          · kernel_rfl
          · kernel_rfl
          · kernel_rfl
          · exact fun _ _ _ h => h
          · first | (refine Or.inl ⟨by rfl, ?_⟩; intro w hSw; (try dsimp only at hSw); go_simp; try with_reducible rfl) | (refine Or.inr ⟨by rfl, ?_⟩; rfl)
          · assumption
          try simp only [Act.put, List.setIfInBounds_toArray, List.set_cons_zero, List.set_cons_succ]
          try simp only [HBX.out, HFOLD.out]
          refine wpAnyH_take (i := 4) (oi := ?_) (v := ?_) ?_ ?_ ?_ ?_ ?_ ?_ ?_ ?_
          rotate_left 2
          · (simp only [List.getElem?_toArray, List.getElem?_cons_succ, List.getElem?_cons_zero]; exact rfl)
          · kernel_rfl
          · kernel_rfl
          · kernel_rfl
          · exact fun _ _ _ h => h
          · first | (refine Or.inl ⟨by rfl, ?_⟩; intro w hSw; (try dsimp only at hSw); go_simp; try with_reducible rfl) | (refine Or.inr ⟨by rfl, ?_⟩; rfl)
          · assumption
          try simp only [Act.put, List.setIfInBounds_toArray, List.set_cons_zero, List.set_cons_succ]
          try simp only [HBX.out, HFOLD.out]
          refine wpAnyH_take (i := 5) (oi := ?_) (v := ?_) ?_ ?_ ?_ ?_ ?_ ?_ ?_ ?_
          rotate_left 2
          · (simp only [List.getElem?_toArray, List.getElem?_cons_succ, List.getElem?_cons_zero]; exact rfl)
          · kernel_rfl
          · kernel_rfl
          · kernel_rfl
          · exact fun _ _ _ h => h
          · first | ((refine Or.inl ⟨by rfl, ?_⟩; intro w hSw; obtain ⟨hS1, hS2, hS3, hS4, hS5, hS6, hS7⟩ := hSw; go_simp; try with_reducible rfl)) | (refine Or.inr ⟨by rfl, ?_⟩; rfl)
          · assumption
          try simp only [Act.put, List.setIfInBounds_toArray, List.set_cons_zero, List.set_cons_succ]
          try simp only [HBX.out, HFOLD.out]
          refine wpAnyH_take (i := 7) (oi := ?_) (v := ?_) ?_ ?_ ?_ ?_ ?_ ?_ ?_ ?_
          rotate_left 2
          · (simp only [List.getElem?_toArray, List.getElem?_cons_succ, List.getElem?_cons_zero]; exact rfl)
          · kernel_rfl
          · kernel_rfl
          · kernel_rfl
          · exact fun _ _ _ h => h
          · first | ((refine Or.inl ⟨by rfl, ?_⟩; intro w hSw; obtain ⟨hS1, hS2, hS3, hS4, hS5, hS6, hS7⟩ := hSw; go_simp; try with_reducible rfl)) | (refine Or.inr ⟨by rfl, ?_⟩; rfl)
          · assumption
          try simp only [Act.put, List.setIfInBounds_toArray, List.set_cons_zero, List.set_cons_succ]
          try simp only [HBX.out, HFOLD.out]
          refine wpAnyH_take (i := 8) (oi := ?_) (v := ?_) ?_ ?_ ?_ ?_ ?_ ?_ ?_ ?_
          rotate_left 2
          · (simp only [List.getElem?_toArray, List.getElem?_cons_succ, List.getElem?_cons_zero]; exact rfl)
          · kernel_rfl
          · kernel_rfl
          · kernel_rfl
          · exact fun _ _ _ h => h
          · first | (refine Or.inl ⟨by rfl, ?_⟩; intro w hSw; (try dsimp only at hSw); go_simp; try with_reducible rfl) | (refine Or.inr ⟨by rfl, ?_⟩; rfl)
          · assumption
          try simp only [Act.put, List.setIfInBounds_toArray, List.set_cons_zero, List.set_cons_succ]
          try simp only [HBX.out, HFOLD.out]
          refine wpAnyH_take (i := 9) (oi := ?_) (v := ?_) ?_ ?_ ?_ ?_ ?_ ?_ ?_ ?_
          rotate_left 2
          · (simp only [List.getElem?_toArray, List.getElem?_cons_succ, List.getElem?_cons_zero]; exact rfl)
          · kernel_rfl
          · kernel_rfl
          · kernel_rfl
          · exact fun _ _ _ h => h
          · first | (refine Or.inl ⟨by rfl, ?_⟩; intro w hSw; (try dsimp only at hSw); go_simp; try with_reducible rfl) | (refine Or.inr ⟨by rfl, ?_⟩; rfl)
          · assumption
          try simp only [Act.put, List.setIfInBounds_toArray, List.set_cons_zero, List.set_cons_succ]
          try simp only [HBX.out, HFOLD.out]
          refine wpAnyH_take (i := 10) (oi := ?_) (v := ?_) ?_ ?_ ?_ ?_ ?_ ?_ ?_ ?_
          rotate_left 2
          · (simp only [List.getElem?_toArray, List.getElem?_cons_succ, List.getElem?_cons_zero]; exact rfl)
          · kernel_rfl
          · kernel_rfl
          · kernel_rfl
          · exact fun _ _ _ h => h
          · first | (refine Or.inl ⟨by rfl, ?_⟩; intro w hSw; (try dsimp only at hSw); go_simp; try with_reducible rfl) | (refine Or.inr ⟨by rfl, ?_⟩; rfl)
          · assumption
          try simp only [Act.put, List.setIfInBounds_toArray, List.set_cons_zero, List.set_cons_succ]
          try simp only [HBX.out, HFOLD.out]
          refine wpAnyH_take (i := 11) (oi := ?_) (v := ?_) ?_ ?_ ?_ ?_ ?_ ?_ ?_ ?_
          rotate_left 2
          · (simp only [List.getElem?_toArray, List.getElem?_cons_succ, List.getElem?_cons_zero]; exact rfl)
          · kernel_rfl
          · kernel_rfl
          · kernel_rfl
          · exact fun _ _ _ h => h
          · first | ((refine Or.inl ⟨by rfl, ?_⟩; intro w hSw; obtain ⟨hS1, hS2, hS3, hS4, hS5, hS6, hS7⟩ := hSw; go_simp; try with_reducible rfl)) | (refine Or.inr ⟨by rfl, ?_⟩; rfl)
          · assumption
          try simp only [Act.put, List.setIfInBounds_toArray, List.set_cons_zero, List.set_cons_succ]
          try simp only [HBX.out, HFOLD.out]
          refine wpAnyH_take (i := 12) (oi := ?_) (v := ?_) ?_ ?_ ?_ ?_ ?_ ?_ ?_ ?_
          rotate_left 2
          · (simp only [List.getElem?_toArray, List.getElem?_cons_succ, List.getElem?_cons_zero]; exact rfl)
          · kernel_rfl
          · kernel_rfl
          · kernel_rfl
          · exact fun _ _ _ h => h
          · first | (refine Or.inl ⟨by rfl, ?_⟩; intro w hSw; (try dsimp only at hSw); go_simp; try with_reducible rfl) | (refine Or.inr ⟨by rfl, ?_⟩; rfl)
          · assumption
          try simp only [Act.put, List.setIfInBounds_toArray, List.set_cons_zero, List.set_cons_succ]
          try simp only [HBX.out, HFOLD.out]
          refine wpAnyH_ready (rs := [1, 13]) (by kernel_rfl) (by simp) ?_
          refine AllReadyH.cons (o := ?_) ?_ (fun K hK => ?_) ?_
          rotate_left 1
          · (simp only [List.getElem?_toArray, List.getElem?_cons_succ, List.getElem?_cons_zero]; exact rfl)
          · go_simp
            refine hK.out _ _ ?_ (fun hHeld => ?_)
            · (try dsimp only) <;> (first | exact SX.out _ _ h5 (by simp) (by simp) | exact SX.out _ _ h4 (by simp) (by simp) | exact SX.out _ _ (St.alloc_ h4 _) (by simp) (by simp) | exact SX.out _ _ (h6.alloc _).drew1 (by simp) (by simp) | exact SX.out _ _ ((h6.alloc _).alloc _).drew1 (by simp) (by simp))
            clear hK K
            try simp only [Act.put, List.setIfInBounds_toArray, List.set_cons_zero, List.set_cons_succ]
            try simp only [HBX.out, HFOLD.out]
            refine wpAnyH_ready (rs := [6, 13]) (by kernel_rfl) (by simp) ?_
            refine AllReadyH.cons (o := ?_) ?_ (fun K hK => ?_) ?_
            rotate_left 1
            · (simp only [List.getElem?_toArray, List.getElem?_cons_succ, List.getElem?_cons_zero]; exact rfl)
            · ((first | (refine step_append_row0 (F := (gr, Obj.cells (rdesk (n : Int) A all.length c (last + 1)) 66 (0, 0)) :: (L ++ ((bc, Obj.cells #[Value.int .i64 (k : Int), .int .i64 kd, .int .i64 sl, .int .i64 jo, .string na] 23 (0, 0)) :: F))) (L := [(w6.heap.size, Obj.cells #[] 92 (0, 0))]) rfl (.tmp 31) (.tmp 35) 64 rfl 92 (.agg zP.cells) 87 256 Tryd.underlying64 rinfo rzero (by omega) rfl (Row.empty 92 87 _) ((h6.alloc (.cells #[] 92)).drew1) rfl (RAll.src OK.out HA.out ((h6.alloc (.cells #[] 92)).drew1) (fun p hp => by simp [hp])) (dlist_one _) all.length (Nat.zero_add _) (dlist all) rfl (by unfold maxLen; omega) (by omega) Off0.head ?_; intro A4 c4 w4 L4 hr4 h4 ho4; dsimp only) | (refine step_append_row0 (F := (gr, Obj.cells (rdesk (n : Int) A all.length c (last + 1)) 66 (0, 0)) :: (w6.heap.size + 1, .cells X 92 (0, 0)) :: (L ++ ((bc, Obj.cells #[Value.int .i64 (k : Int), .int .i64 kd, .int .i64 sl, .int .i64 jo, .string na] 23 (0, 0)) :: F))) (L := [(w6.heap.size, Obj.cells #[] 92 (0, 0))]) rfl (.tmp 31) (.tmp 35) 64 rfl 92 (.agg zP.cells) 87 256 Tryd.underlying64 rinfo rzero (by omega) rfl (Row.empty 92 87 _) ((SB.out).drew1) rfl (RAll.src OK.out HA.out ((SB.out).drew1) (fun p hp => by simp [hp])) (dlist_one _) all.length (Nat.zero_add _) (dlist all) rfl (by unfold maxLen; omega) (by omega) Off0.head ?_; intro A4 c4 w4 L4 hr4 h4 ho4; dsimp only) | (refine step_append_row0 (F := (gr, Obj.cells (rdesk (n : Int) A all.length c (last + 1)) 66 (0, 0)) :: (w6.heap.size, .cells X 92 (0, 0)) :: (L ++ ((bc, Obj.cells #[Value.int .i64 (k : Int), .int .i64 kd, .int .i64 sl, .int .i64 jo, .string na] 23 (0, 0)) :: F))) (L := [(w6.heap.size + 1, Obj.cells #[] 92 (0, 0))]) rfl (.tmp 31) (.tmp 35) 64 rfl 92 (.agg zP.cells) 87 256 Tryd.underlying64 rinfo rzero (by omega) rfl (Row.empty 92 87 _) ((SC.out).drew1) rfl (RAll.src OK.out HA.out ((SC.out).drew1) (fun p hp => by simp [hp])) (dlist_one _) all.length (Nat.zero_add _) (dlist all) rfl (by unfold maxLen; omega) (by omega) Off0.head ?_; intro A4 c4 w4 L4 hr4 h4 ho4; dsimp only) | (refine step_append_row0 (F := (gr, Obj.cells (rdesk (n : Int) A all.length c (last + 1)) 66 (0, 0)) :: (L ++ ((bc, Obj.cells #[Value.int .i64 (k : Int), .int .i64 kd, .int .i64 sl, .int .i64 jo, .string na] 23 (0, 0)) :: F))) rfl (.tmp 36) (.tmp 43) 64 rfl 92 (.agg zP.cells) 87 256 Tryd.underlying64 rinfo rzero (by omega) rfl hr4 ((St.alloc_ h4 _)) rfl (Src.newS' w4 87 X 92 rfl 1 (by rw [HPS.out])) HPO.out (all.length + 1) rfl (dlist (all ++ [⟨⟨(k : Int), kd, sl, jo, na⟩, last + 1, 1, zR⟩])) HDL.out (by unfold maxLen; omega) (by omega) ho4 ?_; intro A5 c5 w5 L5 hr5 h5 ho5; dsimp only) | (refine step_append_row0 (F := (gr, Obj.cells (rdesk (n : Int) A all.length c (last + 1)) 66 (0, 0)) :: (w6.heap.size + 1, .cells X 92 (0, 0)) :: (L ++ ((bc, Obj.cells #[Value.int .i64 (k : Int), .int .i64 kd, .int .i64 sl, .int .i64 jo, .string na] 23 (0, 0)) :: F))) rfl (.tmp 36) (.tmp 43) 64 rfl 92 (.agg zP.cells) 87 256 Tryd.underlying64 rinfo rzero (by omega) rfl hr4 (h4) rfl (St.srcX HPS.out h4 (by simp)) HPO.out (all.length + 1) rfl (dlist (all ++ [⟨⟨(k : Int), kd, sl, jo, na⟩, last + 1, 1, zR⟩])) HDL.out (by unfold maxLen; omega) (by omega) ho4 ?_; intro A5 c5 w5 L5 hr5 h5 ho5; dsimp only) | (refine step_append_row0 (F := (gr, Obj.cells (rdesk (n : Int) A all.length c (last + 1)) 66 (0, 0)) :: (w6.heap.size, .cells X 92 (0, 0)) :: (L ++ ((bc, Obj.cells #[Value.int .i64 (k : Int), .int .i64 kd, .int .i64 sl, .int .i64 jo, .string na] 23 (0, 0)) :: F))) rfl (.tmp 36) (.tmp 43) 64 rfl 92 (.agg zP.cells) 87 256 Tryd.underlying64 rinfo rzero (by omega) rfl hr4 (h4) rfl (St.srcX HPS.out h4 (by simp)) HPO.out (all.length + 1) rfl (dlist (all ++ [⟨⟨(k : Int), kd, sl, jo, na⟩, last + 1, 1, zR⟩])) HDL.out (by unfold maxLen; omega) (by omega) ho4 ?_; intro A5 c5 w5 L5 hr5 h5 ho5; dsimp only)))
              refine hK.out _ _ ?_ (fun hHeld => ?_)
              · (try dsimp only) <;> (first | exact SX.out _ _ h5 (by simp) (by simp) | exact SX.out _ _ h4 (by simp) (by simp) | exact SX.out _ _ (St.alloc_ h4 _) (by simp) (by simp) | exact SX.out _ _ (h6.alloc _).drew1 (by simp) (by simp) | exact SX.out _ _ ((h6.alloc _).alloc _).drew1 (by simp) (by simp))
              clear hK K
              try simp only [Act.put, List.setIfInBounds_toArray, List.set_cons_zero, List.set_cons_succ]
              try simp only [HBX.out, HFOLD.out]
              refine wpAnyH_ready (rs := [13]) (by kernel_rfl) (by simp) ?_
              refine AllReadyH.cons (o := ?_) ?_ (fun K hK => ?_) ?_
              rotate_left 1
              · (simp only [List.getElem?_toArray, List.getElem?_cons_succ, List.getElem?_cons_zero]; exact rfl)
              · go_simp
                refine hK.out _ _ ?_ (fun hHeld => ?_)
                · (try dsimp only) <;> (first | exact SX.out _ _ h5 (by simp) (by simp) | exact SX.out _ _ h4 (by simp) (by simp) | exact SX.out _ _ (St.alloc_ h4 _) (by simp) (by simp) | exact SX.out _ _ (h6.alloc _).drew1 (by simp) (by simp) | exact SX.out _ _ ((h6.alloc _).alloc _).drew1 (by simp) (by simp))
                clear hK K
                try simp only [Act.put, List.setIfInBounds_toArray, List.set_cons_zero, List.set_cons_succ]
                try simp only [HBX.out, HFOLD.out]
                refine wpAnyH_ready (rs := [14]) (by kernel_rfl) (by simp) ?_
                refine AllReadyH.cons (o := ?_) ?_ (fun K hK => ?_) ?_
                rotate_left 1
                · (simp only [List.getElem?_toArray, List.getElem?_cons_succ, List.getElem?_cons_zero]; exact rfl)
                · ((first | (refine step_append_row0 (F := (gr, Obj.cells (rdesk (n : Int) A all.length c (last + 1)) 66 (0, 0)) :: (L ++ ((bc, Obj.cells #[Value.int .i64 (k : Int), .int .i64 kd, .int .i64 sl, .int .i64 jo, .string na] 23 (0, 0)) :: F))) (L := [(w6.heap.size, Obj.cells #[] 92 (0, 0))]) rfl (.tmp 31) (.tmp 35) 64 rfl 92 (.agg zP.cells) 87 256 Tryd.underlying64 rinfo rzero (by omega) rfl (Row.empty 92 87 _) ((h6.alloc (.cells #[] 92)).drew1) rfl (RAll.src OK.out HA.out ((h6.alloc (.cells #[] 92)).drew1) (fun p hp => by simp [hp])) (dlist_one _) all.length (Nat.zero_add _) (dlist all) rfl (by unfold maxLen; omega) (by omega) Off0.head ?_; intro A4 c4 w4 L4 hr4 h4 ho4; dsimp only) | (refine step_append_row0 (F := (gr, Obj.cells (rdesk (n : Int) A all.length c (last + 1)) 66 (0, 0)) :: (w6.heap.size + 1, .cells X 92 (0, 0)) :: (L ++ ((bc, Obj.cells #[Value.int .i64 (k : Int), .int .i64 kd, .int .i64 sl, .int .i64 jo, .string na] 23 (0, 0)) :: F))) (L := [(w6.heap.size, Obj.cells #[] 92 (0, 0))]) rfl (.tmp 31) (.tmp 35) 64 rfl 92 (.agg zP.cells) 87 256 Tryd.underlying64 rinfo rzero (by omega) rfl (Row.empty 92 87 _) ((SB.out).drew1) rfl (RAll.src OK.out HA.out ((SB.out).drew1) (fun p hp => by simp [hp])) (dlist_one _) all.length (Nat.zero_add _) (dlist all) rfl (by unfold maxLen; omega) (by omega) Off0.head ?_; intro A4 c4 w4 L4 hr4 h4 ho4; dsimp only) | (refine step_append_row0 (F := (gr, Obj.cells (rdesk (n : Int) A all.length c (last + 1)) 66 (0, 0)) :: (w6.heap.size, .cells X 92 (0, 0)) :: (L ++ ((bc, Obj.cells #[Value.int .i64 (k : Int), .int .i64 kd, .int .i64 sl, .int .i64 jo, .string na] 23 (0, 0)) :: F))) (L := [(w6.heap.size + 1, Obj.cells #[] 92 (0, 0))]) rfl (.tmp 31) (.tmp 35) 64 rfl 92 (.agg zP.cells) 87 256 Tryd.underlying64 rinfo rzero (by omega) rfl (Row.empty 92 87 _) ((SC.out).drew1) rfl (RAll.src OK.out HA.out ((SC.out).drew1) (fun p hp => by simp [hp])) (dlist_one _) all.length (Nat.zero_add _) (dlist all) rfl (by unfold maxLen; omega) (by omega) Off0.head ?_; intro A4 c4 w4 L4 hr4 h4 ho4; dsimp only) | (refine step_append_row0 (F := (gr, Obj.cells (rdesk (n : Int) A all.length c (last + 1)) 66 (0, 0)) :: (L ++ ((bc, Obj.cells #[Value.int .i64 (k : Int), .int .i64 kd, .int .i64 sl, .int .i64 jo, .string na] 23 (0, 0)) :: F))) rfl (.tmp 36) (.tmp 43) 64 rfl 92 (.agg zP.cells) 87 256 Tryd.underlying64 rinfo rzero (by omega) rfl hr4 ((St.alloc_ h4 _)) rfl (Src.newS' w4 87 X 92 rfl 1 (by rw [HPS.out])) HPO.out (all.length + 1) rfl (dlist (all ++ [⟨⟨(k : Int), kd, sl, jo, na⟩, last + 1, 1, zR⟩])) HDL.out (by unfold maxLen; omega) (by omega) ho4 ?_; intro A5 c5 w5 L5 hr5 h5 ho5; dsimp only) | (refine step_append_row0 (F := (gr, Obj.cells (rdesk (n : Int) A all.length c (last + 1)) 66 (0, 0)) :: (w6.heap.size + 1, .cells X 92 (0, 0)) :: (L ++ ((bc, Obj.cells #[Value.int .i64 (k : Int), .int .i64 kd, .int .i64 sl, .int .i64 jo, .string na] 23 (0, 0)) :: F))) rfl (.tmp 36) (.tmp 43) 64 rfl 92 (.agg zP.cells) 87 256 Tryd.underlying64 rinfo rzero (by omega) rfl hr4 (h4) rfl (St.srcX HPS.out h4 (by simp)) HPO.out (all.length + 1) rfl (dlist (all ++ [⟨⟨(k : Int), kd, sl, jo, na⟩, last + 1, 1, zR⟩])) HDL.out (by unfold maxLen; omega) (by omega) ho4 ?_; intro A5 c5 w5 L5 hr5 h5 ho5; dsimp only) | (refine step_append_row0 (F := (gr, Obj.cells (rdesk (n : Int) A all.length c (last + 1)) 66 (0, 0)) :: (w6.heap.size, .cells X 92 (0, 0)) :: (L ++ ((bc, Obj.cells #[Value.int .i64 (k : Int), .int .i64 kd, .int .i64 sl, .int .i64 jo, .string na] 23 (0, 0)) :: F))) rfl (.tmp 36) (.tmp 43) 64 rfl 92 (.agg zP.cells) 87 256 Tryd.underlying64 rinfo rzero (by omega) rfl hr4 (h4) rfl (St.srcX HPS.out h4 (by simp)) HPO.out (all.length + 1) rfl (dlist (all ++ [⟨⟨(k : Int), kd, sl, jo, na⟩, last + 1, 1, zR⟩])) HDL.out (by unfold maxLen; omega) (by omega) ho4 ?_; intro A5 c5 w5 L5 hr5 h5 ho5; dsimp only)))
                  refine hK.out _ _ ?_ (fun hHeld => ?_)
                  · (try dsimp only) <;> (first | exact SX.out _ _ h5 (by simp) (by simp) | exact SX.out _ _ h4 (by simp) (by simp) | exact SX.out _ _ (St.alloc_ h4 _) (by simp) (by simp) | exact SX.out _ _ (h6.alloc _).drew1 (by simp) (by simp) | exact SX.out _ _ ((h6.alloc _).alloc _).drew1 (by simp) (by simp))
                  clear hK K
                  try simp only [Act.put, List.setIfInBounds_toArray, List.set_cons_zero, List.set_cons_succ]
                  try simp only [HBX.out, HFOLD.out]
                  refine wpAnyH_take (i := 15) (oi := ?_) (v := ?_) ?_ ?_ ?_ ?_ ?_ ?_ ?_ ?_
                  rotate_left 2
                  · (simp only [List.getElem?_toArray, List.getElem?_cons_succ, List.getElem?_cons_zero]; exact rfl)
                  · kernel_rfl
                  · kernel_rfl
                  · kernel_rfl
                  · exact fun _ _ _ h => h
                  · first | (refine Or.inl ⟨by rfl, ?_⟩; intro w hSw; (try dsimp only at hSw); go_simp; try with_reducible rfl) | (refine Or.inr ⟨by rfl, ?_⟩; rfl)
                  · assumption
                  try simp only [Act.put, List.setIfInBounds_toArray, List.set_cons_zero, List.set_cons_succ]
                  try simp only [HBX.out, HFOLD.out]
                  refine wpAnyH_take (i := 16) (oi := ?_) (v := ?_) ?_ ?_ ?_ ?_ ?_ ?_ ?_ ?_
                  rotate_left 2
                  · (simp only [List.getElem?_toArray, List.getElem?_cons_succ, List.getElem?_cons_zero]; exact rfl)
                  · kernel_rfl
                  · kernel_rfl
                  · kernel_rfl
                  · exact fun _ _ _ h => h
                  · first | (refine Or.inl ⟨by rfl, ?_⟩; intro w hSw; (try dsimp only at hSw); go_simp; try with_reducible rfl) | (refine Or.inr ⟨by rfl, ?_⟩; rfl)
                  · assumption
                  try simp only [Act.put, List.setIfInBounds_toArray, List.set_cons_zero, List.set_cons_succ]
                  try simp only [HBX.out, HFOLD.out]
                  refine wpAnyH_done (by kernel_rfl) ?_ _
                  obtain ⟨e5, f5⟩ : w5.cell? ⟨gr, 1, none⟩ = some (.slice A all.length c) ∧ w5.frozen? ⟨gr, 1, none⟩ = false := ⟨(SX.out _ _ h5 (by simp) (by simp)).1, h5.frozen (g := gr) (t := 66) (cs := rdesk (n : Int) A all.length c (last + 1)) (by simp) 1⟩
                  have h7 := St.set (A := L5) h5 1 (.slice A5 (all.length + 1) c5)
                  have e6 : (w5.setCell ⟨gr, 1, none⟩ (.slice A5 (all.length + 1) c5)).cell? ⟨gr, 2, none⟩ = some (.int .i64 (last + 1)) := h7.cell (g := gr) (t := 66) (fr := (0, 0)) (List.mem_append.2 (.inr (List.mem_cons_self ..))) 2
                  have h8 := h7.perm List.perm_middle
                  have H8 := Lib.hid h8; have HA5 := Lib.hid (HFIN.out _ _ _ hr5 ho5)
                  clear h4 h5 h6 h7 h8 hr4 ho4 hr5 ho5 SX SB SC HPS HPO HDL hps
                  show wpList _ _ _ [_] _ _
                  go_wp2_with fail
                  refine bodyPost_ret (results_tmp2 rfl _ _ _) rfl ⟨A5, c5, L5, rfl, HA5.out, ?_⟩
                  rw [List.length_append]
                  first
                    | exact St.mid (A := (gr, Obj.cells (rdesk (n : Int) A5 (all.length + 1) c5 (last + 1)) 66 (0, 0)) :: L5) (B := L ++ [(bc, _)]) (F := F) (by simpa [rdesk] using H8.out)
                    | exact St.mid (A := (gr, Obj.cells (rdesk (n : Int) A5 (all.length + 1) c5 (last + 1)) 66 (0, 0)) :: L5) (B := (_, _) :: (L ++ [(bc, _)])) (F := F) (by simpa [rdesk] using H8.out)
                exact AllReadyH.nil
              exact AllReadyH.nil
            refine AllReadyH.cons (o := ?_) ?_ (fun K hK => ?_) ?_
            rotate_left 1
            · (simp only [List.getElem?_toArray, List.getElem?_cons_succ, List.getElem?_cons_zero]; exact rfl)
            · go_simp
              refine hK.out _ _ ?_ (fun hHeld => ?_)
              · (try dsimp only) <;> (first | exact SX.out _ _ h5 (by simp) (by simp) | exact SX.out _ _ h4 (by simp) (by simp) | exact SX.out _ _ (St.alloc_ h4 _) (by simp) (by simp) | exact SX.out _ _ (h6.alloc _).drew1 (by simp) (by simp) | exact SX.out _ _ ((h6.alloc _).alloc _).drew1 (by simp) (by simp))
              clear hK K
              try simp only [Act.put, List.setIfInBounds_toArray, List.set_cons_zero, List.set_cons_succ]
              try simp only [HBX.out, HFOLD.out]
              refine wpAnyH_ready (rs := [6]) (by kernel_rfl) (by simp) ?_
              refine AllReadyH.cons (o := ?_) ?_ (fun K hK => ?_) ?_
              rotate_left 1
              · (simp only [List.getElem?_toArray, List.getElem?_cons_succ, List.getElem?_cons_zero]; exact rfl)
              · ((first | (refine step_append_row0 (F := (gr, Obj.cells (rdesk (n : Int) A all.length c (last + 1)) 66 (0, 0)) :: (L ++ ((bc, Obj.cells #[Value.int .i64 (k : Int), .int .i64 kd, .int .i64 sl, .int .i64 jo, .string na] 23 (0, 0)) :: F))) (L := [(w6.heap.size, Obj.cells #[] 92 (0, 0))]) rfl (.tmp 31) (.tmp 35) 64 rfl 92 (.agg zP.cells) 87 256 Tryd.underlying64 rinfo rzero (by omega) rfl (Row.empty 92 87 _) ((h6.alloc (.cells #[] 92)).drew1) rfl (RAll.src OK.out HA.out ((h6.alloc (.cells #[] 92)).drew1) (fun p hp => by simp [hp])) (dlist_one _) all.length (Nat.zero_add _) (dlist all) rfl (by unfold maxLen; omega) (by omega) Off0.head ?_; intro A4 c4 w4 L4 hr4 h4 ho4; dsimp only) | (refine step_append_row0 (F := (gr, Obj.cells (rdesk (n : Int) A all.length c (last + 1)) 66 (0, 0)) :: (w6.heap.size + 1, .cells X 92 (0, 0)) :: (L ++ ((bc, Obj.cells #[Value.int .i64 (k : Int), .int .i64 kd, .int .i64 sl, .int .i64 jo, .string na] 23 (0, 0)) :: F))) (L := [(w6.heap.size, Obj.cells #[] 92 (0, 0))]) rfl (.tmp 31) (.tmp 35) 64 rfl 92 (.agg zP.cells) 87 256 Tryd.underlying64 rinfo rzero (by omega) rfl (Row.empty 92 87 _) ((SB.out).drew1) rfl (RAll.src OK.out HA.out ((SB.out).drew1) (fun p hp => by simp [hp])) (dlist_one _) all.length (Nat.zero_add _) (dlist all) rfl (by unfold maxLen; omega) (by omega) Off0.head ?_; intro A4 c4 w4 L4 hr4 h4 ho4; dsimp only) | (refine step_append_row0 (F := (gr, Obj.cells (rdesk (n : Int) A all.length c (last + 1)) 66 (0, 0)) :: (w6.heap.size, .cells X 92 (0, 0)) :: (L ++ ((bc, Obj.cells #[Value.int .i64 (k : Int), .int .i64 kd, .int .i64 sl, .int .i64 jo, .string na] 23 (0, 0)) :: F))) (L := [(w6.heap.size + 1, Obj.cells #[] 92 (0, 0))]) rfl (.tmp 31) (.tmp 35) 64 rfl 92 (.agg zP.cells) 87 256 Tryd.underlying64 rinfo rzero (by omega) rfl (Row.empty 92 87 _) ((SC.out).drew1) rfl (RAll.src OK.out HA.out ((SC.out).drew1) (fun p hp => by simp [hp])) (dlist_one _) all.length (Nat.zero_add _) (dlist all) rfl (by unfold maxLen; omega) (by omega) Off0.head ?_; intro A4 c4 w4 L4 hr4 h4 ho4; dsimp only) | (refine step_append_row0 (F := (gr, Obj.cells (rdesk (n : Int) A all.length c (last + 1)) 66 (0, 0)) :: (L ++ ((bc, Obj.cells #[Value.int .i64 (k : Int), .int .i64 kd, .int .i64 sl, .int .i64 jo, .string na] 23 (0, 0)) :: F))) rfl (.tmp 36) (.tmp 43) 64 rfl 92 (.agg zP.cells) 87 256 Tryd.underlying64 rinfo rzero (by omega) rfl hr4 ((St.alloc_ h4 _)) rfl (Src.newS' w4 87 X 92 rfl 1 (by rw [HPS.out])) HPO.out (all.length + 1) rfl (dlist (all ++ [⟨⟨(k : Int), kd, sl, jo, na⟩, last + 1, 1, zR⟩])) HDL.out (by unfold maxLen; omega) (by omega) ho4 ?_; intro A5 c5 w5 L5 hr5 h5 ho5; dsimp only) | (refine step_append_row0 (F := (gr, Obj.cells (rdesk (n : Int) A all.length c (last + 1)) 66 (0, 0)) :: (w6.heap.size + 1, .cells X 92 (0, 0)) :: (L ++ ((bc, Obj.cells #[Value.int .i64 (k : Int), .int .i64 kd, .int .i64 sl, .int .i64 jo, .string na] 23 (0, 0)) :: F))) rfl (.tmp 36) (.tmp 43) 64 rfl 92 (.agg zP.cells) 87 256 Tryd.underlying64 rinfo rzero (by omega) rfl hr4 (h4) rfl (St.srcX HPS.out h4 (by simp)) HPO.out (all.length + 1) rfl (dlist (all ++ [⟨⟨(k : Int), kd, sl, jo, na⟩, last + 1, 1, zR⟩])) HDL.out (by unfold maxLen; omega) (by omega) ho4 ?_; intro A5 c5 w5 L5 hr5 h5 ho5; dsimp only) | (refine step_append_row0 (F := (gr, Obj.cells (rdesk (n : Int) A all.length c (last + 1)) 66 (0, 0)) :: (w6.heap.size, .cells X 92 (0, 0)) :: (L ++ ((bc, Obj.cells #[Value.int .i64 (k : Int), .int .i64 kd, .int .i64 sl, .int .i64 jo, .string na] 23 (0, 0)) :: F))) rfl (.tmp 36) (.tmp 43) 64 rfl 92 (.agg zP.cells) 87 256 Tryd.underlying64 rinfo rzero (by omega) rfl hr4 (h4) rfl (St.srcX HPS.out h4 (by simp)) HPO.out (all.length + 1) rfl (dlist (all ++ [⟨⟨(k : Int), kd, sl, jo, na⟩, last + 1, 1, zR⟩])) HDL.out (by unfold maxLen; omega) (by omega) ho4 ?_; intro A5 c5 w5 L5 hr5 h5 ho5; dsimp only)))
                refine hK.out _ _ ?_ (fun hHeld => ?_)
                · (try dsimp only) <;> (first | exact SX.out _ _ h5 (by simp) (by simp) | exact SX.out _ _ h4 (by simp) (by simp) | exact SX.out _ _ (St.alloc_ h4 _) (by simp) (by simp) | exact SX.out _ _ (h6.alloc _).drew1 (by simp) (by simp) | exact SX.out _ _ ((h6.alloc _).alloc _).drew1 (by simp) (by simp))
                clear hK K
                try simp only [Act.put, List.setIfInBounds_toArray, List.set_cons_zero, List.set_cons_succ]
                try simp only [HBX.out, HFOLD.out]
                refine wpAnyH_ready (rs := [14]) (by kernel_rfl) (by simp) ?_
                refine AllReadyH.cons (o := ?_) ?_ (fun K hK => ?_) ?_
                rotate_left 1
                · (simp only [List.getElem?_toArray, List.getElem?_cons_succ, List.getElem?_cons_zero]; exact rfl)
                · ((first | (refine step_append_row0 (F := (gr, Obj.cells (rdesk (n : Int) A all.length c (last + 1)) 66 (0, 0)) :: (L ++ ((bc, Obj.cells #[Value.int .i64 (k : Int), .int .i64 kd, .int .i64 sl, .int .i64 jo, .string na] 23 (0, 0)) :: F))) (L := [(w6.heap.size, Obj.cells #[] 92 (0, 0))]) rfl (.tmp 31) (.tmp 35) 64 rfl 92 (.agg zP.cells) 87 256 Tryd.underlying64 rinfo rzero (by omega) rfl (Row.empty 92 87 _) ((h6.alloc (.cells #[] 92)).drew1) rfl (RAll.src OK.out HA.out ((h6.alloc (.cells #[] 92)).drew1) (fun p hp => by simp [hp])) (dlist_one _) all.length (Nat.zero_add _) (dlist all) rfl (by unfold maxLen; omega) (by omega) Off0.head ?_; intro A4 c4 w4 L4 hr4 h4 ho4; dsimp only) | (refine step_append_row0 (F := (gr, Obj.cells (rdesk (n : Int) A all.length c (last + 1)) 66 (0, 0)) :: (w6.heap.size + 1, .cells X 92 (0, 0)) :: (L ++ ((bc, Obj.cells #[Value.int .i64 (k : Int), .int .i64 kd, .int .i64 sl, .int .i64 jo, .string na] 23 (0, 0)) :: F))) (L := [(w6.heap.size, Obj.cells #[] 92 (0, 0))]) rfl (.tmp 31) (.tmp 35) 64 rfl 92 (.agg zP.cells) 87 256 Tryd.underlying64 rinfo rzero (by omega) rfl (Row.empty 92 87 _) ((SB.out).drew1) rfl (RAll.src OK.out HA.out ((SB.out).drew1) (fun p hp => by simp [hp])) (dlist_one _) all.length (Nat.zero_add _) (dlist all) rfl (by unfold maxLen; omega) (by omega) Off0.head ?_; intro A4 c4 w4 L4 hr4 h4 ho4; dsimp only) | (refine step_append_row0 (F := (gr, Obj.cells (rdesk (n : Int) A all.length c (last + 1)) 66 (0, 0)) :: (w6.heap.size, .cells X 92 (0, 0)) :: (L ++ ((bc, Obj.cells #[Value.int .i64 (k : Int), .int .i64 kd, .int .i64 sl, .int .i64 jo, .string na] 23 (0, 0)) :: F))) (L := [(w6.heap.size + 1, Obj.cells #[] 92 (0, 0))]) rfl (.tmp 31) (.tmp 35) 64 rfl 92 (.agg zP.cells) 87 256 Tryd.underlying64 rinfo rzero (by omega) rfl (Row.empty 92 87 _) ((SC.out).drew1) rfl (RAll.src OK.out HA.out ((SC.out).drew1) (fun p hp => by simp [hp])) (dlist_one _) all.length (Nat.zero_add _) (dlist all) rfl (by unfold maxLen; omega) (by omega) Off0.head ?_; intro A4 c4 w4 L4 hr4 h4 ho4; dsimp only) | (refine step_append_row0 (F := (gr, Obj.cells (rdesk (n : Int) A all.length c (last + 1)) 66 (0, 0)) :: (L ++ ((bc, Obj.cells #[Value.int .i64 (k : Int), .int .i64 kd, .int .i64 sl, .int .i64 jo, .string na] 23 (0, 0)) :: F))) rfl (.tmp 36) (.tmp 43) 64 rfl 92 (.agg zP.cells) 87 256 Tryd.underlying64 rinfo rzero (by omega) rfl hr4 ((St.alloc_ h4 _)) rfl (Src.newS' w4 87 X 92 rfl 1 (by rw [HPS.out])) HPO.out (all.length + 1) rfl (dlist (all ++ [⟨⟨(k : Int), kd, sl, jo, na⟩, last + 1, 1, zR⟩])) HDL.out (by unfold maxLen; omega) (by omega) ho4 ?_; intro A5 c5 w5 L5 hr5 h5 ho5; dsimp only) | (refine step_append_row0 (F := (gr, Obj.cells (rdesk (n : Int) A all.length c (last + 1)) 66 (0, 0)) :: (w6.heap.size + 1, .cells X 92 (0, 0)) :: (L ++ ((bc, Obj.cells #[Value.int .i64 (k : Int), .int .i64 kd, .int .i64 sl, .int .i64 jo, .string na] 23 (0, 0)) :: F))) rfl (.tmp 36) (.tmp 43) 64 rfl 92 (.agg zP.cells) 87 256 Tryd.underlying64 rinfo rzero (by omega) rfl hr4 (h4) rfl (St.srcX HPS.out h4 (by simp)) HPO.out (all.length + 1) rfl (dlist (all ++ [⟨⟨(k : Int), kd, sl, jo, na⟩, last + 1, 1, zR⟩])) HDL.out (by unfold maxLen; omega) (by omega) ho4 ?_; intro A5 c5 w5 L5 hr5 h5 ho5; dsimp only) | (refine step_append_row0 (F := (gr, Obj.cells (rdesk (n : Int) A all.length c (last + 1)) 66 (0, 0)) :: (w6.heap.size, .cells X 92 (0, 0)) :: (L ++ ((bc, Obj.cells #[Value.int .i64 (k : Int), .int .i64 kd, .int .i64 sl, .int .i64 jo, .string na] 23 (0, 0)) :: F))) rfl (.tmp 36) (.tmp 43) 64 rfl 92 (.agg zP.cells) 87 256 Tryd.underlying64 rinfo rzero (by omega) rfl hr4 (h4) rfl (St.srcX HPS.out h4 (by simp)) HPO.out (all.length + 1) rfl (dlist (all ++ [⟨⟨(k : Int), kd, sl, jo, na⟩, last + 1, 1, zR⟩])) HDL.out (by unfold maxLen; omega) (by omega) ho4 ?_; intro A5 c5 w5 L5 hr5 h5 ho5; dsimp only)))
                  refine hK.out _ _ ?_ (fun hHeld => ?_)
                  · (try dsimp only) <;> (first | exact SX.out _ _ h5 (by simp) (by simp) | exact SX.out _ _ h4 (by simp) (by simp) | exact SX.out _ _ (St.alloc_ h4 _) (by simp) (by simp) | exact SX.out _ _ (h6.alloc _).drew1 (by simp) (by simp) | exact SX.out _ _ ((h6.alloc _).alloc _).drew1 (by simp) (by simp))
                  clear hK K
                  try simp only [Act.put, List.setIfInBounds_toArray, List.set_cons_zero, List.set_cons_succ]
                  try simp only [HBX.out, HFOLD.out]
                  refine wpAnyH_take (i := 15) (oi := ?_) (v := ?_) ?_ ?_ ?_ ?_ ?_ ?_ ?_ ?_
                  rotate_left 2
                  · (simp only [List.getElem?_toArray, List.getElem?_cons_succ, List.getElem?_cons_zero]; exact rfl)
                  · kernel_rfl
                  · kernel_rfl
                  · kernel_rfl
                  · exact fun _ _ _ h => h
                  · first | (refine Or.inl ⟨by rfl, ?_⟩; intro w hSw; (try dsimp only at hSw); go_simp; try with_reducible rfl) | (refine Or.inr ⟨by rfl, ?_⟩; rfl)
                  · assumption
                  try simp only [Act.put, List.setIfInBounds_toArray, List.set_cons_zero, List.set_cons_succ]
                  try simp only [HBX.out, HFOLD.out]
                  refine wpAnyH_take (i := 16) (oi := ?_) (v := ?_) ?_ ?_ ?_ ?_ ?_ ?_ ?_ ?_
                  rotate_left 2
                  · (simp only [List.getElem?_toArray, List.getElem?_cons_succ, List.getElem?_cons_zero]; exact rfl)
                  · kernel_rfl
                  · kernel_rfl
                  · kernel_rfl
                  · exact fun _ _ _ h => h
                  · first | (refine Or.inl ⟨by rfl, ?_⟩; intro w hSw; (try dsimp only at hSw); go_simp; try with_reducible rfl) | (refine Or.inr ⟨by rfl, ?_⟩; rfl)
                  · assumption
                  try simp only [Act.put, List.setIfInBounds_toArray, List.set_cons_zero, List.set_cons_succ]
                  try simp only [HBX.out, HFOLD.out]
                  refine wpAnyH_done (by kernel_rfl) ?_ _
                  obtain ⟨e5, f5⟩ : w5.cell? ⟨gr, 1, none⟩ = some (.slice A all.length c) ∧ w5.frozen? ⟨gr, 1, none⟩ = false := ⟨(SX.out _ _ h5 (by simp) (by simp)).1, h5.frozen (g := gr) (t := 66) (cs := rdesk (n : Int) A all.length c (last + 1)) (by simp) 1⟩
                  have h7 := St.set (A := L5) h5 1 (.slice A5 (all.length + 1) c5)
                  have e6 : (w5.setCell ⟨gr, 1, none⟩ (.slice A5 (all.length + 1) c5)).cell? ⟨gr, 2, none⟩ = some (.int .i64 (last + 1)) := h7.cell (g := gr) (t := 66) (fr := (0, 0)) (List.mem_append.2 (.inr (List.mem_cons_self ..))) 2
                  have h8 := h7.perm List.perm_middle
                  have H8 := Lib.hid h8; have HA5 := Lib.hid (HFIN.out _ _ _ hr5 ho5)
                  clear h4 h5 h6 h7 h8 hr4 ho4 hr5 ho5 SX SB SC HPS HPO HDL hps
                  show wpList _ _ _ [_] _ _
                  go_wp2_with fail
                  refine bodyPost_ret (results_tmp2 rfl _ _ _) rfl ⟨A5, c5, L5, rfl, HA5.out, ?_⟩
                  rw [List.length_append]
                  first
                    | exact St.mid (A := (gr, Obj.cells (rdesk (n : Int) A5 (all.length + 1) c5 (last + 1)) 66 (0, 0)) :: L5) (B := L ++ [(bc, _)]) (F := F) (by simpa [rdesk] using H8.out)
                    | exact St.mid (A := (gr, Obj.cells (rdesk (n : Int) A5 (all.length + 1) c5 (last + 1)) 66 (0, 0)) :: L5) (B := (_, _) :: (L ++ [(bc, _)])) (F := F) (by simpa [rdesk] using H8.out)
                exact AllReadyH.nil
              exact AllReadyH.nil
            exact AllReadyH.nil
          refine AllReadyH.cons (o := ?_) ?_ (fun K hK => ?_) ?_
          rotate_left 1
          · (simp only [List.getElem?_toArray, List.getElem?_cons_succ, List.getElem?_cons_zero]; exact rfl)
          · go_simp
            refine hK.out _ _ ?_ (fun hHeld => ?_)
            · (try dsimp only) <;> (first | exact SX.out _ _ h5 (by simp) (by simp) | exact SX.out _ _ h4 (by simp) (by simp) | exact SX.out _ _ (St.alloc_ h4 _) (by simp) (by simp) | exact SX.out _ _ (h6.alloc _).drew1 (by simp) (by simp) | exact SX.out _ _ ((h6.alloc _).alloc _).drew1 (by simp) (by simp))
            clear hK K
            try simp only [Act.put, List.setIfInBounds_toArray, List.set_cons_zero, List.set_cons_succ]
            try simp only [HBX.out, HFOLD.out]
            refine wpAnyH_ready (rs := [1]) (by kernel_rfl) (by simp) ?_
            refine AllReadyH.cons (o := ?_) ?_ (fun K hK => ?_) ?_
            rotate_left 1
            · (simp only [List.getElem?_toArray, List.getElem?_cons_succ, List.getElem?_cons_zero]; exact rfl)
            · go_simp
              refine hK.out _ _ ?_ (fun hHeld => ?_)
              · (try dsimp only) <;> (first | exact SX.out _ _ h5 (by simp) (by simp) | exact SX.out _ _ h4 (by simp) (by simp) | exact SX.out _ _ (St.alloc_ h4 _) (by simp) (by simp) | exact SX.out _ _ (h6.alloc _).drew1 (by simp) (by simp) | exact SX.out _ _ ((h6.alloc _).alloc _).drew1 (by simp) (by simp))
              clear hK K
              try simp only [Act.put, List.setIfInBounds_toArray, List.set_cons_zero, List.set_cons_succ]
              try simp only [HBX.out, HFOLD.out]
              refine wpAnyH_ready (rs := [6]) (by kernel_rfl) (by simp) ?_
              refine AllReadyH.cons (o := ?_) ?_ (fun K hK => ?_) ?_
              rotate_left 1
              · (simp only [List.getElem?_toArray, List.getElem?_cons_succ, List.getElem?_cons_zero]; exact rfl)
              · ((first | (refine step_append_row0 (F := (gr, Obj.cells (rdesk (n : Int) A all.length c (last + 1)) 66 (0, 0)) :: (L ++ ((bc, Obj.cells #[Value.int .i64 (k : Int), .int .i64 kd, .int .i64 sl, .int .i64 jo, .string na] 23 (0, 0)) :: F))) (L := [(w6.heap.size, Obj.cells #[] 92 (0, 0))]) rfl (.tmp 31) (.tmp 35) 64 rfl 92 (.agg zP.cells) 87 256 Tryd.underlying64 rinfo rzero (by omega) rfl (Row.empty 92 87 _) ((h6.alloc (.cells #[] 92)).drew1) rfl (RAll.src OK.out HA.out ((h6.alloc (.cells #[] 92)).drew1) (fun p hp => by simp [hp])) (dlist_one _) all.length (Nat.zero_add _) (dlist all) rfl (by unfold maxLen; omega) (by omega) Off0.head ?_; intro A4 c4 w4 L4 hr4 h4 ho4; dsimp only) | (refine step_append_row0 (F := (gr, Obj.cells (rdesk (n : Int) A all.length c (last + 1)) 66 (0, 0)) :: (w6.heap.size + 1, .cells X 92 (0, 0)) :: (L ++ ((bc, Obj.cells #[Value.int .i64 (k : Int), .int .i64 kd, .int .i64 sl, .int .i64 jo, .string na] 23 (0, 0)) :: F))) (L := [(w6.heap.size, Obj.cells #[] 92 (0, 0))]) rfl (.tmp 31) (.tmp 35) 64 rfl 92 (.agg zP.cells) 87 256 Tryd.underlying64 rinfo rzero (by omega) rfl (Row.empty 92 87 _) ((SB.out).drew1) rfl (RAll.src OK.out HA.out ((SB.out).drew1) (fun p hp => by simp [hp])) (dlist_one _) all.length (Nat.zero_add _) (dlist all) rfl (by unfold maxLen; omega) (by omega) Off0.head ?_; intro A4 c4 w4 L4 hr4 h4 ho4; dsimp only) | (refine step_append_row0 (F := (gr, Obj.cells (rdesk (n : Int) A all.length c (last + 1)) 66 (0, 0)) :: (w6.heap.size, .cells X 92 (0, 0)) :: (L ++ ((bc, Obj.cells #[Value.int .i64 (k : Int), .int .i64 kd, .int .i64 sl, .int .i64 jo, .string na] 23 (0, 0)) :: F))) (L := [(w6.heap.size + 1, Obj.cells #[] 92 (0, 0))]) rfl (.tmp 31) (.tmp 35) 64 rfl 92 (.agg zP.cells) 87 256 Tryd.underlying64 rinfo rzero (by omega) rfl (Row.empty 92 87 _) ((SC.out).drew1) rfl (RAll.src OK.out HA.out ((SC.out).drew1) (fun p hp => by simp [hp])) (dlist_one _) all.length (Nat.zero_add _) (dlist all) rfl (by unfold maxLen; omega) (by omega) Off0.head ?_; intro A4 c4 w4 L4 hr4 h4 ho4; dsimp only) | (refine step_append_row0 (F := (gr, Obj.cells (rdesk (n : Int) A all.length c (last + 1)) 66 (0, 0)) :: (L ++ ((bc, Obj.cells #[Value.int .i64 (k : Int), .int .i64 kd, .int .i64 sl, .int .i64 jo, .string na] 23 (0, 0)) :: F))) rfl (.tmp 36) (.tmp 43) 64 rfl 92 (.agg zP.cells) 87 256 Tryd.underlying64 rinfo rzero (by omega) rfl hr4 ((St.alloc_ h4 _)) rfl (Src.newS' w4 87 X 92 rfl 1 (by rw [HPS.out])) HPO.out (all.length + 1) rfl (dlist (all ++ [⟨⟨(k : Int), kd, sl, jo, na⟩, last + 1, 1, zR⟩])) HDL.out (by unfold maxLen; omega) (by omega) ho4 ?_; intro A5 c5 w5 L5 hr5 h5 ho5; dsimp only) | (refine step_append_row0 (F := (gr, Obj.cells (rdesk (n : Int) A all.length c (last + 1)) 66 (0, 0)) :: (w6.heap.size + 1, .cells X 92 (0, 0)) :: (L ++ ((bc, Obj.cells #[Value.int .i64 (k : Int), .int .i64 kd, .int .i64 sl, .int .i64 jo, .string na] 23 (0, 0)) :: F))) rfl (.tmp 36) (.tmp 43) 64 rfl 92 (.agg zP.cells) 87 256 Tryd.underlying64 rinfo rzero (by omega) rfl hr4 (h4) rfl (St.srcX HPS.out h4 (by simp)) HPO.out (all.length + 1) rfl (dlist (all ++ [⟨⟨(k : Int), kd, sl, jo, na⟩, last + 1, 1, zR⟩])) HDL.out (by unfold maxLen; omega) (by omega) ho4 ?_; intro A5 c5 w5 L5 hr5 h5 ho5; dsimp only) | (refine step_append_row0 (F := (gr, Obj.cells (rdesk (n : Int) A all.length c (last + 1)) 66 (0, 0)) :: (w6.heap.size, .cells X 92 (0, 0)) :: (L ++ ((bc, Obj.cells #[Value.int .i64 (k : Int), .int .i64 kd, .int .i64 sl, .int .i64 jo, .string na] 23 (0, 0)) :: F))) rfl (.tmp 36) (.tmp 43) 64 rfl 92 (.agg zP.cells) 87 256 Tryd.underlying64 rinfo rzero (by omega) rfl hr4 (h4) rfl (St.srcX HPS.out h4 (by simp)) HPO.out (all.length + 1) rfl (dlist (all ++ [⟨⟨(k : Int), kd, sl, jo, na⟩, last + 1, 1, zR⟩])) HDL.out (by unfold maxLen; omega) (by omega) ho4 ?_; intro A5 c5 w5 L5 hr5 h5 ho5; dsimp only)))
                refine hK.out _ _ ?_ (fun hHeld => ?_)
                · (try dsimp only) <;> (first | exact SX.out _ _ h5 (by simp) (by simp) | exact SX.out _ _ h4 (by simp) (by simp) | exact SX.out _ _ (St.alloc_ h4 _) (by simp) (by simp) | exact SX.out _ _ (h6.alloc _).drew1 (by simp) (by simp) | exact SX.out _ _ ((h6.alloc _).alloc _).drew1 (by simp) (by simp))
                clear hK K
                try simp only [Act.put, List.setIfInBounds_toArray, List.set_cons_zero, List.set_cons_succ]
                try simp only [HBX.out, HFOLD.out]
                refine wpAnyH_ready (rs := [14]) (by kernel_rfl) (by simp) ?_
                refine AllReadyH.cons (o := ?_) ?_ (fun K hK => ?_) ?_
                rotate_left 1
                · (simp only [List.getElem?_toArray, List.getElem?_cons_succ, List.getElem?_cons_zero]; exact rfl)
                · ((first | (refine step_append_row0 (F := (gr, Obj.cells (rdesk (n : Int) A all.length c (last + 1)) 66 (0, 0)) :: (L ++ ((bc, Obj.cells #[Value.int .i64 (k : Int), .int .i64 kd, .int .i64 sl, .int .i64 jo, .string na] 23 (0, 0)) :: F))) (L := [(w6.heap.size, Obj.cells #[] 92 (0, 0))]) rfl (.tmp 31) (.tmp 35) 64 rfl 92 (.agg zP.cells) 87 256 Tryd.underlying64 rinfo rzero (by omega) rfl (Row.empty 92 87 _) ((h6.alloc (.cells #[] 92)).drew1) rfl (RAll.src OK.out HA.out ((h6.alloc (.cells #[] 92)).drew1) (fun p hp => by simp [hp])) (dlist_one _) all.length (Nat.zero_add _) (dlist all) rfl (by unfold maxLen; omega) (by omega) Off0.head ?_; intro A4 c4 w4 L4 hr4 h4 ho4; dsimp only) | (refine step_append_row0 (F := (gr, Obj.cells (rdesk (n : Int) A all.length c (last + 1)) 66 (0, 0)) :: (w6.heap.size + 1, .cells X 92 (0, 0)) :: (L ++ ((bc, Obj.cells #[Value.int .i64 (k : Int), .int .i64 kd, .int .i64 sl, .int .i64 jo, .string na] 23 (0, 0)) :: F))) (L := [(w6.heap.size, Obj.cells #[] 92 (0, 0))]) rfl (.tmp 31) (.tmp 35) 64 rfl 92 (.agg zP.cells) 87 256 Tryd.underlying64 rinfo rzero (by omega) rfl (Row.empty 92 87 _) ((SB.out).drew1) rfl (RAll.src OK.out HA.out ((SB.out).drew1) (fun p hp => by simp [hp])) (dlist_one _) all.length (Nat.zero_add _) (dlist all) rfl (by unfold maxLen; omega) (by omega) Off0.head ?_; intro A4 c4 w4 L4 hr4 h4 ho4; dsimp only) | (refine step_append_row0 (F := (gr, Obj.cells (rdesk (n : Int) A all.length c (last + 1)) 66 (0, 0)) :: (w6.heap.size, .cells X 92 (0, 0)) :: (L ++ ((bc, Obj.cells #[Value.int .i64 (k : Int), .int .i64 kd, .int .i64 sl, .int .i64 jo, .string na] 23 (0, 0)) :: F))) (L := [(w6.heap.size + 1, Obj.cells #[] 92 (0, 0))]) rfl (.tmp 31) (.tmp 35) 64 rfl 92 (.agg zP.cells) 87 256 Tryd.underlying64 rinfo rzero (by omega) rfl (Row.empty 92 87 _) ((SC.out).drew1) rfl (RAll.src OK.out HA.out ((SC.out).drew1) (fun p hp => by simp [hp])) (dlist_one _) all.length (Nat.zero_add _) (dlist all) rfl (by unfold maxLen; omega) (by omega) Off0.head ?_; intro A4 c4 w4 L4 hr4 h4 ho4; dsimp only) | (refine step_append_row0 (F := (gr, Obj.cells (rdesk (n : Int) A all.length c (last + 1)) 66 (0, 0)) :: (L ++ ((bc, Obj.cells #[Value.int .i64 (k : Int), .int .i64 kd, .int .i64 sl, .int .i64 jo, .string na] 23 (0, 0)) :: F))) rfl (.tmp 36) (.tmp 43) 64 rfl 92 (.agg zP.cells) 87 256 Tryd.underlying64 rinfo rzero (by omega) rfl hr4 ((St.alloc_ h4 _)) rfl (Src.newS' w4 87 X 92 rfl 1 (by rw [HPS.out])) HPO.out (all.length + 1) rfl (dlist (all ++ [⟨⟨(k : Int), kd, sl, jo, na⟩, last + 1, 1, zR⟩])) HDL.out (by unfold maxLen; omega) (by omega) ho4 ?_; intro A5 c5 w5 L5 hr5 h5 ho5; dsimp only) | (refine step_append_row0 (F := (gr, Obj.cells (rdesk (n : Int) A all.length c (last + 1)) 66 (0, 0)) :: (w6.heap.size + 1, .cells X 92 (0, 0)) :: (L ++ ((bc, Obj.cells #[Value.int .i64 (k : Int), .int .i64 kd, .int .i64 sl, .int .i64 jo, .string na] 23 (0, 0)) :: F))) rfl (.tmp 36) (.tmp 43) 64 rfl 92 (.agg zP.cells) 87 256 Tryd.underlying64 rinfo rzero (by omega) rfl hr4 (h4) rfl (St.srcX HPS.out h4 (by simp)) HPO.out (all.length + 1) rfl (dlist (all ++ [⟨⟨(k : Int), kd, sl, jo, na⟩, last + 1, 1, zR⟩])) HDL.out (by unfold maxLen; omega) (by omega) ho4 ?_; intro A5 c5 w5 L5 hr5 h5 ho5; dsimp only) | (refine step_append_row0 (F := (gr, Obj.cells (rdesk (n : Int) A all.length c (last + 1)) 66 (0, 0)) :: (w6.heap.size, .cells X 92 (0, 0)) :: (L ++ ((bc, Obj.cells #[Value.int .i64 (k : Int), .int .i64 kd, .int .i64 sl, .int .i64 jo, .string na] 23 (0, 0)) :: F))) rfl (.tmp 36) (.tmp 43) 64 rfl 92 (.agg zP.cells) 87 256 Tryd.underlying64 rinfo rzero (by omega) rfl hr4 (h4) rfl (St.srcX HPS.out h4 (by simp)) HPO.out (all.length + 1) rfl (dlist (all ++ [⟨⟨(k : Int), kd, sl, jo, na⟩, last + 1, 1, zR⟩])) HDL.out (by unfold maxLen; omega) (by omega) ho4 ?_; intro A5 c5 w5 L5 hr5 h5 ho5; dsimp only)))
                  refine hK.out _ _ ?_ (fun hHeld => ?_)
                  · (try dsimp only) <;> (first | exact SX.out _ _ h5 (by simp) (by simp) | exact SX.out _ _ h4 (by simp) (by simp) | exact SX.out _ _ (St.alloc_ h4 _) (by simp) (by simp) | exact SX.out _ _ (h6.alloc _).drew1 (by simp) (by simp) | exact SX.out _ _ ((h6.alloc _).alloc _).drew1 (by simp) (by simp))
                  clear hK K
                  try simp only [Act.put, List.setIfInBounds_toArray, List.set_cons_zero, List.set_cons_succ]
                  try simp only [HBX.out, HFOLD.out]
                  refine wpAnyH_take (i := 15) (oi := ?_) (v := ?_) ?_ ?_ ?_ ?_ ?_ ?_ ?_ ?_
                  rotate_left 2
                  · (simp only [List.getElem?_toArray, List.getElem?_cons_succ, List.getElem?_cons_zero]; exact rfl)
                  · kernel_rfl
                  · kernel_rfl
                  · kernel_rfl
                  · exact fun _ _ _ h => h
                  · first | (refine Or.inl ⟨by rfl, ?_⟩; intro w hSw; (try dsimp only at hSw); go_simp; try with_reducible rfl) | (refine Or.inr ⟨by rfl, ?_⟩; rfl)
                  · assumption
                  try simp only [Act.put, List.setIfInBounds_toArray, List.set_cons_zero, List.set_cons_succ]
                  try simp only [HBX.out, HFOLD.out]
                  refine wpAnyH_take (i := 16) (oi := ?_) (v := ?_) ?_ ?_ ?_ ?_ ?_ ?_ ?_ ?_
                  rotate_left 2
                  · (simp only [List.getElem?_toArray, List.getElem?_cons_succ, List.getElem?_cons_zero]; exact rfl)
                  · kernel_rfl
                  · kernel_rfl
                  · kernel_rfl
                  · exact fun _ _ _ h => h
                  · first | (refine Or.inl ⟨by rfl, ?_⟩; intro w hSw; (try dsimp only at hSw); go_simp; try with_reducible rfl) | (refine Or.inr ⟨by rfl, ?_⟩; rfl)
                  · assumption
                  try simp only [Act.put, List.setIfInBounds_toArray, List.set_cons_zero, List.set_cons_succ]
                  try simp only [HBX.out, HFOLD.out]
                  refine wpAnyH_done (by kernel_rfl) ?_ _
                  obtain ⟨e5, f5⟩ : w5.cell? ⟨gr, 1, none⟩ = some (.slice A all.length c) ∧ w5.frozen? ⟨gr, 1, none⟩ = false := ⟨(SX.out _ _ h5 (by simp) (by simp)).1, h5.frozen (g := gr) (t := 66) (cs := rdesk (n : Int) A all.length c (last + 1)) (by simp) 1⟩
                  have h7 := St.set (A := L5) h5 1 (.slice A5 (all.length + 1) c5)
                  have e6 : (w5.setCell ⟨gr, 1, none⟩ (.slice A5 (all.length + 1) c5)).cell? ⟨gr, 2, none⟩ = some (.int .i64 (last + 1)) := h7.cell (g := gr) (t := 66) (fr := (0, 0)) (List.mem_append.2 (.inr (List.mem_cons_self ..))) 2
                  have h8 := h7.perm List.perm_middle
                  have H8 := Lib.hid h8; have HA5 := Lib.hid (HFIN.out _ _ _ hr5 ho5)
                  clear h4 h5 h6 h7 h8 hr4 ho4 hr5 ho5 SX SB SC HPS HPO HDL hps
                  show wpList _ _ _ [_] _ _
                  go_wp2_with fail
                  refine bodyPost_ret (results_tmp2 rfl _ _ _) rfl ⟨A5, c5, L5, rfl, HA5.out, ?_⟩
                  rw [List.length_append]
                  first
                    | exact St.mid (A := (gr, Obj.cells (rdesk (n : Int) A5 (all.length + 1) c5 (last + 1)) 66 (0, 0)) :: L5) (B := L ++ [(bc, _)]) (F := F) (by simpa [rdesk] using H8.out)
                    | exact St.mid (A := (gr, Obj.cells (rdesk (n : Int) A5 (all.length + 1) c5 (last + 1)) 66 (0, 0)) :: L5) (B := (_, _) :: (L ++ [(bc, _)])) (F := F) (by simpa [rdesk] using H8.out)
                exact AllReadyH.nil
              exact AllReadyH.nil
            exact AllReadyH.nil
          exact AllReadyH.nil
        exact AllReadyH.nil
end
end Go.Proofs.YtjcekmmieihllaaDoor
