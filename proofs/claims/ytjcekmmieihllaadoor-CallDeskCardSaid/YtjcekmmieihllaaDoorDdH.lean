/- call: a desk of the document's: Take: walk. call: a desk of the document's: Next, Answer: walk. call: a desk of the document's: Answer: walk. -/
import Derived.Test.YtjcekmmieihllaaDoorDdC
namespace Go.Proofs.YtjcekmmieihllaaDoor
section
set_option linter.unusedVariables false
set_option linter.unusedSimpArgs false
set_option linter.unnecessarySimpa false
open Go.RowKit Go.Lib Go.Deep

section
def subS (A : Option Addr) (c k s : Nat) : Option Addr := if c = k then A else A.map (·.add (k * s))
theorem run_slice_toS {P : Program} {t e : TypeId} {s : Nat} (ht : P.underlying t = some (.slice e)) (hs : ∀ w, (sizeOf e).run P w = .ok s w) (A : Option Addr) (n c k : Nat) (hk : k ≤ c) (w : World) :
    (Instr.slice t (.slice A n c) none (some (.int .i64 (k : Int))) none).run P w = .ok (.slice A k c) w := by
  have h1 : (0 : Int) ≤ k ∧ (k : Int) ≤ c := by omega
  simp [Instr.slice, run_underlying ht, Instr.sliceBounds, Instr.sliceBound, asIntOf, h1, hs, addr_add0]
  intro h2
  omega
theorem run_slice_fromS {P : Program} {t e : TypeId} {s : Nat} (ht : P.underlying t = some (.slice e)) (hs : ∀ w, (sizeOf e).run P w = .ok s w) (A : Option Addr) (n c k : Nat) (hk : k ≤ n) (hc : n ≤ c) (w : World) :
    (Instr.slice t (.slice A n c) (some (.int .i64 (k : Int))) none none).run P w = .ok (.slice (subS A c k s) (n - k) (c - k)) w := by
  have h1 : (0 : Int) ≤ k ∧ (k : Int) ≤ n := by omega
  simp [Instr.slice, run_underlying ht, Instr.sliceBounds, Instr.sliceBound, asIntOf, h1, hs, subS]
  intro h2
  omega
theorem Src.takeS {w : World} {size : Nat} {A : Option Addr} {m : Nat} {news : List Value} (h : Src w size A m news) (k : Nat) (hk : k ≤ m) : Src w size A k (news.take (k * size)) := by
  have hle : k * size ≤ m * size := Nat.mul_le_mul_right _ hk
  refine ⟨by rw [List.length_take, h.1]; omega, fun j u hj => ?_⟩
  rw [List.getElem?_take] at hj
  split at hj
  · exact h.2 j u hj
  · cases hj
theorem Src.dropS {w : World} {size : Nat} {A : Option Addr} {m : Nat} {news : List Value} (h : Src w size A m news) (c k : Nat) (hk : k ≤ m) (hc : m ≤ c) : Src w size (subS A c k size) (m - k) (news.drop (k * size)) := by
  refine ⟨by rw [List.length_drop, h.1, Nat.sub_mul], fun j u hj => ?_⟩
  rw [List.getElem?_drop] at hj
  obtain ⟨ad, h1, h2⟩ := h.2 _ u hj
  have hne : c ≠ k := by
    rintro rfl
    have h3 := (List.getElem?_eq_some_iff.1 hj).1
    have hm : m = c := by omega
    rw [h.1, hm] at h3
    omega
  refine ⟨ad.add (k * size), by unfold subS; rw [if_neg hne, h1]; rfl, ?_⟩
  rw [add_add]
  exact h2
end
section
variable {W w : World} {I : Nat → Option Obj} {F : List (Nat × Obj)} {gr : Nat} {all : List Pn} {last : Int}
theorem dlist_len {all : List Pn} (ok : AllOk all) : (dlist all).length = all.length * 87 := by
  have := dcells_size ok
  unfold dcells at this
  rw [List.size_toArray] at this
  exact this
theorem dlist_app (a b : List Pn) : dlist (a ++ b) = dlist a ++ dlist b := by unfold dlist; simp
theorem dlist_cut {all : List Pn} (ok : AllOk all) (k : Nat) (hk : k ≤ all.length) : (dlist all).take (k * 87) = dlist (all.take k) ∧ (dlist all).drop (k * 87) = dlist (all.drop k) := by
  have h1 : dlist all = dlist (all.take k) ++ dlist (all.drop k) := by rw [← dlist_app, List.take_append_drop]
  have h2 : (dlist (all.take k)).length = k * 87 := by
    rw [dlist_len (fun p hp => ok p (List.mem_of_mem_take hp)), List.length_take, Nat.min_eq_left hk]
  rw [h1]
  exact ⟨List.take_left' h2, List.drop_left' h2⟩
theorem size_pend (w : World) : (sizeOf 92).run Tryd.prog w = .ok 87 w := by kernel_rfl
theorem permT {α : Type} (L6 : List α) (g gl b z : α) (F : List α) : (L6 ++ (g :: gl :: b :: z :: F)).Perm (z :: (g :: b :: gl :: (L6 ++ F))) := by
  have e1 : (L6 ++ (g :: gl :: b :: z :: F)).Perm ((g :: gl :: b :: z :: F) ++ L6) := List.perm_append_comm
  have e2 : ((g :: gl :: b :: z :: F) ++ L6).Perm (g :: gl :: b :: z :: (L6 ++ F)) := ((((List.perm_append_comm (l₁ := F) (l₂ := L6)).cons z).cons b).cons gl).cons g
  have e3 : (g :: gl :: b :: z :: (L6 ++ F)).Perm (z :: g :: gl :: b :: (L6 ++ F)) := ((((List.Perm.swap z b (L6 ++ F)).cons gl).cons g).trans ((List.Perm.swap z gl (b :: (L6 ++ F))).cons g)).trans (List.Perm.swap z g (gl :: b :: (L6 ++ F)))
  exact e1.trans (e2.trans (e3.trans (((List.Perm.swap b gl (L6 ++ F)).cons g).cons z)))
theorem takeEnd {z g b gl : Nat × Obj} {L6 : List (Nat × Obj)} (h : St W w I (z :: (g :: b :: gl :: (L6 ++ F)))) : St W w I ((g :: L6) ++ F) :=
  St.weaken (A := [z, b, gl]) (h.perm (((List.Perm.swap b g (gl :: (L6 ++ F))).cons z).trans (((List.Perm.swap gl g (L6 ++ F)).cons b).cons z)))
def RtakePost (W : World) (I : Nat → Option Obj) (gr n : Nat) (last : Int) (r : List Pn × (Int × Rp × Bool)) (F : List (Nat × Obj)) (e : Ending) (w' : World) : Prop :=
  ∃ A c L, e = .returned (.tuple #[.int .i64 r.2.1, .agg r.2.2.1.cells, .bool r.2.2.2]) ∧ RAll A c r.1 L ∧ St W w' I (RdL gr (n : Int) A r.1.length c last L ++ F)
set_option maxRecDepth 100000 in
set_option maxHeartbeats 8000000 in
theorem rd_take {A : Option Addr} {c n : Nat} {L : List (Nat × Obj)} (ok : AllOk all) (hn : all.length ≤ 8) (hA : RAll A c all L) (i : Int) (h : St W w I (RdL gr (n : Int) A all.length c last L ++ F)) :
    Calls Tryd.prog 27 #[.pointer (some ⟨gr, 0, none⟩), .int .i64 i] w (RtakePost W I gr n last (takeR all i) F) := by
  have h0 := (h.alloc (.cells Tryd.zeroCells44 44)).perm (perm_back _ _ _)
  have hz := zr_whole Tryd.zeroCells44 (by decide) zR zR_ok
  have inf := rp_info zR zR_ok
  have one := zR.one
  obtain ⟨b5, hb5⟩ : ∃ b, w.heap.size = b := ⟨_, rfl⟩
  rw [hb5] at h0
  obtain ⟨T, hT⟩ : ∃ T, takeR all i = T := ⟨_, rfl⟩
  rw [hT]
  have ht := hT
  unfold takeR at ht
  have kF := fun (v : World) (G : List (Nat × Obj)) (hv : St W v I (RdL gr (n : Int) A all.length c last L ++ G)) => rd_find ok hn hA i hv
  unfold idxR at kF
  have FZ := Lib.hid hz.1; have MZ := Lib.hid hz.2; have IZ := Lib.hid inf; have OZ := Lib.hid one; have H0 := Lib.hid h0
  have ULR := Lib.hid Tryd.underlying44
  clear h h0 hz inf one hT
  cases hf : findR all i with
  | none =>
    rw [hf] at ht kF
    dsimp only at ht kF
    subst ht
    have KF := Lib.hid kF; have HA := Lib.hid hA
    clear kF hf hA
    go_enter Tryd.func27, Tryd.ntmps27
    go_wp2_with fail
    refine (KF.out _ _ H0.out).mono ?_
    rintro e w1 ⟨rfl, h1⟩
    have H1 := Lib.hid (h1.perm (perm_back _ _ _).symm)
    clear h1 H0 KF
    go_wp2_with (with_reducible refine wpList_store_st rfl 44 (.tmp 5) (.tmp 25) rfl (off := 0) zR.cells rfl rfl H1.out FZ.out IZ.out OZ.out ?_; intro w9 h9; rw [MZ.out] at h9; have H9 := Lib.hid h9; clear h9)
    refine bodyPost_ret (results_tmp_row_tmp rfl _ _ b5 44 zR.cells (0, 0) _ _ _ rfl rfl rfl (H9.out.own (b5, .cells zR.cells 44 (0, 0)) (by simp)) ULR.out rfl IZ.out) rfl ⟨A, c, L, rfl, HA.out, ?_⟩
    exact St.weaken (A := [_]) H9.out
  | some k =>
    rw [hf] at ht kF
    dsimp only at ht kF
    obtain ⟨p, hp, -⟩ := findR_some hf
    have hk := (List.getElem?_eq_some_iff.1 hp).1
    obtain ⟨_, _, e, _⟩ | ⟨gA, Y, rfl, rfl, hl1, hl2, hl3⟩ := id hA
    · rw [e] at hp; simp at hp
    have hpc := fun (v : World) (G : List (Nat × Obj)) (hv : St W v I (RdL gr (n : Int) (some ⟨gA, 0, none⟩) all.length c last [(gA, Obj.cells (dcells all ++ Y) 92 (0, 0))] ++ G)) => ((hv.cell (g := gA) (cs := dcells all ++ Y) (t := 92) (fr := (0, 0)) (by simp [RdL]) (k * 87 + 6)).trans (rd_get ok hp 6 (by omega))).trans (pn_at p).2.2.2.2.2.2
    have hdc := fun (v : World) (G : List (Nat × Obj)) (hv : St W v I (RdL gr (n : Int) (some ⟨gA, 0, none⟩) all.length c last [(gA, Obj.cells (dcells all ++ Y) 92 (0, 0))] ++ G)) => hv.cell (g := gr) (cs := rdesk (n : Int) (some ⟨gA, 0, none⟩) all.length c last) (t := 66) (fr := (0, 0)) (by simp [RdL]) 1
    rw [hp] at ht
    dsimp only [Option.getD_some] at ht
    have hpok := ok p (List.mem_of_getElem? hp)
    have k0 : ¬ (k : Int) < 0 := by omega
    have k1 : (k : Int) < (all.length : Int) := by omega
    by_cases hs : p.stage = 3
    · rw [if_pos hs] at ht
      subst ht
      have hys : ∀ j, j < p.cells.size → (dcells all ++ Y)[k * 87 + j]? = p.cells[j]? := fun j hj => rd_get ok hp j (by rw [p.size hpok] at hj; exact hj)
      have infp := rpn_info p hpok
      have onep := p.one
      have zp := zp_whole Tryd.zeroCells92 (by decide) p hpok
      have p5 := (pn_at p).2.2.2.2.2.1
      have prep := fun j => pn_rep p j
      have zr := zr_whole Tryd.zeroCells44 (by decide) p.rep hpok.r
      have infr := rp_info p.rep hpok.r
      have oner := p.rep.one
      have cut1 := (dlist_cut ok k (by omega)).1
      have cut2 := (dlist_cut ok (k + 1) (by omega)).2
      have src1 : ∀ (v : World) (LL : List (Nat × Obj)), St W v I LL → (gA, Obj.cells (dcells all ++ Y) 92 (0, 0)) ∈ LL → Src v 87 (some ⟨gA, 0, none⟩) k (dlist (all.take k)) := fun v LL hv hm => by
        rw [← cut1]
        exact Src.takeS (RAll.src ok hA hv (fun q hq => by simp only [List.mem_singleton] at hq; subst hq; exact hm)) k (by omega)
      have src2 : ∀ (v : World) (LL : List (Nat × Obj)), St W v I LL → (gA, Obj.cells (dcells all ++ Y) 92 (0, 0)) ∈ LL → Src v 87 (subS (some ⟨gA, 0, none⟩) c (k + 1) 87) (all.length - (k + 1)) (dlist (all.drop (k + 1))) := fun v LL hv hm => by
        rw [← cut2]
        exact Src.dropS (RAll.src ok hA hv (fun q hq => by simp only [List.mem_singleton] at hq; subst hq; exact hm)) c (k + 1) (by omega) hl1
      have sl1 := fun w => run_slice_toS (s := 87) Tryd.underlying64 size_pend (some ⟨gA, 0, none⟩) all.length c k (by omega) w
      have sl2 : ∀ w, (Instr.slice 64 (.slice (some ⟨gA, 0, none⟩) all.length c) (some (.int .i64 ((k : Int) + 1))) none none).run Tryd.prog w = .ok (.slice (subS (some ⟨gA, 0, none⟩) c (k + 1) 87) (all.length - (k + 1)) (c - (k + 1))) w := fun w => run_slice_fromS (s := 87) Tryd.underlying64 size_pend (some ⟨gA, 0, none⟩) all.length c (k + 1) (by omega) hl1 w
      have sl3 : IntKind.i64.wrap ((k : Int) + 1) = (k : Int) + 1 := IntWalk.i64_in _ (by omega)
      have hfin : ∀ (A5 : Option Addr) (c5 : Nat) (L5 : List (Nat × Obj)), Row 92 87 (.slice A5 (all.length - 1) c5) (all.length - 1) (dlist (all.take k ++ all.drop (k + 1))) L5 → Off0 (.slice A5 (all.length - 1) c5) → RAll A5 c5 (all.take k ++ all.drop (k + 1)) L5 := fun A5 c5 L5 h1 h2 => RAll.of_row (by simp; omega) h1 h2
      have hlen : (all.take k ++ all.drop (k + 1)).length = all.length - 1 := by simp; omega
      have hcat : dlist (all.take k) ++ dlist (all.drop (k + 1)) = dlist (all.take k ++ all.drop (k + 1)) := (dlist_app _ _).symm
      rw [hs] at hpc
      have KF := Lib.hid kF; have HPC := Lib.hid hpc; have HDC := Lib.hid hdc; have HYS := Lib.hid hys; have INP := Lib.hid infp; have ONP := Lib.hid onep; have FZP := Lib.hid zp.1; have MZP := Lib.hid zp.2; have P5 := Lib.hid p5; have PREP := Lib.hid prep; have FZR := Lib.hid zr.1; have MZR := Lib.hid zr.2; have INR := Lib.hid infr; have ONR := Lib.hid oner; have SRC1 := Lib.hid src1; have SRC2 := Lib.hid src2; have HFIN := Lib.hid hfin; have HLEN := Lib.hid hlen; have HCAT := Lib.hid hcat
      clear kF hpc hdc hys infp onep zp p5 prep zr infr oner cut1 cut2 src1 src2 hfin hlen hcat hf hp hs hpok hA hl2 hl3 FZ MZ IZ OZ
      try dsimp only
      generalize p.cells = C at *
      generalize hRR : p.rep.cells = R at *
      have HRR := Lib.hid hRR
      clear hRR
      generalize p.serial = se at *
      go_enter Tryd.func27, Tryd.ntmps27
      go_wp2_with fail
      refine (KF.out _ _ H0.out).mono ?_
      rintro e w1 ⟨rfl, h1⟩
      have c6 := HPC.out _ _ h1
      have c1 := HDC.out _ _ h1
      simp [rdesk] at c1
      have h2 := (h1.alloc (.cells Tryd.zeroCells92 92))
      obtain ⟨b8, hb8⟩ : ∃ x, w1.heap.size = x := ⟨_, rfl⟩
      rw [hb8] at h2
      have H1 := Lib.hid h1; have H2 := Lib.hid h2
      clear h1 h2 H0 KF HPC
      go_wp2_with (first | (with_reducible refine wpList_load_st rfl 92 (.tmp 31) rfl (g := gA) (off := k * 87) rfl H1.out (cs := dcells all ++ Y) (t := 92) (fr := (0, 0)) (by simp [RdL]) C HYS.out _ Tryd.underlying92 rfl INP.out ?_) | (with_reducible refine wpList_store_st rfl 92 (.tmp 8) (.tmp 32) rfl (off := 0) C rfl rfl H2.out FZP.out INP.out ONP.out ?_; intro w2 h2; rw [MZP.out] at h2; have H3 := Lib.hid h2; clear h2))
      have h4 : St W _ I ((gr, Obj.cells (rdesk (n : Int) (some ⟨gA, 0, none⟩) all.length c last) 66 (0, 0)) :: (gA, Obj.cells (dcells all ++ Y) 92 (0, 0)) :: (b8, Obj.cells C 92 (0, 0)) :: (b5, Obj.cells Tryd.zeroCells44 44 (0, 0)) :: F) := H3.out.perm (perm3b _ _ _ _)
      clear H1 H2 H3 c1 c6 HDC
      have sx : ∀ (v : World) (G : List (Nat × Obj)), St W v I G → (gr, Obj.cells (rdesk (n : Int) (some ⟨gA, 0, none⟩) all.length c last) 66 (0, 0)) ∈ G → (v.cell? ⟨gr, 1, none⟩ = some (.slice (some ⟨gA, 0, none⟩) all.length c)) := fun v G hv m => hv.cell (g := gr) (cs := rdesk (n : Int) (some ⟨gA, 0, none⟩) all.length c last) (t := 66) (fr := (0, 0)) m 1
      have SX := Lib.hid sx
      clear sx
      go_wp2_with fail
      refine wp_region_sink (S := fun v => (v.cell? ⟨gr, 1, none⟩ = some (.slice (some ⟨gA, 0, none⟩) all.length c))) 19 (by kernel_rfl) (by kernel_rfl) rfl (SX.out _ _ h4.drew1 (by simp)) (fun hHeld => ?_)
      dsimp only [List.take]
      refine wpAnyH_take (i := 0) (oi := ?_) (v := ?_) ?_ ?_ ?_ ?_ ?_ ?_ ?_ ?_
      rotate_left 2
      · (simp only [List.getElem?_toArray, List.getElem?_cons_succ, List.getElem?_cons_zero]; exact rfl)
      · kernel_rfl
      · kernel_rfl
      · kernel_rfl
      · exact fun _ _ _ h => h
      · first | (refine Or.inl ⟨by rfl, ?_⟩; intro w hSw; (try dsimp only at hSw); go_simp; try with_reducible rfl) | (refine Or.inr ⟨by rfl, ?_⟩; rfl)
      · assumption
      try simp only [Act.put, List.setIfInBounds_toArray, List.set_cons_zero, List.set_cons_succ]
      refine wpAnyH_take (i := 2) (oi := ?_) (v := ?_) ?_ ?_ ?_ ?_ ?_ ?_ ?_ ?_
      rotate_left 2
      · (simp only [List.getElem?_toArray, List.getElem?_cons_succ, List.getElem?_cons_zero]; exact rfl)
      · kernel_rfl
      · kernel_rfl
      · kernel_rfl
      · exact fun _ _ _ h => h
      · first | (refine Or.inl ⟨by rfl, ?_⟩; intro w hSw; (try dsimp only at hSw); go_simp; try with_reducible rfl) | (refine Or.inr ⟨by rfl, ?_⟩; rfl)
      · assumption
      try simp only [Act.put, List.setIfInBounds_toArray, List.set_cons_zero, List.set_cons_succ]
      refine wpAnyH_take (i := 3) (oi := ?_) (v := ?_) ?_ ?_ ?_ ?_ ?_ ?_ ?_ ?_
      rotate_left 2
      · (simp only [List.getElem?_toArray, List.getElem?_cons_succ, List.getElem?_cons_zero]; exact rfl)
      · kernel_rfl
      · kernel_rfl
      · kernel_rfl
      · exact fun _ _ _ h => h
      · first | (refine Or.inl ⟨by rfl, ?_⟩; intro w hSw; (try dsimp only at hSw); go_simp; try with_reducible rfl) | (refine Or.inr ⟨by rfl, ?_⟩; rfl)
      · assumption
      try simp only [Act.put, List.setIfInBounds_toArray, List.set_cons_zero, List.set_cons_succ]
      refine wpAnyH_take (i := 4) (oi := ?_) (v := ?_) ?_ ?_ ?_ ?_ ?_ ?_ ?_ ?_
      rotate_left 2
      · (simp only [List.getElem?_toArray, List.getElem?_cons_succ, List.getElem?_cons_zero]; exact rfl)
      · kernel_rfl
      · kernel_rfl
      · kernel_rfl
      · exact fun _ _ _ h => h
      · first | (refine Or.inl ⟨by rfl, ?_⟩; intro w hSw; (try dsimp only at hSw); go_simp; try with_reducible rfl) | (refine Or.inr ⟨by rfl, ?_⟩; rfl)
      · assumption
      try simp only [Act.put, List.setIfInBounds_toArray, List.set_cons_zero, List.set_cons_succ]
      refine wpAnyH_take (i := 5) (oi := ?_) (v := ?_) ?_ ?_ ?_ ?_ ?_ ?_ ?_ ?_
      rotate_left 2
      · (simp only [List.getElem?_toArray, List.getElem?_cons_succ, List.getElem?_cons_zero]; exact rfl)
      · kernel_rfl
      · kernel_rfl
      · kernel_rfl
      · exact fun _ _ _ h => h
      · first | ((refine Or.inl ⟨by rfl, ?_⟩; intro w hSw; have hS1 := hSw; clear hSw; go_simp; try with_reducible rfl)) | (refine Or.inr ⟨by rfl, ?_⟩; rfl)
      · assumption
      try simp only [Act.put, List.setIfInBounds_toArray, List.set_cons_zero, List.set_cons_succ]
      refine wpAnyH_take (i := 6) (oi := ?_) (v := ?_) ?_ ?_ ?_ ?_ ?_ ?_ ?_ ?_
      rotate_left 2
      · (simp only [List.getElem?_toArray, List.getElem?_cons_succ, List.getElem?_cons_zero]; exact rfl)
      · kernel_rfl
      · kernel_rfl
      · kernel_rfl
      · exact fun _ _ _ h => h
      · first | (refine Or.inl ⟨by rfl, ?_⟩; intro w hSw; (try dsimp only at hSw); go_simp; try with_reducible rfl) | (refine Or.inr ⟨by rfl, ?_⟩; rfl)
      · assumption
      try simp only [Act.put, List.setIfInBounds_toArray, List.set_cons_zero, List.set_cons_succ]
      refine wpAnyH_take (i := 7) (oi := ?_) (v := ?_) ?_ ?_ ?_ ?_ ?_ ?_ ?_ ?_
      rotate_left 2
      · (simp only [List.getElem?_toArray, List.getElem?_cons_succ, List.getElem?_cons_zero]; exact rfl)
      · kernel_rfl
      · kernel_rfl
      · kernel_rfl
      · exact fun _ _ _ h => h
      · first | (refine Or.inl ⟨by rfl, ?_⟩; intro w hSw; (try dsimp only at hSw); go_simp; try with_reducible rfl) | (refine Or.inr ⟨by rfl, ?_⟩; rfl)
      · assumption
      try simp only [Act.put, List.setIfInBounds_toArray, List.set_cons_zero, List.set_cons_succ]
      refine wpAnyH_take (i := 9) (oi := ?_) (v := ?_) ?_ ?_ ?_ ?_ ?_ ?_ ?_ ?_
      rotate_left 2
      · (simp only [List.getElem?_toArray, List.getElem?_cons_succ, List.getElem?_cons_zero]; exact rfl)
      · kernel_rfl
      · kernel_rfl
      · kernel_rfl
      · exact fun _ _ _ h => h
      · first | (refine Or.inl ⟨by rfl, ?_⟩; intro w hSw; (try dsimp only at hSw); go_simp; try with_reducible rfl) | (refine Or.inr ⟨by rfl, ?_⟩; rfl)
      · assumption
      try simp only [Act.put, List.setIfInBounds_toArray, List.set_cons_zero, List.set_cons_succ]
      refine wpAnyH_take (i := 10) (oi := ?_) (v := ?_) ?_ ?_ ?_ ?_ ?_ ?_ ?_ ?_
      rotate_left 2
      · (simp only [List.getElem?_toArray, List.getElem?_cons_succ, List.getElem?_cons_zero]; exact rfl)
      · kernel_rfl
      · kernel_rfl
      · kernel_rfl
      · exact fun _ _ _ h => h
      · first | (refine Or.inl ⟨by rfl, ?_⟩; intro w hSw; (try dsimp only at hSw); go_simp; try with_reducible rfl) | (refine Or.inr ⟨by rfl, ?_⟩; rfl)
      · assumption
      try simp only [Act.put, List.setIfInBounds_toArray, List.set_cons_zero, List.set_cons_succ]
      refine wpAnyH_take (i := 11) (oi := ?_) (v := ?_) ?_ ?_ ?_ ?_ ?_ ?_ ?_ ?_
      rotate_left 2
      · (simp only [List.getElem?_toArray, List.getElem?_cons_succ, List.getElem?_cons_zero]; exact rfl)
      · kernel_rfl
      · kernel_rfl
      · kernel_rfl
      · exact fun _ _ _ h => h
      · first | (refine Or.inl ⟨by rfl, ?_⟩; intro w hSw; (try dsimp only at hSw); go_simp; try with_reducible rfl) | (refine Or.inr ⟨by rfl, ?_⟩; rfl)
      · assumption
      try simp only [Act.put, List.setIfInBounds_toArray, List.set_cons_zero, List.set_cons_succ]
      refine wpAnyH_take (i := 12) (oi := ?_) (v := ?_) ?_ ?_ ?_ ?_ ?_ ?_ ?_ ?_
      rotate_left 2
      · (simp only [List.getElem?_toArray, List.getElem?_cons_succ, List.getElem?_cons_zero]; exact rfl)
      · kernel_rfl
      · kernel_rfl
      · kernel_rfl
      · exact fun _ _ _ h => h
      · first | ((refine Or.inl ⟨by rfl, ?_⟩; intro w hSw; have hS1 := hSw; clear hSw; go_simp; try with_reducible rfl)) | (refine Or.inr ⟨by rfl, ?_⟩; rfl)
      · assumption
      try simp only [Act.put, List.setIfInBounds_toArray, List.set_cons_zero, List.set_cons_succ]
      refine wpAnyH_take (i := 13) (oi := ?_) (v := ?_) ?_ ?_ ?_ ?_ ?_ ?_ ?_ ?_
      rotate_left 2
      · (simp only [List.getElem?_toArray, List.getElem?_cons_succ, List.getElem?_cons_zero]; exact rfl)
      · kernel_rfl
      · kernel_rfl
      · kernel_rfl
      · exact fun _ _ _ h => h
      · first | (refine Or.inl ⟨by rfl, ?_⟩; intro w hSw; (try dsimp only at hSw); go_simp; try with_reducible rfl) | (refine Or.inr ⟨by rfl, ?_⟩; rfl)
      · assumption
      try simp only [Act.put, List.setIfInBounds_toArray, List.set_cons_zero, List.set_cons_succ]
      refine wpAnyH_take (i := 14) (oi := ?_) (v := ?_) ?_ ?_ ?_ ?_ ?_ ?_ ?_ ?_
      rotate_left 2
      · (simp only [List.getElem?_toArray, List.getElem?_cons_succ, List.getElem?_cons_zero]; exact rfl)
      · kernel_rfl
      · kernel_rfl
      · kernel_rfl
      · exact fun _ _ _ h => h
      · first | (refine Or.inl ⟨by rfl, ?_⟩; intro w hSw; (try dsimp only at hSw); go_simp; try with_reducible rfl) | (refine Or.inr ⟨by rfl, ?_⟩; rfl)
      · assumption
      try simp only [Act.put, List.setIfInBounds_toArray, List.set_cons_zero, List.set_cons_succ]
      refine wpAnyH_take (i := 15) (oi := ?_) (v := ?_) ?_ ?_ ?_ ?_ ?_ ?_ ?_ ?_
      rotate_left 2
      · (simp only [List.getElem?_toArray, List.getElem?_cons_succ, List.getElem?_cons_zero]; exact rfl)
      · kernel_rfl
      · kernel_rfl
      · kernel_rfl
      · exact fun _ _ _ h => h
      · first | (refine Or.inl ⟨by rfl, ?_⟩; intro w hSw; (try dsimp only at hSw); go_simp; try with_reducible rfl) | (refine Or.inr ⟨by rfl, ?_⟩; rfl)
      · assumption
      try simp only [Act.put, List.setIfInBounds_toArray, List.set_cons_zero, List.set_cons_succ]
      refine wpAnyH_ready (rs := [1]) (by kernel_rfl) (by simp) ?_
      refine AllReadyH.cons (o := ?_) ?_ (fun K hK => ?_) ?_
      rotate_left 1
      · (simp only [List.getElem?_toArray, List.getElem?_cons_succ, List.getElem?_cons_zero]; exact rfl)
      · go_simp
        refine hK.out _ _ ?_ (fun hHeld => ?_)
        · (try dsimp only) <;> (first | exact SX.out _ _ h6 (by simp) | exact SX.out _ _ h5 (by simp) | exact SX.out _ _ (h4.alloc _).drew1 (by simp))
        clear hK K
        try simp only [Act.put, List.setIfInBounds_toArray, List.set_cons_zero, List.set_cons_succ]
        refine wpAnyH_ready (rs := [8]) (by kernel_rfl) (by simp) ?_
        refine AllReadyH.cons (o := ?_) ?_ (fun K hK => ?_) ?_
        rotate_left 1
        · (simp only [List.getElem?_toArray, List.getElem?_cons_succ, List.getElem?_cons_zero]; exact rfl)
        · ((first | (refine step_append_row0 (F := (gr, Obj.cells (rdesk (n : Int) (some ⟨gA, 0, none⟩) all.length c last) 66 (0, 0)) :: (gA, Obj.cells (dcells all ++ Y) 92 (0, 0)) :: (b8, .cells C 92 (0, 0)) :: (b5, Obj.cells Tryd.zeroCells44 44 (0, 0)) :: F) (L := [(w2.heap.size, .cells #[] 92 (0, 0))]) rfl (.tmp 34) (.tmp 40) 64 rfl 92 (.agg zP.cells) 87 256 Tryd.underlying64 rinfo rzero (by omega) rfl (Row.empty 92 87 _) ((h4.alloc (.cells #[] 92)).drew1) rfl (SRC1.out _ _ ((h4.alloc (.cells #[] 92)).drew1) (by simp)) (dlist_one _) k (Nat.zero_add _) (dlist (all.take k)) rfl (by unfold maxLen; omega) (by omega) Off0.head ?_; intro A5 c5 w5 L5 hr5 h5 ho5; dsimp only) | (refine step_append_row0 (F := (gr, Obj.cells (rdesk (n : Int) (some ⟨gA, 0, none⟩) all.length c last) 66 (0, 0)) :: (gA, Obj.cells (dcells all ++ Y) 92 (0, 0)) :: (b8, .cells C 92 (0, 0)) :: (b5, Obj.cells Tryd.zeroCells44 44 (0, 0)) :: F) rfl (.tmp 41) (.tmp 48) 64 rfl 92 (.agg zP.cells) 87 256 Tryd.underlying64 rinfo rzero (by omega) rfl hr5 h5 rfl (SRC2.out _ _ h5 (by simp)) (dlist_one _) (all.length - 1) (by omega) (dlist (all.take k ++ all.drop (k + 1))) HCAT.out (by unfold maxLen; omega) (by omega) ho5 ?_; intro A6 c6 w6 L6 hr6 h6 ho6; dsimp only)))
          refine hK.out _ _ ?_ (fun hHeld => ?_)
          · (try dsimp only) <;> (first | exact SX.out _ _ h6 (by simp) | exact SX.out _ _ h5 (by simp) | exact SX.out _ _ (h4.alloc _).drew1 (by simp))
          clear hK K
          try simp only [Act.put, List.setIfInBounds_toArray, List.set_cons_zero, List.set_cons_succ]
          refine wpAnyH_ready (rs := [16]) (by kernel_rfl) (by simp) ?_
          refine AllReadyH.cons (o := ?_) ?_ (fun K hK => ?_) ?_
          rotate_left 1
          · (simp only [List.getElem?_toArray, List.getElem?_cons_succ, List.getElem?_cons_zero]; exact rfl)
          · ((first | (refine step_append_row0 (F := (gr, Obj.cells (rdesk (n : Int) (some ⟨gA, 0, none⟩) all.length c last) 66 (0, 0)) :: (gA, Obj.cells (dcells all ++ Y) 92 (0, 0)) :: (b8, .cells C 92 (0, 0)) :: (b5, Obj.cells Tryd.zeroCells44 44 (0, 0)) :: F) (L := [(w2.heap.size, .cells #[] 92 (0, 0))]) rfl (.tmp 34) (.tmp 40) 64 rfl 92 (.agg zP.cells) 87 256 Tryd.underlying64 rinfo rzero (by omega) rfl (Row.empty 92 87 _) ((h4.alloc (.cells #[] 92)).drew1) rfl (SRC1.out _ _ ((h4.alloc (.cells #[] 92)).drew1) (by simp)) (dlist_one _) k (Nat.zero_add _) (dlist (all.take k)) rfl (by unfold maxLen; omega) (by omega) Off0.head ?_; intro A5 c5 w5 L5 hr5 h5 ho5; dsimp only) | (refine step_append_row0 (F := (gr, Obj.cells (rdesk (n : Int) (some ⟨gA, 0, none⟩) all.length c last) 66 (0, 0)) :: (gA, Obj.cells (dcells all ++ Y) 92 (0, 0)) :: (b8, .cells C 92 (0, 0)) :: (b5, Obj.cells Tryd.zeroCells44 44 (0, 0)) :: F) rfl (.tmp 41) (.tmp 48) 64 rfl 92 (.agg zP.cells) 87 256 Tryd.underlying64 rinfo rzero (by omega) rfl hr5 h5 rfl (SRC2.out _ _ h5 (by simp)) (dlist_one _) (all.length - 1) (by omega) (dlist (all.take k ++ all.drop (k + 1))) HCAT.out (by unfold maxLen; omega) (by omega) ho5 ?_; intro A6 c6 w6 L6 hr6 h6 ho6; dsimp only)))
            refine hK.out _ _ ?_ (fun hHeld => ?_)
            · (try dsimp only) <;> (first | exact SX.out _ _ h6 (by simp) | exact SX.out _ _ h5 (by simp) | exact SX.out _ _ (h4.alloc _).drew1 (by simp))
            clear hK K
            try simp only [Act.put, List.setIfInBounds_toArray, List.set_cons_zero, List.set_cons_succ]
            refine wpAnyH_take (i := 17) (oi := ?_) (v := ?_) ?_ ?_ ?_ ?_ ?_ ?_ ?_ ?_
            rotate_left 2
            · (simp only [List.getElem?_toArray, List.getElem?_cons_succ, List.getElem?_cons_zero]; exact rfl)
            · kernel_rfl
            · kernel_rfl
            · kernel_rfl
            · exact fun _ _ _ h => h
            · first | (refine Or.inl ⟨by rfl, ?_⟩; intro w hSw; (try dsimp only at hSw); go_simp; try with_reducible rfl) | (refine Or.inr ⟨by rfl, ?_⟩; rfl)
            · assumption
            try simp only [Act.put, List.setIfInBounds_toArray, List.set_cons_zero, List.set_cons_succ]
            refine wpAnyH_take (i := 18) (oi := ?_) (v := ?_) ?_ ?_ ?_ ?_ ?_ ?_ ?_ ?_
            rotate_left 2
            · (simp only [List.getElem?_toArray, List.getElem?_cons_succ, List.getElem?_cons_zero]; exact rfl)
            · kernel_rfl
            · kernel_rfl
            · kernel_rfl
            · exact fun _ _ _ h => h
            · first | (refine Or.inl ⟨by rfl, ?_⟩; intro w hSw; (try dsimp only at hSw); go_simp; try with_reducible rfl) | (refine Or.inr ⟨by rfl, ?_⟩; rfl)
            · assumption
            try simp only [Act.put, List.setIfInBounds_toArray, List.set_cons_zero, List.set_cons_succ]
            refine wpAnyH_done (by kernel_rfl) ?_ _
            obtain ⟨e6, f6⟩ : w6.cell? ⟨gr, 1, none⟩ = some (.slice (some ⟨gA, 0, none⟩) all.length c) ∧ w6.frozen? ⟨gr, 1, none⟩ = false := ⟨SX.out _ _ h6 (by simp), h6.frozen (g := gr) (t := 66) (cs := rdesk (n : Int) (some ⟨gA, 0, none⟩) all.length c last) (by simp) 1⟩
            have h7 : St W _ I (L6 ++ ((gr, Obj.cells (rdesk (n : Int) A6 (all.length - 1) c6 last) 66 (0, 0)) :: (gA, Obj.cells (dcells all ++ Y) 92 (0, 0)) :: (b8, .cells C 92 (0, 0)) :: (b5, Obj.cells Tryd.zeroCells44 44 (0, 0)) :: F)) := St.set (A := L6) h6 1 (.slice A6 (all.length - 1) c6)
            have H7 := Lib.hid h7; have HA6 := Lib.hid (HFIN.out _ _ _ hr6 ho6)
            clear h4 h5 h6 h7 hr5 ho5 hr6 ho6 SX
            show wpList _ _ _ [_] _ _
            go_wp2_with fail
            have hx : St W _ I ((b5, Obj.cells Tryd.zeroCells44 44 (0, 0)) :: ((gr, Obj.cells (rdesk (n : Int) A6 (all.length - 1) c6 last) 66 (0, 0)) :: (b8, .cells C 92 (0, 0)) :: (gA, Obj.cells (dcells all ++ Y) 92 (0, 0)) :: (L6 ++ F))) := (H7.out.perm (permT _ _ _ _ _ _)).drew1
            have sx2 : ∀ (v : World) (G : List (Nat × Obj)), St W v I G → (b8, Obj.cells C 92 (0, 0)) ∈ G → (v.cell? ⟨b8, 5, none⟩ = some (.int .i64 se) ∧ v.rangeAt b8 7 R.toList) := fun v G hv m => ⟨(hv.cell (g := b8) (cs := C) (t := 92) (fr := (0, 0)) m 5).trans P5.out, hv.rangeAt (g := b8) (cs := C) (t := 92) (fr := (0, 0)) m (fun j hj => by rw [PREP.out, Array.getElem?_toList])⟩
            have SX2 := Lib.hid sx2
            have HUL := Lib.hid Tryd.underlying44
            have HMA : Hid ((Tryd.prog.info? 44).map (·.size) = some R.toList.length) := Lib.hid (by rw [INR.out, Array.length_toList])
            clear sx2 H7 e6 f6
            refine wp_region_held_drew (S := fun v => (v.cell? ⟨b8, 5, none⟩ = some (.int .i64 se) ∧ v.rangeAt b8 7 R.toList)) (by kernel_rfl) (SX2.out _ _ hx (by simp)) (fun hHeld => ?_)
            refine wpAnyH_take (i := 0) (oi := ?_) (v := ?_) ?_ ?_ ?_ ?_ ?_ ?_ ?_ ?_
            rotate_left 2
            · (simp only [List.getElem?_toArray, List.getElem?_cons_succ, List.getElem?_cons_zero]; exact rfl)
            · kernel_rfl
            · kernel_rfl
            · kernel_rfl
            · exact fun _ _ _ h => h
            · first | (refine Or.inl ⟨by rfl, ?_⟩; intro w hSw; (try dsimp only at hSw); go_simp; try with_reducible rfl) | (refine Or.inr ⟨by rfl, ?_⟩; rfl)
            · assumption
            try simp only [Act.put, List.setIfInBounds_toArray, List.set_cons_zero, List.set_cons_succ]
            refine wpAnyH_take (i := 1) (oi := ?_) (v := ?_) ?_ ?_ ?_ ?_ ?_ ?_ ?_ ?_
            rotate_left 2
            · (simp only [List.getElem?_toArray, List.getElem?_cons_succ, List.getElem?_cons_zero]; exact rfl)
            · kernel_rfl
            · kernel_rfl
            · kernel_rfl
            · exact fun _ _ _ h => h
            · first | (first | ((refine yieldsIf_load_mid ?_ 44 (.tmp 54) ?_ b8 7 ?_ R.toList _ ?_ HUL.out ?_ HMA.out) <;> first | rfl | exact fun w h => h.2) | (refine Or.inl ⟨by rfl, ?_⟩; intro w hSw; obtain ⟨hS1, hS2⟩ := hSw; go_simp; try with_reducible rfl)) | (refine Or.inr ⟨by rfl, ?_⟩; rfl)
            · assumption
            try simp only [Act.put, List.setIfInBounds_toArray, List.set_cons_zero, List.set_cons_succ]
            refine wpAnyH_take (i := 2) (oi := ?_) (v := ?_) ?_ ?_ ?_ ?_ ?_ ?_ ?_ ?_
            rotate_left 2
            · (simp only [List.getElem?_toArray, List.getElem?_cons_succ, List.getElem?_cons_zero]; exact rfl)
            · kernel_rfl
            · kernel_rfl
            · kernel_rfl
            · exact fun _ _ _ h => h
            · first | (refine Or.inl ⟨by rfl, ?_⟩; intro w hSw; (try dsimp only at hSw); go_simp; try with_reducible rfl) | (refine Or.inr ⟨by rfl, ?_⟩; rfl)
            · assumption
            try simp only [Act.put, List.setIfInBounds_toArray, List.set_cons_zero, List.set_cons_succ]
            refine wpAnyH_take (i := 3) (oi := ?_) (v := ?_) ?_ ?_ ?_ ?_ ?_ ?_ ?_ ?_
            rotate_left 2
            · (simp only [List.getElem?_toArray, List.getElem?_cons_succ, List.getElem?_cons_zero]; exact rfl)
            · kernel_rfl
            · kernel_rfl
            · kernel_rfl
            · exact fun _ _ _ h => h
            · first | (first | ((refine yieldsIf_load_mid ?_ 44 (.tmp 54) ?_ b8 7 ?_ R.toList _ ?_ HUL.out ?_ HMA.out) <;> first | rfl | exact fun w h => h.2) | (refine Or.inl ⟨by rfl, ?_⟩; intro w hSw; obtain ⟨hS1, hS2⟩ := hSw; go_simp; try with_reducible rfl)) | (refine Or.inr ⟨by rfl, ?_⟩; rfl)
            · assumption
            try simp only [Act.put, List.setIfInBounds_toArray, List.set_cons_zero, List.set_cons_succ]
            refine wpAnyH_take (i := 4) (oi := ?_) (v := ?_) ?_ ?_ ?_ ?_ ?_ ?_ ?_ ?_
            rotate_left 2
            · (simp only [List.getElem?_toArray, List.getElem?_cons_succ, List.getElem?_cons_zero]; exact rfl)
            · kernel_rfl
            · kernel_rfl
            · kernel_rfl
            · exact fun _ _ _ h => h
            · first | (refine Or.inl ⟨by rfl, ?_⟩; intro w hSw; (try dsimp only at hSw); go_simp; try with_reducible rfl) | (refine Or.inr ⟨by rfl, ?_⟩; rfl)
            · assumption
            try simp only [Act.put, List.setIfInBounds_toArray, List.set_cons_zero, List.set_cons_succ]
            refine wpAnyH_ready (rs := [5]) (by kernel_rfl) (by simp) ?_
            refine AllReadyH.cons (o := ?_) ?_ (fun K hK => ?_) ?_
            rotate_left 1
            · (simp only [List.getElem?_toArray, List.getElem?_cons_succ, List.getElem?_cons_zero]; exact rfl)
            · ((refine step_store_st rfl 44 (.tmp 5) (.tmp 55) rfl (off := 0) R rfl rfl hx FZR.out INR.out ONR.out ?_; intro w9 h9; rw [MZR.out] at h9; dsimp only))
              refine hK.out _ _ ?_ (fun hHeld => ?_)
              · (try dsimp only) <;> (first | exact SX2.out _ _ hx (by simp) | exact SX2.out _ _ h9 (by simp))
              clear hK K
              try simp only [Act.put, List.setIfInBounds_toArray, List.set_cons_zero, List.set_cons_succ]
              refine wpAnyH_take (i := 6) (oi := ?_) (v := ?_) ?_ ?_ ?_ ?_ ?_ ?_ ?_ ?_
              rotate_left 2
              · (simp only [List.getElem?_toArray, List.getElem?_cons_succ, List.getElem?_cons_zero]; exact rfl)
              · kernel_rfl
              · kernel_rfl
              · kernel_rfl
              · exact fun _ _ _ h => h
              · first | (refine Or.inl ⟨by rfl, ?_⟩; intro w hSw; (try dsimp only at hSw); go_simp; try with_reducible rfl) | (refine Or.inr ⟨by rfl, ?_⟩; rfl)
              · assumption
              try simp only [Act.put, List.setIfInBounds_toArray, List.set_cons_zero, List.set_cons_succ]
              refine wpAnyH_done (by kernel_rfl) ?_ _
              have H9 := Lib.hid h9
              clear h9 hx SX2
              go_wp2_with fail
              refine bodyPost_ret (results_tmp_row_tmp rfl _ _ b5 44 R (0, 0) _ _ _ rfl rfl rfl (H9.out.own (b5, .cells R 44 (0, 0)) (by simp)) ULR.out rfl INR.out) rfl ⟨A6, c6, L6, (by show Ending.returned (.tuple #[.int .i64 se, .agg R, .bool true]) = .returned (.tuple #[.int .i64 se, .agg p.rep.cells, .bool true]); rw [HRR.out]), HA6.out, ?_⟩
              rw [HLEN.out]
              exact takeEnd H9.out
            exact AllReadyH.nil
          exact AllReadyH.nil
        exact AllReadyH.nil
      exact AllReadyH.nil
    · rw [if_neg hs] at ht
      subst ht
      have hsb : (p.stage != 3) = true := by simpa using hs
      have hsb2 : (p.stage == 3) = false := beq_eq_false_iff_ne.2 hs
      have HPC := Lib.hid hpc; have HDC := Lib.hid hdc; have KF := Lib.hid kF; have HA := Lib.hid hA
      clear kF hpc hdc hf hp hpok hA hl2 hl3 hl1
      generalize p.stage = sg at *
      go_enter Tryd.func27, Tryd.ntmps27
      go_wp2_with fail
      refine (KF.out _ _ H0.out).mono ?_
      rintro e w1 ⟨rfl, h1⟩
      have c6 := HPC.out _ _ h1
      have c1 := HDC.out _ _ h1
      simp [rdesk] at c1
      have H1 := Lib.hid (h1.perm (perm_back _ _ _).symm)
      clear h1 H0 KF HPC HDC
      go_wp2_with (with_reducible refine wpList_store_st rfl 44 (.tmp 5) (.tmp 25) rfl (off := 0) zR.cells rfl rfl H1.out FZ.out IZ.out OZ.out ?_; intro w9 h9; rw [MZ.out] at h9; have H9 := Lib.hid h9; clear h9)
      refine bodyPost_ret (results_tmp_row_tmp rfl _ _ b5 44 zR.cells (0, 0) _ _ _ rfl rfl rfl (H9.out.own (b5, .cells zR.cells 44 (0, 0)) (by simp)) ULR.out rfl IZ.out) rfl ⟨_, c, _, rfl, HA.out, ?_⟩
      exact St.weaken (A := [_]) H9.out
end
end

section
set_option linter.unusedVariables false
set_option linter.unusedSimpArgs false
set_option linter.unnecessarySimpa false
open Go.RowKit Go.Lib Go.Deep

section
variable {W w : World} {I : Nat → Option Obj} {F : List (Nat × Obj)} {gr : Nat} {all : List Pn} {last : Int}
theorem rd_set {ps : List Pn} (ok : AllOk ps) (Y : Array Value) {k : Nat} {p : Pn} (hp : ps[k]? = some p) (j : Nat) (hj : j < 87) (v : Value) (q : Pn) (hq : p.list.set j v = q.list) : (dcells ps ++ Y).setIfInBounds (k * 87 + j) v = dcells (ps.set k q) ++ Y := by
  have h1 := dcells_set ok hp j hj v q hq
  have hs := dcells_size ok
  have hk := (List.getElem?_eq_some_iff.1 hp).1
  have : (k + 1) * 87 ≤ ps.length * 87 := Nat.mul_le_mul_right _ hk
  rw [← h1]
  apply Array.toList_inj.1
  rw [Array.toList_setIfInBounds, Array.toList_append, Array.toList_append, Array.toList_setIfInBounds, List.set_append_left _ _ (by rw [Array.length_toList, hs]; omega)]
theorem setMany_left (X Y : Array Value) (i : Nat) (l : List Value) (h : i + l.length ≤ X.size) : setMany (X ++ Y) i l = setMany X i l ++ Y := by
  have hs : (setMany X i l).size = X.size := setMany_size _ _ _
  apply Array.ext_getElem?
  intro k
  have e1 := setMany_get l (X ++ Y) i k (by rw [Array.size_append]; omega)
  have e2 := setMany_get l X i k h
  rw [e1]
  by_cases hk : k < X.size
  · have e3 : (setMany X i l ++ Y)[k]? = (setMany X i l)[k]? := Array.getElem?_append_left (by omega)
    rw [e3, e2, Array.getElem?_append_left hk]
  · have e3 : (setMany X i l ++ Y)[k]? = Y[k - (setMany X i l).size]? := Array.getElem?_append_right (by omega)
    rw [if_neg (by omega), e3, Array.getElem?_append_right (by omega), hs]
theorem rd_ans {ps : List Pn} (ok : AllOk ps) (Y : Array Value) {k : Nat} {p : Pn} (hp : ps[k]? = some p) (r : Rp) (okr : r.Ok) (x : Int) : setMany ((dcells ps ++ Y).setIfInBounds (k * 87 + 6) (.int .i64 x)) (k * 87 + 7) r.cells.toList = dcells (ps.set k { p with stage := x, rep := r }) ++ Y := by
  have hk := (List.getElem?_eq_some_iff.1 hp).1
  have hpo := ok p (List.mem_of_getElem? hp)
  have e1 : (dcells ps).setIfInBounds (k * 87 + 6) (.int .i64 x) = dcells (ps.set k { p with stage := x }) := dcells_set ok hp 6 (by omega) _ _ rfl
  have hs2 := dcells_size (ok.set k (q := { p with stage := x }) ⟨hpo.c, hpo.r, hpo.n⟩)
  have hs := dcells_size ok
  have hle : (k + 1) * 87 ≤ ps.length * 87 := Nat.mul_le_mul_right _ hk
  have e2 : (dcells ps ++ Y).setIfInBounds (k * 87 + 6) (.int .i64 x) = (dcells ps).setIfInBounds (k * 87 + 6) (.int .i64 x) ++ Y := by
    apply Array.toList_inj.1
    rw [Array.toList_setIfInBounds, Array.toList_append, Array.toList_append, Array.toList_setIfInBounds, List.set_append_left _ _ (by rw [Array.length_toList, hs]; omega)]
  rw [e2, setMany_left _ _ _ _ (by rw [Array.size_setIfInBounds, hs, Array.length_toList, r.size okr]; omega), dcells_ans ok hp r okr x]
theorem RAll.set {gA c : Nat} {Y : Array Value} (ok : AllOk all) (hl1 : all.length ≤ c) (hl2 : c ≤ maxLen) (hl3 : c * 87 ≤ (dcells all ++ Y).size) (k : Nat) (q : Pn) (okq : q.Ok) : RAll (some ⟨gA, 0, none⟩) c (all.set k q) [(gA, .cells (dcells (all.set k q) ++ Y) 92 (0, 0))] :=
  .inr ⟨gA, Y, rfl, rfl, by rw [List.length_set]; exact hl1, hl2, by
    rw [Array.size_append, dcells_size (ok.set k okq), List.length_set]
    rw [Array.size_append, dcells_size ok] at hl3
    exact hl3⟩
theorem nextEnd {b gA g : Nat × Obj} {L1 : List (Nat × Obj)} (h : St W w I (b :: gA :: g :: (L1 ++ F))) : St W w I ([g, gA] ++ F) := by
  have h1 : St W w I ((b :: gA :: [g]) ++ (L1 ++ F)) := h
  have h2 := St.mid h1
  exact St.weaken (A := [b]) (h2.perm ((List.Perm.swap g gA F).cons b))
theorem permN {α : Type} (L1 F : List α) (a b c : α) : (L1 ++ ((a :: [b]) ++ (c :: F))).Perm ([a] ++ (b :: (c :: (L1 ++ F)))) := by
  have e1 : (L1 ++ (a :: b :: c :: F)).Perm ((a :: b :: c :: F) ++ L1) := List.perm_append_comm
  exact e1.trans ((((List.perm_append_comm (l₁ := F) (l₂ := L1)).cons c).cons b).cons a)
def RnextPost (W : World) (I : Nat → Option Obj) (gr n : Nat) (last : Int) (r : List Pn × (Int × Cl × Bool)) (F : List (Nat × Obj)) (e : Ending) (w' : World) : Prop :=
  ∃ A c L, e = .returned (.tuple #[.int .i64 r.2.1, .agg r.2.2.1.cells, .bool r.2.2.2]) ∧ RAll A c r.1 L ∧ St W w' I (RdL gr (n : Int) A r.1.length c last L ++ F)
set_option maxRecDepth 100000 in
set_option maxHeartbeats 8000000 in
theorem rd_next {A : Option Addr} {c n : Nat} {L : List (Nat × Obj)} (ok : AllOk all) (hn : all.length ≤ 8) (hn8 : n ≤ 8) (hA : RAll A c all L) (pick : Int) (hp1 : pick ≤ 9223372036854775807) (h : St W w I (RdL gr (n : Int) A all.length c last L ++ F)) :
    Calls Tryd.prog 25 #[.pointer (some ⟨gr, 0, none⟩), .int .i64 pick] w (RnextPost W I gr n last (nextR n all pick) F) := by
  have h0 := (h.alloc (.cells #[Value.int .i64 0, .int .i64 0, .int .i64 0, .int .i64 0, .string ⟨#[]⟩] 23)).perm (perm_back _ _ _)
  obtain ⟨b, hb⟩ : ∃ b, w.heap.size = b := ⟨_, rfl⟩
  rw [hb] at h0
  have KW := Lib.hid (fun (v : World) (G : List (Nat × Obj)) (hv : St W v I (RdL gr (n : Int) A all.length c last L ++ G)) => rd_waiting ok hn hn8 hA hv)
  have hwl := waitR_le all n
  obtain ⟨T, hT⟩ : ∃ T, nextR n all pick = T := ⟨_, rfl⟩
  rw [hT]
  have ht := hT
  unfold nextR at ht
  have ULC := Lib.hid Tryd.underlying23
  have H0 := Lib.hid h0
  clear h h0 hT
  obtain ⟨ws, hws⟩ : ∃ ws, waitR n all = ws := ⟨_, rfl⟩
  rw [hws] at ht hwl KW
  have hwlt : ∀ k ∈ ws, k < all.length := fun k hk => by
    rw [← hws] at hk
    unfold waitR at hk
    obtain ⟨i, _, hi⟩ := List.mem_filterMap.1 hk
    exact waits1_lt hi
  by_cases hm0 : ws = []
  · subst hm0
    simp only [List.getElem?_nil] at ht
    subst ht
    have HA := Lib.hid hA
    clear hws hA hwlt
    go_enter Tryd.func25, Tryd.ntmps25
    go_wp2_with fail
    refine (KW.out _ _ H0.out).mono ?_
    rintro e w1 hgp
    obtain ⟨B, d, L1, rfl, hr1, h1⟩ := hgp
    have H1 := Lib.hid ((St.weaken (A := L1) h1).perm (perm_back _ _ _).symm)
    have FZ : Hid (0 + zC.cells.size ≤ (#[Value.int .i64 0, .int .i64 0, .int .i64 0, .int .i64 0, .string ⟨#[]⟩]).size) := Lib.hid (call_fit zC zC).1
    have MZ : Hid (setMany #[Value.int .i64 0, .int .i64 0, .int .i64 0, .int .i64 0, .string ⟨#[]⟩] 0 zC.cells.toList = zC.cells) := Lib.hid (call_fit zC zC).2
    have IZ := Lib.hid (call_info zC)
    have OZ := Lib.hid zC.one
    clear h1 H0 KW hr1
    go_wp2_with (with_reducible refine wpList_store_st rfl 23 (.tmp 5) (.tmp 14) rfl (off := 0) zC.cells rfl rfl H1.out FZ.out IZ.out OZ.out ?_; intro w9 h9; rw [MZ.out] at h9; have H9 := Lib.hid h9; clear h9)
    refine bodyPost_ret (results_tmp_row_tmp rfl _ _ b 23 zC.cells (0, 0) _ _ _ rfl rfl rfl (H9.out.own (b, .cells zC.cells 23 (0, 0)) (by simp)) ULC.out rfl IZ.out) rfl ⟨A, c, L, rfl, HA.out, ?_⟩
    exact St.weaken (A := [_]) H9.out
  · have hpos : 0 < ws.length := List.length_pos_iff.2 hm0
    obtain ⟨q, hq⟩ : ∃ q, (max pick 0).toNat % ws.length = q := ⟨_, rfl⟩
    rw [hq] at ht
    have hqm : q < ws.length := by rw [← hq]; exact Nat.mod_lt _ hpos
    have hrem : (max pick 0).tmod (ws.length : Int) = (q : Int) := by
      obtain ⟨x, hx⟩ : ∃ x : Nat, max pick 0 = (x : Int) := ⟨(max pick 0).toNat, by omega⟩
      rw [← hq, hx, Int.toNat_natCast]
      exact Int.ofNat_tmod x ws.length
    obtain ⟨k, hk⟩ : ∃ k, ws[q]? = some k := ⟨_, List.getElem?_eq_getElem hqm⟩
    rw [hk] at ht
    dsimp only at ht
    have hkl := hwlt k (List.mem_of_getElem? hk)
    obtain ⟨p, hp⟩ : ∃ p, all[k]? = some p := ⟨_, List.getElem?_eq_getElem hkl⟩
    rw [hp] at ht
    dsimp only [Option.getD_some] at ht
    subst ht
    obtain ⟨_, _, e, _⟩ | ⟨gA, Y, rfl, rfl, hl1, hl2, hl3⟩ := id hA
    · rw [e] at hp; simp at hp
    have hpok := ok p (List.mem_of_getElem? hp)
    have okq : ({ p with stage := 2 } : Pn).Ok := ⟨hpok.c, hpok.r, hpok.n⟩
    have hRA := RAll.set (gA := gA) (Y := Y) ok hl1 hl2 hl3 k _ okq
    have hset := rd_set ok Y hp 6 (by omega) (.int .i64 2) { p with stage := 2 } rfl
    have hp2 : (all.set k { p with stage := 2 })[k]? = some { p with stage := 2 } := List.getElem?_set_self hkl
    have okset := ok.set k okq
    have hcs := fun j (hj : j < 87) => rd_get okset (X := Y) hp2 j hj
    have hpn := pn_at { p with stage := 2 }
    have h5 := (hcs 5 (by omega)).trans hpn.2.2.2.2.2.1
    have g0 : ∀ j, j < p.call.cells.toList.length → (dcells (all.set k { p with stage := 2 }) ++ Y)[k * 87 + j]? = p.call.cells.toList[j]? := fun j hj => by
      rw [Array.length_toList, Cl.size] at hj
      rw [hcs j (by omega)]
      rcases (by omega : j = 0 ∨ j = 1 ∨ j = 2 ∨ j = 3 ∨ j = 4) with h | h | h | h | h <;> rw [h] <;> rfl
    have fz := call_fit zC p.call
    have iz := call_info p.call
    have oz := p.call.one
    have hsome : ((dcells all ++ Y)[k * 87 + 6]?).isSome = true := by rw [rd_get ok hp 6 (by omega), (pn_at p).2.2.2.2.2.2]; rfl
    have hlen : (all.set k { p with stage := 2 }).length = all.length := List.length_set
    have hints : (ints ws)[q]? = some (.int .i64 (k : Int)) := by unfold ints; rw [List.getElem?_map, hk]; rfl
    have hmI : ¬ ((ws.length : Int) = 0) := by omega
    have hdc := fun (v : World) (LL : List (Nat × Obj)) (hv : St W v I LL) (hm : (gr, Obj.cells (rdesk (n : Int) (some ⟨gA, 0, none⟩) all.length c last) 66 (0, 0)) ∈ LL) => hv.cell (g := gr) (cs := rdesk (n : Int) (some ⟨gA, 0, none⟩) all.length c last) (t := 66) (fr := (0, 0)) hm 1
    have HDC := Lib.hid hdc; have HRA := Lib.hid hRA; have HSET := Lib.hid hset; have HLEN := Lib.hid hlen; have HINTS := Lib.hid hints; have HSOME := Lib.hid hsome
    have HC5 := Lib.hid h5
    dsimp only at HC5
    generalize hC : p.call.cells = C at g0 fz iz oz
    have HC := Lib.hid hC
    have FZ : Hid (0 + C.size ≤ (#[Value.int .i64 0, .int .i64 0, .int .i64 0, .int .i64 0, .string ⟨#[]⟩]).size) := Lib.hid fz.1
    have MZ : Hid (setMany #[Value.int .i64 0, .int .i64 0, .int .i64 0, .int .i64 0, .string ⟨#[]⟩] 0 C.toList = C) := Lib.hid fz.2
    have IZ := Lib.hid iz; have OZ := Lib.hid oz; have G0 := Lib.hid g0
    have HMA : Hid ((Tryd.prog.info? 23).map (·.size) = some C.toList.length) := Lib.hid (by rw [IZ.out, Array.length_toList])
    have hws8 : ws.length ≤ 8 := by omega
    have q1 : (q : Int) < (ws.length : Int) := by omega
    have k1 : (k : Int) < (all.length : Int) := by omega
    clear hdc hRA hset hlen hints hsome h5 g0 fz iz oz hC hcs hpn okset hp2 okq hpok hA hws hk hwlt hq hp hl2 hl3 hm0
    by_cases hneg : pick < 0
    · have hmx : max pick 0 = 0 := by omega
      rw [hmx] at hrem
      have hq0 : q = 0 := by simpa using hrem.symm
      have q10 : (0 : Int) < (ws.length : Int) := by omega
      rw [hq0] at HINTS
      clear hrem hmx hqm q1 hq0 q
      go_enter Tryd.func25, Tryd.ntmps25
      go_wp2_with fail
      refine (KW.out _ _ H0.out).mono ?_
      rintro e w1 hgp
      obtain ⟨B, d, L1, rfl, hr1, h1⟩ := hgp
      obtain ⟨g1, off1, cap1, cur1, hv1, hL1, hcu1⟩ := hr1.cells HINTS.out
      simp only [Value.slice.injEq, true_and] at hv1
      obtain ⟨rfl, rfl⟩ := hv1
      have cw := (h1.cell (g := g1) (cs := cur1) (t := 3) (fr := (0, 0)) (by rw [hL1]; simp) off1).trans (by simpa using hcu1)
      have cd := HDC.out _ _ h1 (by simp [RdL])
      simp [rdesk] at cd
      have cs0 : ∃ u, w1.cell? ⟨gA, k * 87 + 6, none⟩ = some u := by
        have e1 := h1.cell (g := gA) (cs := dcells all ++ Y) (t := 92) (fr := (0, 0)) (by simp [RdL]) (k * 87 + 6)
        rw [e1]
        exact Option.isSome_iff_exists.1 HSOME.out
      obtain ⟨u6, cs6⟩ := cs0
      have fs6 := h1.frozen (g := gA) (cs := dcells all ++ Y) (t := 92) (by simp [RdL]) (k * 87 + 6)
      have h2 : St W w1 I ([(gr, Obj.cells (rdesk (n : Int) (some ⟨gA, 0, none⟩) all.length c last) 66 (0, 0))] ++ ((gA, .cells (dcells all ++ Y) 92 (0, 0)) :: ((b, .cells #[Value.int .i64 0, .int .i64 0, .int .i64 0, .int .i64 0, .string ⟨#[]⟩] 23 (0, 0)) :: (L1 ++ F)))) := h1.perm (permN _ _ _ _ _)
      have h3 := St.set (A := [(gr, Obj.cells (rdesk (n : Int) (some ⟨gA, 0, none⟩) all.length c last) 66 (0, 0))]) h2 (k * 87 + 6) (.int .i64 2)
      rw [HSET.out] at h3
      have H3 := Lib.hid (h3.perm (perm3 _ _ _ _))
      clear h1 h2 h3 hr1 H0 KW hcu1 hL1
      go_wp2_with fail
      have hx := H3.out.drew1
      have sx : ∀ (v : World) (D : Array Value), St W v I ((b, Obj.cells D 23 (0, 0)) :: (gA, .cells (dcells (all.set k { p with stage := 2 }) ++ Y) 92 (0, 0)) :: (gr, Obj.cells (rdesk (n : Int) (some ⟨gA, 0, none⟩) all.length c last) 66 (0, 0)) :: (L1 ++ F)) → (v.cell? ⟨gr, 1, none⟩ = some (.slice (some ⟨gA, 0, none⟩) all.length c) ∧ v.cell? ⟨gA, k * 87 + 5, none⟩ = some (.int .i64 p.serial) ∧ v.rangeAt gA (k * 87) C.toList) := fun v D hv =>
        ⟨hv.cell (g := gr) (cs := rdesk (n : Int) (some ⟨gA, 0, none⟩) all.length c last) (t := 66) (fr := (0, 0)) (by simp) 1, (hv.cell (g := gA) (cs := dcells (all.set k { p with stage := 2 }) ++ Y) (t := 92) (fr := (0, 0)) (by simp) (k * 87 + 5)).trans HC5.out, hv.rangeAt (g := gA) (cs := dcells (all.set k { p with stage := 2 }) ++ Y) (t := 92) (fr := (0, 0)) (by simp) G0.out⟩
      have SX := Lib.hid sx
      clear sx H3 cw cd cs6 fs6
      refine wp_region_held_drew (S := fun v => (v.cell? ⟨gr, 1, none⟩ = some (.slice (some ⟨gA, 0, none⟩) all.length c) ∧ v.cell? ⟨gA, k * 87 + 5, none⟩ = some (.int .i64 p.serial) ∧ v.rangeAt gA (k * 87) C.toList)) (by kernel_rfl) (SX.out _ _ hx) (fun hHeld => ?_)
      refine wpAnyH_take (i := 0) (oi := ?_) (v := ?_) ?_ ?_ ?_ ?_ ?_ ?_ ?_ ?_
      rotate_left 2
      · (simp only [List.getElem?_toArray, List.getElem?_cons_succ, List.getElem?_cons_zero]; exact rfl)
      · kernel_rfl
      · kernel_rfl
      · kernel_rfl
      · exact fun _ _ _ h => h
      · first | (refine Or.inl ⟨by rfl, ?_⟩; intro w hSw; (try dsimp only at hSw); go_simp; try with_reducible rfl) | (refine Or.inr ⟨by rfl, ?_⟩; rfl)
      · assumption
      try simp only [Act.put, List.setIfInBounds_toArray, List.set_cons_zero, List.set_cons_succ]
      refine wpAnyH_take (i := 1) (oi := ?_) (v := ?_) ?_ ?_ ?_ ?_ ?_ ?_ ?_ ?_
      rotate_left 2
      · (simp only [List.getElem?_toArray, List.getElem?_cons_succ, List.getElem?_cons_zero]; exact rfl)
      · kernel_rfl
      · kernel_rfl
      · kernel_rfl
      · exact fun _ _ _ h => h
      · first | (refine Or.inl ⟨by rfl, ?_⟩; intro w hSw; (try dsimp only at hSw); go_simp; try with_reducible rfl) | (refine Or.inr ⟨by rfl, ?_⟩; rfl)
      · assumption
      try simp only [Act.put, List.setIfInBounds_toArray, List.set_cons_zero, List.set_cons_succ]
      refine wpAnyH_take (i := 2) (oi := ?_) (v := ?_) ?_ ?_ ?_ ?_ ?_ ?_ ?_ ?_
      rotate_left 2
      · (simp only [List.getElem?_toArray, List.getElem?_cons_succ, List.getElem?_cons_zero]; exact rfl)
      · kernel_rfl
      · kernel_rfl
      · kernel_rfl
      · exact fun _ _ _ h => h
      · first | (refine Or.inl ⟨by rfl, ?_⟩; intro w hSw; (try dsimp only at hSw); go_simp; try with_reducible rfl) | (refine Or.inr ⟨by rfl, ?_⟩; rfl)
      · assumption
      try simp only [Act.put, List.setIfInBounds_toArray, List.set_cons_zero, List.set_cons_succ]
      refine wpAnyH_take (i := 3) (oi := ?_) (v := ?_) ?_ ?_ ?_ ?_ ?_ ?_ ?_ ?_
      rotate_left 2
      · (simp only [List.getElem?_toArray, List.getElem?_cons_succ, List.getElem?_cons_zero]; exact rfl)
      · kernel_rfl
      · kernel_rfl
      · kernel_rfl
      · exact fun _ _ _ h => h
      · first | (first | ((refine yieldsIf_load_mid ?_ 23 (.tmp 45) ?_ gA (k * 87) ?_ C.toList _ ?_ ULC.out ?_ HMA.out) <;> first | rfl | exact fun w h => h.2.2) | (refine Or.inl ⟨by rfl, ?_⟩; intro w hSw; obtain ⟨hS1, hS2, hS3⟩ := hSw; go_simp; try with_reducible rfl)) | (refine Or.inr ⟨by rfl, ?_⟩; rfl)
      · assumption
      try simp only [Act.put, List.setIfInBounds_toArray, List.set_cons_zero, List.set_cons_succ]
      refine wpAnyH_take (i := 4) (oi := ?_) (v := ?_) ?_ ?_ ?_ ?_ ?_ ?_ ?_ ?_
      rotate_left 2
      · (simp only [List.getElem?_toArray, List.getElem?_cons_succ, List.getElem?_cons_zero]; exact rfl)
      · kernel_rfl
      · kernel_rfl
      · kernel_rfl
      · exact fun _ _ _ h => h
      · first | (refine Or.inl ⟨by rfl, ?_⟩; intro w hSw; (try dsimp only at hSw); go_simp; try with_reducible rfl) | (refine Or.inr ⟨by rfl, ?_⟩; rfl)
      · assumption
      try simp only [Act.put, List.setIfInBounds_toArray, List.set_cons_zero, List.set_cons_succ]
      refine wpAnyH_take (i := 5) (oi := ?_) (v := ?_) ?_ ?_ ?_ ?_ ?_ ?_ ?_ ?_
      rotate_left 2
      · (simp only [List.getElem?_toArray, List.getElem?_cons_succ, List.getElem?_cons_zero]; exact rfl)
      · kernel_rfl
      · kernel_rfl
      · kernel_rfl
      · exact fun _ _ _ h => h
      · first | (refine Or.inl ⟨by rfl, ?_⟩; intro w hSw; (try dsimp only at hSw); go_simp; try with_reducible rfl) | (refine Or.inr ⟨by rfl, ?_⟩; rfl)
      · assumption
      try simp only [Act.put, List.setIfInBounds_toArray, List.set_cons_zero, List.set_cons_succ]
      refine wpAnyH_take (i := 6) (oi := ?_) (v := ?_) ?_ ?_ ?_ ?_ ?_ ?_ ?_ ?_
      rotate_left 2
      · (simp only [List.getElem?_toArray, List.getElem?_cons_succ, List.getElem?_cons_zero]; exact rfl)
      · kernel_rfl
      · kernel_rfl
      · kernel_rfl
      · exact fun _ _ _ h => h
      · first | (refine Or.inl ⟨by rfl, ?_⟩; intro w hSw; (try dsimp only at hSw); go_simp; try with_reducible rfl) | (refine Or.inr ⟨by rfl, ?_⟩; rfl)
      · assumption
      try simp only [Act.put, List.setIfInBounds_toArray, List.set_cons_zero, List.set_cons_succ]
      refine wpAnyH_take (i := 7) (oi := ?_) (v := ?_) ?_ ?_ ?_ ?_ ?_ ?_ ?_ ?_
      rotate_left 2
      · (simp only [List.getElem?_toArray, List.getElem?_cons_succ, List.getElem?_cons_zero]; exact rfl)
      · kernel_rfl
      · kernel_rfl
      · kernel_rfl
      · exact fun _ _ _ h => h
      · first | (first | ((refine yieldsIf_load_mid ?_ 23 (.tmp 45) ?_ gA (k * 87) ?_ C.toList _ ?_ ULC.out ?_ HMA.out) <;> first | rfl | exact fun w h => h.2.2) | (refine Or.inl ⟨by rfl, ?_⟩; intro w hSw; obtain ⟨hS1, hS2, hS3⟩ := hSw; go_simp; try with_reducible rfl)) | (refine Or.inr ⟨by rfl, ?_⟩; rfl)
      · assumption
      try simp only [Act.put, List.setIfInBounds_toArray, List.set_cons_zero, List.set_cons_succ]
      refine wpAnyH_take (i := 8) (oi := ?_) (v := ?_) ?_ ?_ ?_ ?_ ?_ ?_ ?_ ?_
      rotate_left 2
      · (simp only [List.getElem?_toArray, List.getElem?_cons_succ, List.getElem?_cons_zero]; exact rfl)
      · kernel_rfl
      · kernel_rfl
      · kernel_rfl
      · exact fun _ _ _ h => h
      · first | (refine Or.inl ⟨by rfl, ?_⟩; intro w hSw; (try dsimp only at hSw); go_simp; try with_reducible rfl) | (refine Or.inr ⟨by rfl, ?_⟩; rfl)
      · assumption
      try simp only [Act.put, List.setIfInBounds_toArray, List.set_cons_zero, List.set_cons_succ]
      refine wpAnyH_take (i := 9) (oi := ?_) (v := ?_) ?_ ?_ ?_ ?_ ?_ ?_ ?_ ?_
      rotate_left 2
      · (simp only [List.getElem?_toArray, List.getElem?_cons_succ, List.getElem?_cons_zero]; exact rfl)
      · kernel_rfl
      · kernel_rfl
      · kernel_rfl
      · exact fun _ _ _ h => h
      · first | (refine Or.inl ⟨by rfl, ?_⟩; intro w hSw; (try dsimp only at hSw); go_simp; try with_reducible rfl) | (refine Or.inr ⟨by rfl, ?_⟩; rfl)
      · assumption
      try simp only [Act.put, List.setIfInBounds_toArray, List.set_cons_zero, List.set_cons_succ]
      refine wpAnyH_take (i := 10) (oi := ?_) (v := ?_) ?_ ?_ ?_ ?_ ?_ ?_ ?_ ?_
      rotate_left 2
      · (simp only [List.getElem?_toArray, List.getElem?_cons_succ, List.getElem?_cons_zero]; exact rfl)
      · kernel_rfl
      · kernel_rfl
      · kernel_rfl
      · exact fun _ _ _ h => h
      · first | (refine Or.inl ⟨by rfl, ?_⟩; intro w hSw; (try dsimp only at hSw); go_simp; try with_reducible rfl) | (refine Or.inr ⟨by rfl, ?_⟩; rfl)
      · assumption
      try simp only [Act.put, List.setIfInBounds_toArray, List.set_cons_zero, List.set_cons_succ]
      refine wpAnyH_take (i := 11) (oi := ?_) (v := ?_) ?_ ?_ ?_ ?_ ?_ ?_ ?_ ?_
      rotate_left 2
      · (simp only [List.getElem?_toArray, List.getElem?_cons_succ, List.getElem?_cons_zero]; exact rfl)
      · kernel_rfl
      · kernel_rfl
      · kernel_rfl
      · exact fun _ _ _ h => h
      · first | (first | ((refine yieldsIf_load_mid ?_ 23 (.tmp 45) ?_ gA (k * 87) ?_ C.toList _ ?_ ULC.out ?_ HMA.out) <;> first | rfl | exact fun w h => h.2.2) | (refine Or.inl ⟨by rfl, ?_⟩; intro w hSw; obtain ⟨hS1, hS2, hS3⟩ := hSw; go_simp; try with_reducible rfl)) | (refine Or.inr ⟨by rfl, ?_⟩; rfl)
      · assumption
      try simp only [Act.put, List.setIfInBounds_toArray, List.set_cons_zero, List.set_cons_succ]
      refine wpAnyH_take (i := 12) (oi := ?_) (v := ?_) ?_ ?_ ?_ ?_ ?_ ?_ ?_ ?_
      rotate_left 2
      · (simp only [List.getElem?_toArray, List.getElem?_cons_succ, List.getElem?_cons_zero]; exact rfl)
      · kernel_rfl
      · kernel_rfl
      · kernel_rfl
      · exact fun _ _ _ h => h
      · first | (refine Or.inl ⟨by rfl, ?_⟩; intro w hSw; (try dsimp only at hSw); go_simp; try with_reducible rfl) | (refine Or.inr ⟨by rfl, ?_⟩; rfl)
      · assumption
      try simp only [Act.put, List.setIfInBounds_toArray, List.set_cons_zero, List.set_cons_succ]
      refine wpAnyH_take (i := 13) (oi := ?_) (v := ?_) ?_ ?_ ?_ ?_ ?_ ?_ ?_ ?_
      rotate_left 2
      · (simp only [List.getElem?_toArray, List.getElem?_cons_succ, List.getElem?_cons_zero]; exact rfl)
      · kernel_rfl
      · kernel_rfl
      · kernel_rfl
      · exact fun _ _ _ h => h
      · first | (refine Or.inl ⟨by rfl, ?_⟩; intro w hSw; (try dsimp only at hSw); go_simp; try with_reducible rfl) | (refine Or.inr ⟨by rfl, ?_⟩; rfl)
      · assumption
      try simp only [Act.put, List.setIfInBounds_toArray, List.set_cons_zero, List.set_cons_succ]
      refine wpAnyH_take (i := 14) (oi := ?_) (v := ?_) ?_ ?_ ?_ ?_ ?_ ?_ ?_ ?_
      rotate_left 2
      · (simp only [List.getElem?_toArray, List.getElem?_cons_succ, List.getElem?_cons_zero]; exact rfl)
      · kernel_rfl
      · kernel_rfl
      · kernel_rfl
      · exact fun _ _ _ h => h
      · first | (refine Or.inl ⟨by rfl, ?_⟩; intro w hSw; (try dsimp only at hSw); go_simp; try with_reducible rfl) | (refine Or.inr ⟨by rfl, ?_⟩; rfl)
      · assumption
      try simp only [Act.put, List.setIfInBounds_toArray, List.set_cons_zero, List.set_cons_succ]
      refine wpAnyH_take (i := 15) (oi := ?_) (v := ?_) ?_ ?_ ?_ ?_ ?_ ?_ ?_ ?_
      rotate_left 2
      · (simp only [List.getElem?_toArray, List.getElem?_cons_succ, List.getElem?_cons_zero]; exact rfl)
      · kernel_rfl
      · kernel_rfl
      · kernel_rfl
      · exact fun _ _ _ h => h
      · first | (first | ((refine yieldsIf_load_mid ?_ 23 (.tmp 45) ?_ gA (k * 87) ?_ C.toList _ ?_ ULC.out ?_ HMA.out) <;> first | rfl | exact fun w h => h.2.2) | (refine Or.inl ⟨by rfl, ?_⟩; intro w hSw; obtain ⟨hS1, hS2, hS3⟩ := hSw; go_simp; try with_reducible rfl)) | (refine Or.inr ⟨by rfl, ?_⟩; rfl)
      · assumption
      try simp only [Act.put, List.setIfInBounds_toArray, List.set_cons_zero, List.set_cons_succ]
      refine wpAnyH_take (i := 16) (oi := ?_) (v := ?_) ?_ ?_ ?_ ?_ ?_ ?_ ?_ ?_
      rotate_left 2
      · (simp only [List.getElem?_toArray, List.getElem?_cons_succ, List.getElem?_cons_zero]; exact rfl)
      · kernel_rfl
      · kernel_rfl
      · kernel_rfl
      · exact fun _ _ _ h => h
      · first | (refine Or.inl ⟨by rfl, ?_⟩; intro w hSw; (try dsimp only at hSw); go_simp; try with_reducible rfl) | (refine Or.inr ⟨by rfl, ?_⟩; rfl)
      · assumption
      try simp only [Act.put, List.setIfInBounds_toArray, List.set_cons_zero, List.set_cons_succ]
      refine wpAnyH_ready (rs := [17]) (by kernel_rfl) (by simp) ?_
      refine AllReadyH.cons (o := ?_) ?_ (fun K hK => ?_) ?_
      rotate_left 1
      · (simp only [List.getElem?_toArray, List.getElem?_cons_succ, List.getElem?_cons_zero]; exact rfl)
      · ((refine step_store_st rfl 23 (.tmp 5) (.tmp 46) rfl (off := 0) C rfl rfl hx FZ.out IZ.out OZ.out ?_; intro w9 h9; rw [MZ.out] at h9; dsimp only))
        refine hK.out _ _ ?_ (fun hHeld => ?_)
        · (try dsimp only) <;> (first | exact SX.out _ _ hx | exact SX.out _ _ h9)
        clear hK K
        try simp only [Act.put, List.setIfInBounds_toArray, List.set_cons_zero, List.set_cons_succ]
        refine wpAnyH_take (i := 18) (oi := ?_) (v := ?_) ?_ ?_ ?_ ?_ ?_ ?_ ?_ ?_
        rotate_left 2
        · (simp only [List.getElem?_toArray, List.getElem?_cons_succ, List.getElem?_cons_zero]; exact rfl)
        · kernel_rfl
        · kernel_rfl
        · kernel_rfl
        · exact fun _ _ _ h => h
        · first | (refine Or.inl ⟨by rfl, ?_⟩; intro w hSw; (try dsimp only at hSw); go_simp; try with_reducible rfl) | (refine Or.inr ⟨by rfl, ?_⟩; rfl)
        · assumption
        try simp only [Act.put, List.setIfInBounds_toArray, List.set_cons_zero, List.set_cons_succ]
        refine wpAnyH_done (by kernel_rfl) ?_ _
        (have H9 := Lib.hid h9; clear h9 hx SX; go_wp2_with fail; refine bodyPost_ret (results_tmp_row_tmp rfl _ _ b 23 C (0, 0) _ _ _ rfl rfl rfl (H9.out.own (b, .cells C 23 (0, 0)) (by simp)) ULC.out rfl IZ.out) rfl ⟨some ⟨gA, 0, none⟩, c, _, (by show Ending.returned (.tuple #[.int .i64 p.serial, .agg C, .bool true]) = .returned (.tuple #[.int .i64 p.serial, .agg p.call.cells, .bool true]); rw [HC.out]), HRA.out, ?_⟩; show St W _ I (RdL gr (n : Int) (some ⟨gA, 0, none⟩) (all.set k { p with stage := 2 }).length c last _ ++ F); rw [HLEN.out]; exact nextEnd H9.out)
      exact AllReadyH.nil
    · have hmx : max pick 0 = pick := by omega
      rw [hmx] at hrem
      clear hmx
      go_enter Tryd.func25, Tryd.ntmps25
      go_wp2_with fail
      refine (KW.out _ _ H0.out).mono ?_
      rintro e w1 hgp
      obtain ⟨B, d, L1, rfl, hr1, h1⟩ := hgp
      obtain ⟨g1, off1, cap1, cur1, hv1, hL1, hcu1⟩ := hr1.cells HINTS.out
      simp only [Value.slice.injEq, true_and] at hv1
      obtain ⟨rfl, rfl⟩ := hv1
      have cw := (h1.cell (g := g1) (cs := cur1) (t := 3) (fr := (0, 0)) (by rw [hL1]; simp) (off1 + q)).trans hcu1
      have cd := HDC.out _ _ h1 (by simp [RdL])
      simp [rdesk] at cd
      have cs0 : ∃ u, w1.cell? ⟨gA, k * 87 + 6, none⟩ = some u := by
        have e1 := h1.cell (g := gA) (cs := dcells all ++ Y) (t := 92) (fr := (0, 0)) (by simp [RdL]) (k * 87 + 6)
        rw [e1]
        exact Option.isSome_iff_exists.1 HSOME.out
      obtain ⟨u6, cs6⟩ := cs0
      have fs6 := h1.frozen (g := gA) (cs := dcells all ++ Y) (t := 92) (by simp [RdL]) (k * 87 + 6)
      have h2 : St W w1 I ([(gr, Obj.cells (rdesk (n : Int) (some ⟨gA, 0, none⟩) all.length c last) 66 (0, 0))] ++ ((gA, .cells (dcells all ++ Y) 92 (0, 0)) :: ((b, .cells #[Value.int .i64 0, .int .i64 0, .int .i64 0, .int .i64 0, .string ⟨#[]⟩] 23 (0, 0)) :: (L1 ++ F)))) := h1.perm (permN _ _ _ _ _)
      have h3 := St.set (A := [(gr, Obj.cells (rdesk (n : Int) (some ⟨gA, 0, none⟩) all.length c last) 66 (0, 0))]) h2 (k * 87 + 6) (.int .i64 2)
      rw [HSET.out] at h3
      have H3 := Lib.hid (h3.perm (perm3 _ _ _ _))
      clear h1 h2 h3 hr1 H0 KW hcu1 hL1
      go_wp2_with fail
      have hx := H3.out.drew1
      have sx : ∀ (v : World) (D : Array Value), St W v I ((b, Obj.cells D 23 (0, 0)) :: (gA, .cells (dcells (all.set k { p with stage := 2 }) ++ Y) 92 (0, 0)) :: (gr, Obj.cells (rdesk (n : Int) (some ⟨gA, 0, none⟩) all.length c last) 66 (0, 0)) :: (L1 ++ F)) → (v.cell? ⟨gr, 1, none⟩ = some (.slice (some ⟨gA, 0, none⟩) all.length c) ∧ v.cell? ⟨gA, k * 87 + 5, none⟩ = some (.int .i64 p.serial) ∧ v.rangeAt gA (k * 87) C.toList) := fun v D hv =>
        ⟨hv.cell (g := gr) (cs := rdesk (n : Int) (some ⟨gA, 0, none⟩) all.length c last) (t := 66) (fr := (0, 0)) (by simp) 1, (hv.cell (g := gA) (cs := dcells (all.set k { p with stage := 2 }) ++ Y) (t := 92) (fr := (0, 0)) (by simp) (k * 87 + 5)).trans HC5.out, hv.rangeAt (g := gA) (cs := dcells (all.set k { p with stage := 2 }) ++ Y) (t := 92) (fr := (0, 0)) (by simp) G0.out⟩
      have SX := Lib.hid sx
      clear sx H3 cw cd cs6 fs6
      refine wp_region_held_drew (S := fun v => (v.cell? ⟨gr, 1, none⟩ = some (.slice (some ⟨gA, 0, none⟩) all.length c) ∧ v.cell? ⟨gA, k * 87 + 5, none⟩ = some (.int .i64 p.serial) ∧ v.rangeAt gA (k * 87) C.toList)) (by kernel_rfl) (SX.out _ _ hx) (fun hHeld => ?_)
      refine wpAnyH_take (i := 0) (oi := ?_) (v := ?_) ?_ ?_ ?_ ?_ ?_ ?_ ?_ ?_
      rotate_left 2
      · (simp only [List.getElem?_toArray, List.getElem?_cons_succ, List.getElem?_cons_zero]; exact rfl)
      · kernel_rfl
      · kernel_rfl
      · kernel_rfl
      · exact fun _ _ _ h => h
      · first | (refine Or.inl ⟨by rfl, ?_⟩; intro w hSw; (try dsimp only at hSw); go_simp; try with_reducible rfl) | (refine Or.inr ⟨by rfl, ?_⟩; rfl)
      · assumption
      try simp only [Act.put, List.setIfInBounds_toArray, List.set_cons_zero, List.set_cons_succ]
      refine wpAnyH_take (i := 1) (oi := ?_) (v := ?_) ?_ ?_ ?_ ?_ ?_ ?_ ?_ ?_
      rotate_left 2
      · (simp only [List.getElem?_toArray, List.getElem?_cons_succ, List.getElem?_cons_zero]; exact rfl)
      · kernel_rfl
      · kernel_rfl
      · kernel_rfl
      · exact fun _ _ _ h => h
      · first | (refine Or.inl ⟨by rfl, ?_⟩; intro w hSw; (try dsimp only at hSw); go_simp; try with_reducible rfl) | (refine Or.inr ⟨by rfl, ?_⟩; rfl)
      · assumption
      try simp only [Act.put, List.setIfInBounds_toArray, List.set_cons_zero, List.set_cons_succ]
      refine wpAnyH_take (i := 2) (oi := ?_) (v := ?_) ?_ ?_ ?_ ?_ ?_ ?_ ?_ ?_
      rotate_left 2
      · (simp only [List.getElem?_toArray, List.getElem?_cons_succ, List.getElem?_cons_zero]; exact rfl)
      · kernel_rfl
      · kernel_rfl
      · kernel_rfl
      · exact fun _ _ _ h => h
      · first | (refine Or.inl ⟨by rfl, ?_⟩; intro w hSw; (try dsimp only at hSw); go_simp; try with_reducible rfl) | (refine Or.inr ⟨by rfl, ?_⟩; rfl)
      · assumption
      try simp only [Act.put, List.setIfInBounds_toArray, List.set_cons_zero, List.set_cons_succ]
      refine wpAnyH_take (i := 3) (oi := ?_) (v := ?_) ?_ ?_ ?_ ?_ ?_ ?_ ?_ ?_
      rotate_left 2
      · (simp only [List.getElem?_toArray, List.getElem?_cons_succ, List.getElem?_cons_zero]; exact rfl)
      · kernel_rfl
      · kernel_rfl
      · kernel_rfl
      · exact fun _ _ _ h => h
      · first | (first | ((refine yieldsIf_load_mid ?_ 23 (.tmp 45) ?_ gA (k * 87) ?_ C.toList _ ?_ ULC.out ?_ HMA.out) <;> first | rfl | exact fun w h => h.2.2) | (refine Or.inl ⟨by rfl, ?_⟩; intro w hSw; obtain ⟨hS1, hS2, hS3⟩ := hSw; go_simp; try with_reducible rfl)) | (refine Or.inr ⟨by rfl, ?_⟩; rfl)
      · assumption
      try simp only [Act.put, List.setIfInBounds_toArray, List.set_cons_zero, List.set_cons_succ]
      refine wpAnyH_take (i := 4) (oi := ?_) (v := ?_) ?_ ?_ ?_ ?_ ?_ ?_ ?_ ?_
      rotate_left 2
      · (simp only [List.getElem?_toArray, List.getElem?_cons_succ, List.getElem?_cons_zero]; exact rfl)
      · kernel_rfl
      · kernel_rfl
      · kernel_rfl
      · exact fun _ _ _ h => h
      · first | (refine Or.inl ⟨by rfl, ?_⟩; intro w hSw; (try dsimp only at hSw); go_simp; try with_reducible rfl) | (refine Or.inr ⟨by rfl, ?_⟩; rfl)
      · assumption
      try simp only [Act.put, List.setIfInBounds_toArray, List.set_cons_zero, List.set_cons_succ]
      refine wpAnyH_take (i := 5) (oi := ?_) (v := ?_) ?_ ?_ ?_ ?_ ?_ ?_ ?_ ?_
      rotate_left 2
      · (simp only [List.getElem?_toArray, List.getElem?_cons_succ, List.getElem?_cons_zero]; exact rfl)
      · kernel_rfl
      · kernel_rfl
      · kernel_rfl
      · exact fun _ _ _ h => h
      · first | (refine Or.inl ⟨by rfl, ?_⟩; intro w hSw; (try dsimp only at hSw); go_simp; try with_reducible rfl) | (refine Or.inr ⟨by rfl, ?_⟩; rfl)
      · assumption
      try simp only [Act.put, List.setIfInBounds_toArray, List.set_cons_zero, List.set_cons_succ]
      refine wpAnyH_take (i := 6) (oi := ?_) (v := ?_) ?_ ?_ ?_ ?_ ?_ ?_ ?_ ?_
      rotate_left 2
      · (simp only [List.getElem?_toArray, List.getElem?_cons_succ, List.getElem?_cons_zero]; exact rfl)
      · kernel_rfl
      · kernel_rfl
      · kernel_rfl
      · exact fun _ _ _ h => h
      · first | (refine Or.inl ⟨by rfl, ?_⟩; intro w hSw; (try dsimp only at hSw); go_simp; try with_reducible rfl) | (refine Or.inr ⟨by rfl, ?_⟩; rfl)
      · assumption
      try simp only [Act.put, List.setIfInBounds_toArray, List.set_cons_zero, List.set_cons_succ]
      refine wpAnyH_take (i := 7) (oi := ?_) (v := ?_) ?_ ?_ ?_ ?_ ?_ ?_ ?_ ?_
      rotate_left 2
      · (simp only [List.getElem?_toArray, List.getElem?_cons_succ, List.getElem?_cons_zero]; exact rfl)
      · kernel_rfl
      · kernel_rfl
      · kernel_rfl
      · exact fun _ _ _ h => h
      · first | (first | ((refine yieldsIf_load_mid ?_ 23 (.tmp 45) ?_ gA (k * 87) ?_ C.toList _ ?_ ULC.out ?_ HMA.out) <;> first | rfl | exact fun w h => h.2.2) | (refine Or.inl ⟨by rfl, ?_⟩; intro w hSw; obtain ⟨hS1, hS2, hS3⟩ := hSw; go_simp; try with_reducible rfl)) | (refine Or.inr ⟨by rfl, ?_⟩; rfl)
      · assumption
      try simp only [Act.put, List.setIfInBounds_toArray, List.set_cons_zero, List.set_cons_succ]
      refine wpAnyH_take (i := 8) (oi := ?_) (v := ?_) ?_ ?_ ?_ ?_ ?_ ?_ ?_ ?_
      rotate_left 2
      · (simp only [List.getElem?_toArray, List.getElem?_cons_succ, List.getElem?_cons_zero]; exact rfl)
      · kernel_rfl
      · kernel_rfl
      · kernel_rfl
      · exact fun _ _ _ h => h
      · first | (refine Or.inl ⟨by rfl, ?_⟩; intro w hSw; (try dsimp only at hSw); go_simp; try with_reducible rfl) | (refine Or.inr ⟨by rfl, ?_⟩; rfl)
      · assumption
      try simp only [Act.put, List.setIfInBounds_toArray, List.set_cons_zero, List.set_cons_succ]
      refine wpAnyH_take (i := 9) (oi := ?_) (v := ?_) ?_ ?_ ?_ ?_ ?_ ?_ ?_ ?_
      rotate_left 2
      · (simp only [List.getElem?_toArray, List.getElem?_cons_succ, List.getElem?_cons_zero]; exact rfl)
      · kernel_rfl
      · kernel_rfl
      · kernel_rfl
      · exact fun _ _ _ h => h
      · first | (refine Or.inl ⟨by rfl, ?_⟩; intro w hSw; (try dsimp only at hSw); go_simp; try with_reducible rfl) | (refine Or.inr ⟨by rfl, ?_⟩; rfl)
      · assumption
      try simp only [Act.put, List.setIfInBounds_toArray, List.set_cons_zero, List.set_cons_succ]
      refine wpAnyH_take (i := 10) (oi := ?_) (v := ?_) ?_ ?_ ?_ ?_ ?_ ?_ ?_ ?_
      rotate_left 2
      · (simp only [List.getElem?_toArray, List.getElem?_cons_succ, List.getElem?_cons_zero]; exact rfl)
      · kernel_rfl
      · kernel_rfl
      · kernel_rfl
      · exact fun _ _ _ h => h
      · first | (refine Or.inl ⟨by rfl, ?_⟩; intro w hSw; (try dsimp only at hSw); go_simp; try with_reducible rfl) | (refine Or.inr ⟨by rfl, ?_⟩; rfl)
      · assumption
      try simp only [Act.put, List.setIfInBounds_toArray, List.set_cons_zero, List.set_cons_succ]
      refine wpAnyH_take (i := 11) (oi := ?_) (v := ?_) ?_ ?_ ?_ ?_ ?_ ?_ ?_ ?_
      rotate_left 2
      · (simp only [List.getElem?_toArray, List.getElem?_cons_succ, List.getElem?_cons_zero]; exact rfl)
      · kernel_rfl
      · kernel_rfl
      · kernel_rfl
      · exact fun _ _ _ h => h
      · first | (first | ((refine yieldsIf_load_mid ?_ 23 (.tmp 45) ?_ gA (k * 87) ?_ C.toList _ ?_ ULC.out ?_ HMA.out) <;> first | rfl | exact fun w h => h.2.2) | (refine Or.inl ⟨by rfl, ?_⟩; intro w hSw; obtain ⟨hS1, hS2, hS3⟩ := hSw; go_simp; try with_reducible rfl)) | (refine Or.inr ⟨by rfl, ?_⟩; rfl)
      · assumption
      try simp only [Act.put, List.setIfInBounds_toArray, List.set_cons_zero, List.set_cons_succ]
      refine wpAnyH_take (i := 12) (oi := ?_) (v := ?_) ?_ ?_ ?_ ?_ ?_ ?_ ?_ ?_
      rotate_left 2
      · (simp only [List.getElem?_toArray, List.getElem?_cons_succ, List.getElem?_cons_zero]; exact rfl)
      · kernel_rfl
      · kernel_rfl
      · kernel_rfl
      · exact fun _ _ _ h => h
      · first | (refine Or.inl ⟨by rfl, ?_⟩; intro w hSw; (try dsimp only at hSw); go_simp; try with_reducible rfl) | (refine Or.inr ⟨by rfl, ?_⟩; rfl)
      · assumption
      try simp only [Act.put, List.setIfInBounds_toArray, List.set_cons_zero, List.set_cons_succ]
      refine wpAnyH_take (i := 13) (oi := ?_) (v := ?_) ?_ ?_ ?_ ?_ ?_ ?_ ?_ ?_
      rotate_left 2
      · (simp only [List.getElem?_toArray, List.getElem?_cons_succ, List.getElem?_cons_zero]; exact rfl)
      · kernel_rfl
      · kernel_rfl
      · kernel_rfl
      · exact fun _ _ _ h => h
      · first | (refine Or.inl ⟨by rfl, ?_⟩; intro w hSw; (try dsimp only at hSw); go_simp; try with_reducible rfl) | (refine Or.inr ⟨by rfl, ?_⟩; rfl)
      · assumption
      try simp only [Act.put, List.setIfInBounds_toArray, List.set_cons_zero, List.set_cons_succ]
      refine wpAnyH_take (i := 14) (oi := ?_) (v := ?_) ?_ ?_ ?_ ?_ ?_ ?_ ?_ ?_
      rotate_left 2
      · (simp only [List.getElem?_toArray, List.getElem?_cons_succ, List.getElem?_cons_zero]; exact rfl)
      · kernel_rfl
      · kernel_rfl
      · kernel_rfl
      · exact fun _ _ _ h => h
      · first | (refine Or.inl ⟨by rfl, ?_⟩; intro w hSw; (try dsimp only at hSw); go_simp; try with_reducible rfl) | (refine Or.inr ⟨by rfl, ?_⟩; rfl)
      · assumption
      try simp only [Act.put, List.setIfInBounds_toArray, List.set_cons_zero, List.set_cons_succ]
      refine wpAnyH_take (i := 15) (oi := ?_) (v := ?_) ?_ ?_ ?_ ?_ ?_ ?_ ?_ ?_
      rotate_left 2
      · (simp only [List.getElem?_toArray, List.getElem?_cons_succ, List.getElem?_cons_zero]; exact rfl)
      · kernel_rfl
      · kernel_rfl
      · kernel_rfl
      · exact fun _ _ _ h => h
      · first | (first | ((refine yieldsIf_load_mid ?_ 23 (.tmp 45) ?_ gA (k * 87) ?_ C.toList _ ?_ ULC.out ?_ HMA.out) <;> first | rfl | exact fun w h => h.2.2) | (refine Or.inl ⟨by rfl, ?_⟩; intro w hSw; obtain ⟨hS1, hS2, hS3⟩ := hSw; go_simp; try with_reducible rfl)) | (refine Or.inr ⟨by rfl, ?_⟩; rfl)
      · assumption
      try simp only [Act.put, List.setIfInBounds_toArray, List.set_cons_zero, List.set_cons_succ]
      refine wpAnyH_take (i := 16) (oi := ?_) (v := ?_) ?_ ?_ ?_ ?_ ?_ ?_ ?_ ?_
      rotate_left 2
      · (simp only [List.getElem?_toArray, List.getElem?_cons_succ, List.getElem?_cons_zero]; exact rfl)
      · kernel_rfl
      · kernel_rfl
      · kernel_rfl
      · exact fun _ _ _ h => h
      · first | (refine Or.inl ⟨by rfl, ?_⟩; intro w hSw; (try dsimp only at hSw); go_simp; try with_reducible rfl) | (refine Or.inr ⟨by rfl, ?_⟩; rfl)
      · assumption
      try simp only [Act.put, List.setIfInBounds_toArray, List.set_cons_zero, List.set_cons_succ]
      refine wpAnyH_ready (rs := [17]) (by kernel_rfl) (by simp) ?_
      refine AllReadyH.cons (o := ?_) ?_ (fun K hK => ?_) ?_
      rotate_left 1
      · (simp only [List.getElem?_toArray, List.getElem?_cons_succ, List.getElem?_cons_zero]; exact rfl)
      · ((refine step_store_st rfl 23 (.tmp 5) (.tmp 46) rfl (off := 0) C rfl rfl hx FZ.out IZ.out OZ.out ?_; intro w9 h9; rw [MZ.out] at h9; dsimp only))
        refine hK.out _ _ ?_ (fun hHeld => ?_)
        · (try dsimp only) <;> (first | exact SX.out _ _ hx | exact SX.out _ _ h9)
        clear hK K
        try simp only [Act.put, List.setIfInBounds_toArray, List.set_cons_zero, List.set_cons_succ]
        refine wpAnyH_take (i := 18) (oi := ?_) (v := ?_) ?_ ?_ ?_ ?_ ?_ ?_ ?_ ?_
        rotate_left 2
        · (simp only [List.getElem?_toArray, List.getElem?_cons_succ, List.getElem?_cons_zero]; exact rfl)
        · kernel_rfl
        · kernel_rfl
        · kernel_rfl
        · exact fun _ _ _ h => h
        · first | (refine Or.inl ⟨by rfl, ?_⟩; intro w hSw; (try dsimp only at hSw); go_simp; try with_reducible rfl) | (refine Or.inr ⟨by rfl, ?_⟩; rfl)
        · assumption
        try simp only [Act.put, List.setIfInBounds_toArray, List.set_cons_zero, List.set_cons_succ]
        refine wpAnyH_done (by kernel_rfl) ?_ _
        (have H9 := Lib.hid h9; clear h9 hx SX; go_wp2_with fail; refine bodyPost_ret (results_tmp_row_tmp rfl _ _ b 23 C (0, 0) _ _ _ rfl rfl rfl (H9.out.own (b, .cells C 23 (0, 0)) (by simp)) ULC.out rfl IZ.out) rfl ⟨some ⟨gA, 0, none⟩, c, _, (by show Ending.returned (.tuple #[.int .i64 p.serial, .agg C, .bool true]) = .returned (.tuple #[.int .i64 p.serial, .agg p.call.cells, .bool true]); rw [HC.out]), HRA.out, ?_⟩; show St W _ I (RdL gr (n : Int) (some ⟨gA, 0, none⟩) (all.set k { p with stage := 2 }).length c last _ ++ F); rw [HLEN.out]; exact nextEnd H9.out)
      exact AllReadyH.nil
end
end

section
set_option linter.unusedVariables false
set_option linter.unusedSimpArgs false
set_option linter.unnecessarySimpa false
open Go.RowKit Go.Lib Go.Deep

section
variable {W w : World} {I : Nat → Option Obj} {F : List (Nat × Obj)} {gr : Nat} {all : List Pn} {last : Int}
theorem ansEnd {b gA g : Nat × Obj} (h : St W w I (gA :: g :: b :: F)) : St W w I ([g, gA] ++ F) :=
  St.weaken (A := [b]) (h.perm ((perm3c gA g b F).trans ((List.Perm.swap g gA F).cons b)))
def RansPost (W : World) (I : Nat → Option Obj) (gr n : Nat) (last : Int) (r : List Pn × Bool) (F : List (Nat × Obj)) (e : Ending) (w' : World) : Prop :=
  ∃ A c L, e = .returned (.bool r.2) ∧ RAll A c r.1 L ∧ St W w' I (RdL gr (n : Int) A r.1.length c last L ++ F)
theorem no_step {s : Int} {k : Nat} {p : Pn} (hk : all[k]? = some p) (hc : ¬ (p.stage = 2 ∧ p.serial = s)) (hno : ∀ (j : Nat) (q : Pn), j < k → all[j]? = some q → ¬ (q.stage = 2 ∧ q.serial = s)) : ∀ (j : Nat) (q : Pn), j < k + 1 → all[j]? = some q → ¬ (q.stage = 2 ∧ q.serial = s) := fun j q hj hq => by
  by_cases e : j = k
  · subst e
    rw [hk] at hq
    cases hq
    exact hc
  · exact hno j q (by omega) hq
set_option maxRecDepth 100000 in
set_option maxHeartbeats 8000000 in
theorem rd_answer {A : Option Addr} {c n : Nat} {L : List (Nat × Obj)} (ok : AllOk all) (hn : all.length ≤ 8) (hA : RAll A c all L) (s : Int) (r : Rp) (okr : r.Ok) (h : St W w I (RdL gr (n : Int) A all.length c last L ++ F)) :
    Calls Tryd.prog 26 #[.pointer (some ⟨gr, 0, none⟩), .int .i64 s, .agg r.cells] w (RansPost W I gr n last (ansD all s r) F) := by
  have h0 := (h.alloc (.cells r.cells 44)).perm (perm_back _ _ _)
  obtain ⟨b, hb⟩ : ∃ b, w.heap.size = b := ⟨_, rfl⟩
  rw [hb] at h0
  obtain ⟨T, hT⟩ : ∃ T, ansD all s r = T := ⟨_, rfl⟩
  have inf := rp_info r okr
  have one := r.one
  have rsz := r.size okr
  have hdat := fun (Y : Array Value) (k : Nat) (p : Pn) (hp : all[k]? = some p) => rd_ans ok Y hp r okr 3
  obtain ⟨R, hR⟩ : ∃ R, r.cells = R := ⟨_, rfl⟩
  rw [hT]
  rw [hR] at h0 inf one rsz ⊢
  simp only [hR] at hdat
  have hrange : ∀ j, j < R.toList.length → R[0 + j]? = R.toList[j]? := fun j hj => by rw [Nat.zero_add, Array.getElem?_toList]
  have HMA : Hid ((Tryd.prog.info? 44).map (·.size) = some R.toList.length) := Lib.hid (by rw [inf, Array.length_toList])
  have HUL := Lib.hid Tryd.underlying44
  have INF := Lib.hid inf; have ONE := Lib.hid one; have RSZ := Lib.hid rsz; have HDAT := Lib.hid hdat; have HT := Lib.hid hT; have H0 := Lib.hid h0; have HR := Lib.hid hrange
  have hc0 := fun (v : World) (hv : St W v I (RdL gr (n : Int) A all.length c last L ++ ((b, Obj.cells R 44 (0, 0)) :: F))) => hv.cell (g := gr) (cs := rdesk (n : Int) A all.length c last) (t := 66) (fr := (0, 0)) (by simp [RdL]) 1
  have HC0 := Lib.hid hc0
  have HA := Lib.hid hA
  clear h h0 inf one rsz hdat hT hR hrange hc0 hA
  have cd := HC0.out
  go_enter Tryd.func26, Tryd.ntmps26
  have c0 := cd _ H0.out
  simp [rdesk] at c0
  clear cd
  go_wp2_with fail
  go_loopw [13] (fun i wr => ∃ k : Nat, i = .int .i64 k ∧ k ≤ all.length ∧ (∀ (j : Nat) (q : Pn), j < k → all[j]? = some q → ¬ (q.stage = 2 ∧ q.serial = s)) ∧ St W wr I (RdL gr (n : Int) A all.length c last L ++ ((b, Obj.cells R 44 (0, 0)) :: F))) (fun i _ => all.length - (intOf i).toNat)
  case atStart => exact ⟨0, rfl, by omega, fun j q hj => by omega, H0.out⟩
  case round =>
    obtain ⟨k, rfl, hk, hno, hst⟩ := hrel
    clear H0 c0
    have c0 := HC0.out _ hst
    simp [rdesk] at c0
    have HNO := Lib.hid hno
    clear hno
    by_cases hlt : k < all.length
    · have hltI : (k : Int) < (all.length : Int) := by omega
      obtain ⟨p, hp⟩ : ∃ p, all[k]? = some p := ⟨_, List.getElem?_eq_getElem hlt⟩
      obtain ⟨_, _, e, _⟩ | ⟨gA, Y, rfl, rfl, hl1, hl2, hl3⟩ := HA.out
      · rw [e] at hp; simp at hp
      have hpn := pn_at p
      have c5 := ((hst.cell (g := gA) (cs := dcells all ++ Y) (t := 92) (fr := (0, 0)) (by simp [RdL]) (k * 87 + 5)).trans (rd_get ok hp 5 (by omega))).trans hpn.2.2.2.2.2.1
      have c6 := ((hst.cell (g := gA) (cs := dcells all ++ Y) (t := 92) (fr := (0, 0)) (by simp [RdL]) (k * 87 + 6)).trans (rd_get ok hp 6 (by omega))).trans hpn.2.2.2.2.2.2
      have f6 := hst.frozen (g := gA) (cs := dcells all ++ Y) (t := 92) (by simp [RdL]) (k * 87 + 6)
      have hpok := ok p (List.mem_of_getElem? hp)
      have k0 : ¬ (k : Int) < 0 := by omega
      have hnx := fun (hc : ¬ (p.stage = 2 ∧ p.serial = s)) => no_step hp hc HNO.out
      have HNX := Lib.hid hnx
      clear hpn hnx
      by_cases hs : p.serial = s
      · have hsb : (p.serial == s) = true := by simpa using hs
        by_cases hs2 : p.stage = 2
        · have hit := ansD_hit all s r k p hp ⟨hs2, hs⟩ HNO.out
          rw [HT.out] at hit
          have okq : ({ p with stage := 3, rep := r } : Pn).Ok := ⟨hpok.c, okr, hpok.n⟩
          have hRA := RAll.set (gA := gA) (Y := Y) ok hl1 hl2 hl3 k _ okq
          have hd := HDAT.out Y k p hp
          have hlen : (all.set k { p with stage := 3, rep := r }).length = all.length := List.length_set
          have fit : k * 87 + 7 + R.size ≤ (((dcells all ++ Y).setIfInBounds (k * 87 + 6) (.int .i64 3))).size := by
            rw [RSZ.out, Array.size_setIfInBounds]
            rw [Array.size_append, dcells_size ok] at hl3 ⊢
            have : (k + 1) * 87 ≤ all.length * 87 := Nat.mul_le_mul_right _ hlt
            omega
          have h3 : St W _ I ([(gr, Obj.cells (rdesk (n : Int) (some ⟨gA, 0, none⟩) all.length c last) 66 (0, 0))] ++ (gA, .cells ((dcells all ++ Y).setIfInBounds (k * 87 + 6) (.int .i64 3)) 92 (0, 0)) :: ((b, Obj.cells R 44 (0, 0)) :: F)) := St.set (A := [(gr, Obj.cells (rdesk (n : Int) (some ⟨gA, 0, none⟩) all.length c last) 66 (0, 0))]) hst (k * 87 + 6) (.int .i64 3)
          have H3 := Lib.hid h3; have HIT := Lib.hid hit; have HRA := Lib.hid hRA; have HD := Lib.hid hd; have HLEN := Lib.hid hlen; have FIT := Lib.hid fit
          rw [hs2] at c6
          clear hst h3 hit hRA hd hlen fit okq hpok HNX hs2 hp HNO HC0
          generalize p.serial = se at *
          go_wp2_with fail
          have hx : St W _ I ((gA, .cells ((dcells all ++ Y).setIfInBounds (k * 87 + 6) (.int .i64 3)) 92 (0, 0)) :: (gr, Obj.cells (rdesk (n : Int) (some ⟨gA, 0, none⟩) all.length c last) 66 (0, 0)) :: (b, Obj.cells R 44 (0, 0)) :: F) := (H3.out.perm (List.Perm.swap _ _ _)).drew1
          have sx : ∀ (v : World) (D : Array Value), St W v I ((gA, .cells D 92 (0, 0)) :: (gr, Obj.cells (rdesk (n : Int) (some ⟨gA, 0, none⟩) all.length c last) 66 (0, 0)) :: (b, Obj.cells R 44 (0, 0)) :: F) → (v.cell? ⟨gr, 1, none⟩ = some (.slice (some ⟨gA, 0, none⟩) all.length c) ∧ v.rangeAt b 0 R.toList) := fun v D hv =>
            ⟨hv.cell (g := gr) (cs := rdesk (n : Int) (some ⟨gA, 0, none⟩) all.length c last) (t := 66) (fr := (0, 0)) (by simp) 1, hv.rangeAt (g := b) (cs := R) (t := 44) (fr := (0, 0)) (by simp) HR.out⟩
          have SX := Lib.hid sx
          clear sx H3 c0 c5 c6 f6
          refine wp_region_held_drew (S := fun v => (v.cell? ⟨gr, 1, none⟩ = some (.slice (some ⟨gA, 0, none⟩) all.length c) ∧ v.rangeAt b 0 R.toList)) (by kernel_rfl) (SX.out _ _ hx) (fun hHeld => ?_)
          refine wpAnyH_take (i := 0) (oi := ?_) (v := ?_) ?_ ?_ ?_ ?_ ?_ ?_ ?_ ?_
          rotate_left 2
          · (simp only [List.getElem?_toArray, List.getElem?_cons_succ, List.getElem?_cons_zero]; exact rfl)
          · kernel_rfl
          · kernel_rfl
          · kernel_rfl
          · exact fun _ _ _ h => h
          · first | (refine Or.inl ⟨by rfl, ?_⟩; intro w hSw; (try dsimp only at hSw); go_simp; try with_reducible rfl) | (refine Or.inr ⟨by rfl, ?_⟩; rfl)
          · assumption
          try simp only [Act.put, List.setIfInBounds_toArray, List.set_cons_zero, List.set_cons_succ]
          refine wpAnyH_take (i := 1) (oi := ?_) (v := ?_) ?_ ?_ ?_ ?_ ?_ ?_ ?_ ?_
          rotate_left 2
          · (simp only [List.getElem?_toArray, List.getElem?_cons_succ, List.getElem?_cons_zero]; exact rfl)
          · kernel_rfl
          · kernel_rfl
          · kernel_rfl
          · exact fun _ _ _ h => h
          · first | (refine Or.inl ⟨by rfl, ?_⟩; intro w hSw; (try dsimp only at hSw); go_simp; try with_reducible rfl) | (refine Or.inr ⟨by rfl, ?_⟩; rfl)
          · assumption
          try simp only [Act.put, List.setIfInBounds_toArray, List.set_cons_zero, List.set_cons_succ]
          refine wpAnyH_take (i := 2) (oi := ?_) (v := ?_) ?_ ?_ ?_ ?_ ?_ ?_ ?_ ?_
          rotate_left 2
          · (simp only [List.getElem?_toArray, List.getElem?_cons_succ, List.getElem?_cons_zero]; exact rfl)
          · kernel_rfl
          · kernel_rfl
          · kernel_rfl
          · exact fun _ _ _ h => h
          · first | (refine Or.inl ⟨by rfl, ?_⟩; intro w hSw; (try dsimp only at hSw); go_simp; try with_reducible rfl) | (refine Or.inr ⟨by rfl, ?_⟩; rfl)
          · assumption
          try simp only [Act.put, List.setIfInBounds_toArray, List.set_cons_zero, List.set_cons_succ]
          refine wpAnyH_take (i := 3) (oi := ?_) (v := ?_) ?_ ?_ ?_ ?_ ?_ ?_ ?_ ?_
          rotate_left 2
          · (simp only [List.getElem?_toArray, List.getElem?_cons_succ, List.getElem?_cons_zero]; exact rfl)
          · kernel_rfl
          · kernel_rfl
          · kernel_rfl
          · exact fun _ _ _ h => h
          · first | (first | ((refine yieldsIf_load_mid ?_ 44 (.tmp 5) ?_ b 0 ?_ R.toList _ ?_ HUL.out ?_ HMA.out) <;> first | rfl | exact fun w h => h.2) | (refine Or.inl ⟨by rfl, ?_⟩; intro w hSw; obtain ⟨hS1, hS2⟩ := hSw; go_simp; try with_reducible rfl)) | (refine Or.inr ⟨by rfl, ?_⟩; rfl)
          · assumption
          try simp only [Act.put, List.setIfInBounds_toArray, List.set_cons_zero, List.set_cons_succ]
          refine wpAnyH_take (i := 4) (oi := ?_) (v := ?_) ?_ ?_ ?_ ?_ ?_ ?_ ?_ ?_
          rotate_left 2
          · (simp only [List.getElem?_toArray, List.getElem?_cons_succ, List.getElem?_cons_zero]; exact rfl)
          · kernel_rfl
          · kernel_rfl
          · kernel_rfl
          · exact fun _ _ _ h => h
          · first | (refine Or.inl ⟨by rfl, ?_⟩; intro w hSw; (try dsimp only at hSw); go_simp; try with_reducible rfl) | (refine Or.inr ⟨by rfl, ?_⟩; rfl)
          · assumption
          try simp only [Act.put, List.setIfInBounds_toArray, List.set_cons_zero, List.set_cons_succ]
          refine wpAnyH_take (i := 5) (oi := ?_) (v := ?_) ?_ ?_ ?_ ?_ ?_ ?_ ?_ ?_
          rotate_left 2
          · (simp only [List.getElem?_toArray, List.getElem?_cons_succ, List.getElem?_cons_zero]; exact rfl)
          · kernel_rfl
          · kernel_rfl
          · kernel_rfl
          · exact fun _ _ _ h => h
          · first | (first | ((refine yieldsIf_load_mid ?_ 44 (.tmp 5) ?_ b 0 ?_ R.toList _ ?_ HUL.out ?_ HMA.out) <;> first | rfl | exact fun w h => h.2) | (refine Or.inl ⟨by rfl, ?_⟩; intro w hSw; obtain ⟨hS1, hS2⟩ := hSw; go_simp; try with_reducible rfl)) | (refine Or.inr ⟨by rfl, ?_⟩; rfl)
          · assumption
          try simp only [Act.put, List.setIfInBounds_toArray, List.set_cons_zero, List.set_cons_succ]
          refine wpAnyH_take (i := 6) (oi := ?_) (v := ?_) ?_ ?_ ?_ ?_ ?_ ?_ ?_ ?_
          rotate_left 2
          · (simp only [List.getElem?_toArray, List.getElem?_cons_succ, List.getElem?_cons_zero]; exact rfl)
          · kernel_rfl
          · kernel_rfl
          · kernel_rfl
          · exact fun _ _ _ h => h
          · first | (refine Or.inl ⟨by rfl, ?_⟩; intro w hSw; (try dsimp only at hSw); go_simp; try with_reducible rfl) | (refine Or.inr ⟨by rfl, ?_⟩; rfl)
          · assumption
          try simp only [Act.put, List.setIfInBounds_toArray, List.set_cons_zero, List.set_cons_succ]
          refine wpAnyH_take (i := 7) (oi := ?_) (v := ?_) ?_ ?_ ?_ ?_ ?_ ?_ ?_ ?_
          rotate_left 2
          · (simp only [List.getElem?_toArray, List.getElem?_cons_succ, List.getElem?_cons_zero]; exact rfl)
          · kernel_rfl
          · kernel_rfl
          · kernel_rfl
          · exact fun _ _ _ h => h
          · first | (refine Or.inl ⟨by rfl, ?_⟩; intro w hSw; (try dsimp only at hSw); go_simp; try with_reducible rfl) | (refine Or.inr ⟨by rfl, ?_⟩; rfl)
          · assumption
          try simp only [Act.put, List.setIfInBounds_toArray, List.set_cons_zero, List.set_cons_succ]
          refine wpAnyH_ready (rs := [8]) (by kernel_rfl) (by simp) ?_
          refine AllReadyH.cons (o := ?_) ?_ (fun K hK => ?_) ?_
          rotate_left 1
          · (simp only [List.getElem?_toArray, List.getElem?_cons_succ, List.getElem?_cons_zero]; exact rfl)
          · ((refine step_store_st rfl 44 (.tmp 51) (.tmp 49) rfl (off := k * 87 + 7) R rfl rfl hx FIT.out INF.out ONE.out ?_; intro w9 h9; rw [HD.out] at h9; dsimp only))
            refine hK.out _ _ ?_ (fun hHeld => ?_)
            · (try dsimp only) <;> (first | exact SX.out _ _ hx | exact SX.out _ _ h9)
            clear hK K
            try simp only [Act.put, List.setIfInBounds_toArray, List.set_cons_zero, List.set_cons_succ]
            refine wpAnyH_done (by kernel_rfl) ?_ _
            have H9 := Lib.hid h9
            clear h9 hx SX
            go_wp2_with fail
            go_ret
            rw [HIT.out]
            refine ⟨some ⟨gA, 0, none⟩, c, _, rfl, HRA.out, ?_⟩
            show St W _ I (RdL gr (n : Int) (some ⟨gA, 0, none⟩) (all.set k { call := p.call, serial := se, stage := 3, rep := r }).length c last _ ++ F)
            rw [HLEN.out]
            exact ansEnd H9.out
          exact AllReadyH.nil
        · have hn2 : (p.stage == 2) = false := beq_eq_false_iff_ne.2 hs2
          have hnn := HNX.out (fun hh => hs2 hh.1)
          have HNN := Lib.hid hnn; have H1 := Lib.hid hst
          clear hnn HNX hst hpok hp HNO HC0 hs2
          generalize p.serial = se at *
          generalize p.stage = sg at *
          go_wp2_with fail
          go_roundw
          case rel => exact ⟨k + 1, rfl, by omega, HNN.out, H1.out⟩
          case measure => simp [intOf]; omega
      · have hsb : (p.serial == s) = false := beq_eq_false_iff_ne.2 hs
        have hnn := HNX.out (fun hh => hs hh.2)
        have HNN := Lib.hid hnn; have H1 := Lib.hid hst
        clear hnn HNX hst hpok hp HNO HC0 hs
        generalize p.serial = se at *
        generalize p.stage = sg at *
        go_wp2_with fail
        go_roundw
        case rel => exact ⟨k + 1, rfl, by omega, HNN.out, H1.out⟩
        case measure => simp [intOf]; omega
    · have hkn : k = all.length := by omega
      have hv := ansD_no all s r (fun j q hq => HNO.out j q (by have := (List.getElem?_eq_some_iff.1 hq).1; omega) hq)
      rw [HT.out] at hv
      have hge : ¬ (k : Int) < (all.length : Int) := by omega
      have HV := Lib.hid hv
      have H1 := Lib.hid hst
      clear hst hv hkn HNO HC0
      go_wp2_with fail
      go_ret
      rw [HV.out]
      exact ⟨A, c, L, rfl, HA.out, St.mid (B := [_]) H1.out⟩
end
end
end Go.Proofs.YtjcekmmieihllaaDoor
