/- The document's slot: Read: walk. -/
import Derived.Test.YtpjfmgifddoppaaDoorRcE
import Derived.Test.YtpjfmgifddoppaaDoorSrd
import Derived.Test.YtpjfmgifddoppaaDoorEnds
import Derived.Test.YtpjfmgifddoppaaDoorSlotB
import Derived.Test.YtpjfmgifddoppaaDoorQtail
namespace Go.Proofs.YtpjfmgifddoppaaDoor
set_option linter.unusedVariables false
set_option linter.unusedSimpArgs false
open Go.RowKit Go.Lib

section
variable {P : Program} {W w : World} {I : Nat → Option Obj} {F : List (Nat × Obj)}
/-- A store into a block of ours, and a build, as steps of a region that draws its order. -/
theorem step_store_st {ops : Array Oper} {o : Oper} {a : Act} {K : Act → World → Prop} {Q : Exit → Act → World → Prop} {E : Prop} (hgd : o.guard = none) (ty : TypeId) (x y : Operand) (ho : o.op = .store ty x y) {g off : Nat} (cells : Array Value) (hx : a.eval x = .pointer (some ⟨g, off, none⟩)) (hy : a.eval y = .agg cells)
    {cs : Array Value} {t : TypeId} (hst : St W w I ((g, .cells cs t (0, 0)) :: F)) (hfit : off + cells.size ≤ cs.size) (hi : (P.info? ty).map (·.size) = some cells.size) (h1 : cells.all (·.oneCell') = true)
    (h : ∀ w', St W w' I ((g, .cells (setMany cs off cells.toList) t (0, 0)) :: F) → K (a.put o.dst undef) w') : if Region.wanted o (yielded ops a.tmps) = true then o.wp P a w K Q else E := by
  rw [if_pos (by simp [Region.wanted, hgd])]
  exact wp_store_mid ty x y ho g off cells hx hy (fun j hj => ⟨by rw [hst.cell (g := g) (cs := cs) (t := t) (fr := (0, 0)) (by simp)]; simp; omega, hst.frozen (g := g) (cs := cs) (t := t) (by simp) _⟩) hi h1 (h _ (St.setCells _ _ _ _ hst))
theorem step_build {ops : Array Oper} {o : Oper} {a : Act} {K : Act → World → Prop} {Q : Exit → Act → World → Prop} {E : Prop} (hgd : o.guard = none) (t : TypeId) (ps : Array (Nat × Operand)) (ho : o.op = .build t ps)
    (vs : Array (Nat × Value)) (hvs : (ps.map fun (i, x) => (i, a.eval x)) = vs) {v : Value} (hr : (Instr.build t vs).run P w = .ok v w) (h : K (a.put o.dst v) w) : if Region.wanted o (yielded ops a.tmps) = true then o.wp P a w K Q else E := by
  rw [if_pos (by simp [Region.wanted, hgd])]
  subst hvs
  unfold Oper.wp execOp
  simp only [ho, Sem.run_bind, hr, Result.andThen_ok]
  exact h
end
theorem leV_take (bs : List UInt8) (k : Nat) (b : UInt8) (h : bs[k]? = some b) : leV (bs.take (k + 1)) = leV (bs.take k) + b.toNat * 256 ^ k := by
  have hk := (List.getElem?_eq_some_iff.1 h).1
  rw [List.take_add_one, h, leV_append]
  have : (bs.take k).length = k := by simp; omega
  rw [this]
  simp [leV, Nat.mul_comm]
theorem leV_take_lt (bs : List UInt8) (k : Nat) : leV (bs.take k) < 256 ^ k := Nat.lt_of_lt_of_le (leV_lt _) (Nat.pow_le_pow_right (by omega) (by simp; omega))
def padd (ds : List UInt8) (j : Nat) : List UInt8 := ds.take j ++ List.replicate (32 - j) 0
theorem padd_len (ds : List UInt8) (h : ds.length = 32) (j : Nat) (hj : j ≤ 32) : (padd ds j).length = 32 := by simp [padd]; omega
theorem padd_zero (ds : List UInt8) : padd ds 0 = zeros32 := by simp [padd, zeros32]
theorem padd_all (ds : List UInt8) (h : ds.length = 32) : padd ds 32 = ds := by
  unfold padd
  rw [List.take_of_length_le (by omega)]
  simp
theorem padd_set (ds : List UInt8) (h : ds.length = 32) (j : Nat) (b : UInt8) (hb : ds[j]? = some b) : (padd ds j).set j b = padd ds (j + 1) := by
  have hj := (List.getElem?_eq_some_iff.1 hb).1
  unfold padd
  rw [List.set_append_right _ _ (by simp; omega), show j - (ds.take j).length = 0 by simp; omega, List.take_add_one, hb, show 32 - j = (32 - (j + 1)) + 1 by omega, List.replicate_succ, List.set_cons_zero]
  simp
theorem Slt.setd (s : Slt) (j : Nat) (x : UInt8) : s.cells.setIfInBounds (4 + j) (bval x) = ({ s with dig := s.dig.set j x } : Slt).cells := by
  unfold Slt.cells
  apply Array.toList_inj.1
  rw [Array.toList_setIfInBounds, show 4 + j = j + 1 + 1 + 1 + 1 by omega]
  simp
theorem sz_sum (bs : List UInt8) (h : bs.length = 46) : leV ((bs.drop 10).take 4) = (bs.getD 10 0).toNat + 256 * (bs.getD 11 0).toNat + 65536 * (bs.getD 12 0).toNat + 16777216 * (bs.getD 13 0).toNat := by
  obtain ⟨x0, x1, x2, x3, e⟩ : ∃ x0 x1 x2 x3, (bs.drop 10).take 4 = [x0, x1, x2, x3] := by
    have hl : ((bs.drop 10).take 4).length = 4 := by rw [List.length_take, List.length_drop]; omega
    match hm : (bs.drop 10).take 4, hl with
    | [x0, x1, x2, x3], _ => exact ⟨x0, x1, x2, x3, rfl⟩
  have g : ∀ i, i < 4 → bs.getD (10 + i) 0 = ((bs.drop 10).take 4).getD i 0 := fun i hi => by
    simp only [List.getD_eq_getElem?_getD, List.getElem?_take, List.getElem?_drop, if_pos hi]
  have g0 := g 0 (by omega)
  have g1 := g 1 (by omega)
  have g2 := g 2 (by omega)
  have g3 := g 3 (by omega)
  rw [e] at g0 g1 g2 g3 ⊢
  simp only [Nat.add_zero] at g0
  rw [g0, g1, g2, g3]
  simp [leV]
  omega
section
variable {W w : World} {I : Nat → Option Obj} {F : List (Nat × Obj)} {g : Nat} {s : Rs}
theorem run_build_slot2 (st tr : Int) (w : World) :
    (Instr.build 26 #[(0, .int .i64 st), (1, .int .i64 tr)]).run Tryd.prog w = .ok (.agg (⟨st, tr, 0, 0, zeros32⟩ : Slt).cells) w := by kernel_rfl
/-- What Read leaves. -/
def SsPost (W : World) (I : Nat → Option Obj) (F : List (Nat × Obj)) (g : Nat) (r : (Slt × Int) × Rs) (e : Ending) (w' : World) : Prop := e = .returned (.tuple #[.agg r.1.1.cells, .int .i64 r.1.2]) ∧ SScE W w' I g r.2 F
set_option maxRecDepth 100000 in
set_option maxHeartbeats 8000000 in
theorem ref_read (h : SScE W w I g s F) : Calls Tryd.prog 38 #[.pointer (some ⟨g, 0, none⟩)] w (SsPost W I F g (rdS s)) := by
  have hlen := tk_len 46 s
  have hsome : ∀ r, (tk 46 s).2 = some r → (tk 46 s).1.length = 46 := fun r hr => (tk_some hr).2
  have hrd := rdS.eq_1 s
  obtain ⟨A, n, c, x, hr, hst⟩ := h
  obtain ⟨b2, hb2⟩ : ∃ b, w.heap.size = b := ⟨_, rfl⟩
  have h1 := (hst.alloc (.cells #[.int .i64 0, .int .i64 0, .int .u64 0, .int .i64 0, .int .u8 0, .int .u8 0, .int .u8 0, .int .u8 0, .int .u8 0, .int .u8 0, .int .u8 0, .int .u8 0, .int .u8 0, .int .u8 0, .int .u8 0, .int .u8 0, .int .u8 0, .int .u8 0, .int .u8 0, .int .u8 0, .int .u8 0, .int .u8 0, .int .u8 0, .int .u8 0, .int .u8 0, .int .u8 0, .int .u8 0, .int .u8 0, .int .u8 0, .int .u8 0, .int .u8 0, .int .u8 0, .int .u8 0, .int .u8 0, .int .u8 0, .int .u8 0] 26)).perm (List.Perm.swap _ _ _)
  rw [hb2] at h1
  have kR := rrawE ⟨_, _, _, _, hr, h1⟩ 46 (by omega)
  obtain ⟨Y, hY⟩ : ∃ Y, rdS s = Y := ⟨_, rfl⟩
  rw [hY] at hrd ⊢
  obtain ⟨bs, hbs⟩ : ∃ bs, (tk 46 s).1 = bs := ⟨_, rfl⟩
  obtain ⟨s', hs'⟩ : ∃ s', (tk 46 s).2 = s' := ⟨_, rfl⟩
  rw [hbs] at hlen hsome kR hrd
  rw [hs'] at hsome kR hrd
  have zl : zS.cells = #[.int .i64 0, .int .i64 0, .int .u64 0, .int .i64 0, .int .u8 0, .int .u8 0, .int .u8 0, .int .u8 0, .int .u8 0, .int .u8 0, .int .u8 0, .int .u8 0, .int .u8 0, .int .u8 0, .int .u8 0, .int .u8 0, .int .u8 0, .int .u8 0, .int .u8 0, .int .u8 0, .int .u8 0, .int .u8 0, .int .u8 0, .int .u8 0, .int .u8 0, .int .u8 0, .int .u8 0, .int .u8 0, .int .u8 0, .int .u8 0, .int .u8 0, .int .u8 0, .int .u8 0, .int .u8 0, .int .u8 0, .int .u8 0] := bare_lit 0 ▸ rfl
  have fz := (slot_fit (s := zS) (t := zS) zeros_len zeros_len).1
  have mz := (slot_fit (s := zS) (t := zS) zeros_len zeros_len).2
  have iz := slot_info (s := zS) zeros_len
  have oz := Slt.one zS
  rw [zl] at fz mz iz oz
  have FZ := Lib.hid fz; have MZ := Lib.hid mz; have IZ := Lib.hid iz; have OZ := Lib.hid oz; have ZL := Lib.hid zl
  have KR := Lib.hid kR; have HS := Lib.hid hsome; have HRD := Lib.hid hrd; have HB2 := Lib.hid hb2
  clear h1 hst hr kR hsome hrd hY hbs hs' fz mz iz oz zl hb2
  go_enter Tryd.func38, Tryd.ntmps38
  go_wp2_with fail
  rw [HB2.out]
  refine KR.out.mono ?_
  rintro e w1 ⟨A5, c5, L5, rfl, hr5, A6, n6, c6, x6, hrd6, h6⟩
  obtain ⟨q0, q1, f0, f1⟩ := SScE.facts h6
  have HR5 := Lib.hid hr5; have HRD6 := Lib.hid hrd6
  clear hr5 KR HB2
  cases s' with
  | none =>
    obtain rfl : x6 = 51 := hrd6.1
    have h7 := (h6.perm (L' := (b2, .cells #[.int .i64 0, .int .i64 0, .int .u64 0, .int .i64 0, .int .u8 0, .int .u8 0, .int .u8 0, .int .u8 0, .int .u8 0, .int .u8 0, .int .u8 0, .int .u8 0, .int .u8 0, .int .u8 0, .int .u8 0, .int .u8 0, .int .u8 0, .int .u8 0, .int .u8 0, .int .u8 0, .int .u8 0, .int .u8 0, .int .u8 0, .int .u8 0, .int .u8 0, .int .u8 0, .int .u8 0, .int .u8 0, .int .u8 0, .int .u8 0, .int .u8 0, .int .u8 0, .int .u8 0, .int .u8 0, .int .u8 0, .int .u8 0] 26 (0, 0)) :: ((g, .cells #[.slice A6 n6 c6, .int .i64 51] 51 (0, 0)) :: (L5 ++ F))) (by
      refine List.Perm.trans ?_ (List.Perm.swap _ _ _)
      refine List.Perm.cons _ ?_
      exact List.perm_middle))
    have HD := Lib.hid h7.drew1
    clear h6 h7 hrd6 HR5
    have q2 : w1.drew.cell? ⟨g, 1, none⟩ = some (.int .i64 51) := q1
    go_wp2_with fail
    refine wp_region_held_drew (S := fun v => v.cell? ⟨g, 1, none⟩ = some (.int .i64 51)) (by kernel_rfl) q2 (fun hHeld => ?_)
    refine wpAnyH_take (i := 0) (oi := ?_) (v := ?_) ?_ ?_ ?_ ?_ ?_ ?_ ?_ ?_
    rotate_left 2
    · (simp only [List.getElem?_toArray, List.getElem?_cons_succ, List.getElem?_cons_zero]; exact rfl)
    · kernel_rfl
    · kernel_rfl
    · kernel_rfl
    · exact fun _ _ _ h => h
    · first | (refine Or.inl ⟨by rfl, ?_⟩; intro w hSw; (try dsimp only at hSw); go_simp; try with_reducible rfl) | (refine Or.inr ⟨by rfl, ?_⟩; rfl)
    · assumption
    try simp only [Act.put, List.setIfInBounds_toArray, List.set_cons_zero, List.set_cons_succ]
    refine wpAnyH_take (i := 1) (oi := ?_) (v := ?_) ?_ ?_ ?_ ?_ ?_ ?_ ?_ ?_
    rotate_left 2
    · (simp only [List.getElem?_toArray, List.getElem?_cons_succ, List.getElem?_cons_zero]; exact rfl)
    · kernel_rfl
    · kernel_rfl
    · kernel_rfl
    · exact fun _ _ _ h => h
    · first | (refine Or.inl ⟨by rfl, ?_⟩; intro w hSw; (try dsimp only at hSw); go_simp; try with_reducible rfl) | (refine Or.inr ⟨by rfl, ?_⟩; rfl)
    · assumption
    try simp only [Act.put, List.setIfInBounds_toArray, List.set_cons_zero, List.set_cons_succ]
    refine wpAnyH_take (i := 2) (oi := ?_) (v := ?_) ?_ ?_ ?_ ?_ ?_ ?_ ?_ ?_
    rotate_left 2
    · (simp only [List.getElem?_toArray, List.getElem?_cons_succ, List.getElem?_cons_zero]; exact rfl)
    · kernel_rfl
    · kernel_rfl
    · kernel_rfl
    · exact fun _ _ _ h => h
    · first | (refine Or.inl ⟨by rfl, ?_⟩; intro w hSw; (try dsimp only at hSw); go_simp; try with_reducible rfl) | (refine Or.inr ⟨by rfl, ?_⟩; rfl)
    · assumption
    try simp only [Act.put, List.setIfInBounds_toArray, List.set_cons_zero, List.set_cons_succ]
    refine wpAnyH_take (i := 3) (oi := ?_) (v := ?_) ?_ ?_ ?_ ?_ ?_ ?_ ?_ ?_
    rotate_left 2
    · (simp only [List.getElem?_toArray, List.getElem?_cons_succ, List.getElem?_cons_zero]; exact rfl)
    · kernel_rfl
    · kernel_rfl
    · kernel_rfl
    · exact fun _ _ _ h => h
    · first | (refine Or.inl ⟨by rfl, ?_⟩; intro w hSw; (try dsimp only at hSw); go_simp; try with_reducible rfl) | (refine Or.inr ⟨by rfl, ?_⟩; rfl)
    · assumption
    try simp only [Act.put, List.setIfInBounds_toArray, List.set_cons_zero, List.set_cons_succ]
    refine wpAnyH_take (i := 4) (oi := ?_) (v := ?_) ?_ ?_ ?_ ?_ ?_ ?_ ?_ ?_
    rotate_left 2
    · (simp only [List.getElem?_toArray, List.getElem?_cons_succ, List.getElem?_cons_zero]; exact rfl)
    · kernel_rfl
    · kernel_rfl
    · kernel_rfl
    · exact fun _ _ _ h => h
    · first | ((refine Or.inl ⟨by rfl, ?_⟩; intro w hSw; (try dsimp only at hSw); go_simp; try with_reducible rfl)) | (refine Or.inr ⟨by rfl, ?_⟩; rfl)
    · assumption
    try simp only [Act.put, List.setIfInBounds_toArray, List.set_cons_zero, List.set_cons_succ]
    refine wpAnyH_ready (rs := [5]) (by kernel_rfl) (by simp) ?_
    refine AllReadyH.cons (o := ?_) ?_ (fun K hK => ?_) ?_
    rotate_left 1
    · (simp only [List.getElem?_toArray, List.getElem?_cons_succ, List.getElem?_cons_zero]; exact rfl)
    · ((refine step_store_st rfl 26 (.tmp 2) (.tmp 16) rfl (g := b2) (off := 0) #[.int .i64 0, .int .i64 0, .int .u64 0, .int .i64 0, .int .u8 0, .int .u8 0, .int .u8 0, .int .u8 0, .int .u8 0, .int .u8 0, .int .u8 0, .int .u8 0, .int .u8 0, .int .u8 0, .int .u8 0, .int .u8 0, .int .u8 0, .int .u8 0, .int .u8 0, .int .u8 0, .int .u8 0, .int .u8 0, .int .u8 0, .int .u8 0, .int .u8 0, .int .u8 0, .int .u8 0, .int .u8 0, .int .u8 0, .int .u8 0, .int .u8 0, .int .u8 0, .int .u8 0, .int .u8 0, .int .u8 0, .int .u8 0] rfl rfl HD.out FZ.out IZ.out OZ.out ?_; intro w9 h9; have q9 : w9.cell? ⟨g, 1, none⟩ = some (.int .i64 51) := h9.cell (g := g) (cs := #[.slice A6 n6 c6, .int .i64 51]) (t := 51) (fr := (0, 0)) (by simp) 1; dsimp only))
      refine hK.out _ _ ?_ (fun hHeld => ?_)
      · (try dsimp only) <;> (first | exact q9 | exact q2)
      clear hK K
      try simp only [Act.put, List.setIfInBounds_toArray, List.set_cons_zero, List.set_cons_succ]
      refine wpAnyH_take (i := 6) (oi := ?_) (v := ?_) ?_ ?_ ?_ ?_ ?_ ?_ ?_ ?_
      rotate_left 2
      · (simp only [List.getElem?_toArray, List.getElem?_cons_succ, List.getElem?_cons_zero]; exact rfl)
      · kernel_rfl
      · kernel_rfl
      · kernel_rfl
      · exact fun _ _ _ h => h
      · first | (refine Or.inl ⟨by rfl, ?_⟩; intro w hSw; (try dsimp only at hSw); go_simp; try with_reducible rfl) | (refine Or.inr ⟨by rfl, ?_⟩; rfl)
      · assumption
      try simp only [Act.put, List.setIfInBounds_toArray, List.set_cons_zero, List.set_cons_succ]
      refine wpAnyH_done (by kernel_rfl) ?_ _
      rw [MZ.out, ← ZL.out] at h9
      have H9 := Lib.hid h9
      clear h9 HD
      go_wp2_with fail
      refine bodyPost_ret (slot_ret (F := F) H9.out zeros_len rfl rfl rfl) rfl ?_
      have hY : Y = ((zS, 51), none) := HRD.out
      rw [hY]
      exact ⟨rfl, A6, n6, c6, 51, HRD6.out, St.mid (A := [_]) (B := L5) (St.weaken (A := [_]) H9.out)⟩
    exact AllReadyH.nil
  | some r =>
    obtain rfl : x6 = 0 := hrd6.1
    have hl := HS.out r rfl
    obtain ⟨gs, off, cur, hA5, hL5, hcur⟩ : ∃ gs off cur, A5 = some ⟨gs, off, none⟩ ∧ L5 = [(gs, .cells cur 5 (0, 0))] ∧ ∀ j, j < 46 → cur[off + j]? = some (.int .u8 ((bs.getD j 0).toNat : Int)) := by
      have hj0 : (bs.map bval)[0]? = some (bval (bs.getD 0 0)) := by
        rw [List.getElem?_map, List.getD_eq_getElem?_getD, List.getElem?_eq_getElem (by omega)]
        rfl
      obtain ⟨gs, off, cap, cur, hv, hL, hcu⟩ := HR5.out.cells hj0
      injection hv with hv1 hv2 hv3
      refine ⟨gs, off, cur, hv1, hL, fun j hj => ?_⟩
      have hj1 : (bs.map bval)[j]? = some (bval (bs.getD j 0)) := by
        rw [List.getElem?_map, List.getD_eq_getElem?_getD, List.getElem?_eq_getElem (by omega)]
        rfl
      obtain ⟨gs', off', cap', cur', hv', hL', hcu'⟩ := HR5.out.cells hj1
      injection hv' with hv1' _ _
      rw [hv1] at hv1'
      injection hv1' with e
      injection e with e1 e2 _
      subst e1; subst e2
      rw [hL] at hL'
      injection hL' with e3 _
      injection e3 with _ e4
      injection e4 with e5 _ _
      subst e5
      exact hcu'
    subst hA5; subst hL5
    rw [hl]
    obtain ⟨G, hG⟩ : ∃ G, G = (gs, Obj.cells cur 5 (0, 0)) :: (g, .cells #[.slice A6 n6 c6, .int .i64 0] 51 (0, 0)) :: (b2, .cells #[.int .i64 0, .int .i64 0, .int .u64 0, .int .i64 0, .int .u8 0, .int .u8 0, .int .u8 0, .int .u8 0, .int .u8 0, .int .u8 0, .int .u8 0, .int .u8 0, .int .u8 0, .int .u8 0, .int .u8 0, .int .u8 0, .int .u8 0, .int .u8 0, .int .u8 0, .int .u8 0, .int .u8 0, .int .u8 0, .int .u8 0, .int .u8 0, .int .u8 0, .int .u8 0, .int .u8 0, .int .u8 0, .int .u8 0, .int .u8 0, .int .u8 0, .int .u8 0, .int .u8 0, .int .u8 0, .int .u8 0, .int .u8 0] 26 (0, 0)) :: F := ⟨_, rfl⟩
    have h7 : St W w1 I G := by rw [hG]; exact h6.perm (List.Perm.swap _ _ _)
    have hgm : (gs, Obj.cells cur 5 (0, 0)) ∈ G := by rw [hG]; exact List.mem_cons_self ..
    have hel : ∀ (v : World) (L : List (Nat × Obj)), St W v I (L ++ G) → ∀ j, j < 46 → v.cell? ⟨gs, off + j, none⟩ = some (.int .u8 ((bs.getD j 0).toNat : Int)) := fun v L hv j hj => (hv.cell (g := gs) (cs := cur) (t := 5) (fr := (0, 0)) (List.mem_append.2 (.inr hgm)) (off + j)).trans (hcur j hj)
    obtain ⟨b5, hb5⟩ : ∃ b, w1.heap.size = b := ⟨_, rfl⟩
    have y0 := hel w1 [] h7 0 (by omega)
    have y1 := hel w1 [] h7 1 (by omega)
    rw [Nat.add_zero] at y0
    have p0 := (bs.getD 0 0).toNat_lt
    have p1 := (bs.getD 1 0).toNat_lt
    obtain ⟨u0, hu0⟩ : ∃ x : Nat, (bs.getD 0 0).toNat = x := ⟨_, rfl⟩
    obtain ⟨u1, hu1⟩ : ∃ x : Nat, (bs.getD 1 0).toNat = x := ⟨_, rfl⟩
    rw [hu0] at y0 p0
    rw [hu1] at y1 p1
    obtain ⟨S0, hS0⟩ : ∃ x, (⟨u0, u1, 0, 0, zeros32⟩ : Slt) = x := ⟨_, rfl⟩
    have hlit : #[.int .i64 (u0 : Int), .int .i64 (u1 : Int), .int .u64 0, .int .i64 0, .int .u8 0, .int .u8 0, .int .u8 0, .int .u8 0, .int .u8 0, .int .u8 0, .int .u8 0, .int .u8 0, .int .u8 0, .int .u8 0, .int .u8 0, .int .u8 0, .int .u8 0, .int .u8 0, .int .u8 0, .int .u8 0, .int .u8 0, .int .u8 0, .int .u8 0, .int .u8 0, .int .u8 0, .int .u8 0, .int .u8 0, .int .u8 0, .int .u8 0, .int .u8 0, .int .u8 0, .int .u8 0, .int .u8 0, .int .u8 0, .int .u8 0, .int .u8 0] = S0.cells := by rw [← hS0]; rfl
    have l0 : S0.dig.length = 32 := by rw [← hS0]; exact zeros_len
    have f1' := (slot_fit (s := zS) (t := S0) zeros_len l0).1
    have e1 := (slot_fit (s := zS) (t := S0) zeros_len l0).2
    rw [ZL.out] at f1' e1
    have i1' := slot_info (s := S0) l0
    have o1' := Slt.one S0
    rw [← hlit] at f1' e1 i1' o1'
    have HLIT := Lib.hid hlit; have G1 := Lib.hid f1'; have E1 := Lib.hid e1; have I1 := Lib.hid i1'; have O1 := Lib.hid o1'
    have HEL := Lib.hid hel; have H7 := Lib.hid h7; have HS0 := Lib.hid hS0; have HG := Lib.hid hG; have HL := Lib.hid hl; have HU0 := Lib.hid hu0; have HU1 := Lib.hid hu1; have HB5 := Lib.hid hb5
    have HA1 := Lib.hid ((h7.drew1).alloc (.cells #[.int .i64 0, .int .i64 0, .int .u64 0, .int .i64 0, .int .u8 0, .int .u8 0, .int .u8 0, .int .u8 0, .int .u8 0, .int .u8 0, .int .u8 0, .int .u8 0, .int .u8 0, .int .u8 0, .int .u8 0, .int .u8 0, .int .u8 0, .int .u8 0, .int .u8 0, .int .u8 0, .int .u8 0, .int .u8 0, .int .u8 0, .int .u8 0, .int .u8 0, .int .u8 0, .int .u8 0, .int .u8 0, .int .u8 0, .int .u8 0, .int .u8 0, .int .u8 0, .int .u8 0, .int .u8 0, .int .u8 0, .int .u8 0] 26)); have HA2 := Lib.hid ((h7.alloc (.cells #[.int .i64 0, .int .i64 0, .int .u64 0, .int .i64 0, .int .u8 0, .int .u8 0, .int .u8 0, .int .u8 0, .int .u8 0, .int .u8 0, .int .u8 0, .int .u8 0, .int .u8 0, .int .u8 0, .int .u8 0, .int .u8 0, .int .u8 0, .int .u8 0, .int .u8 0, .int .u8 0, .int .u8 0, .int .u8 0, .int .u8 0, .int .u8 0, .int .u8 0, .int .u8 0, .int .u8 0, .int .u8 0, .int .u8 0, .int .u8 0, .int .u8 0, .int .u8 0, .int .u8 0, .int .u8 0, .int .u8 0, .int .u8 0] 26)).drew1)
    have z0 : w1.drew.cell? ⟨gs, off, none⟩ = some (.int .u8 (u0 : Int)) ∧ w1.drew.cell? ⟨gs, off + 1, none⟩ = some (.int .u8 (u1 : Int)) := ⟨y0, y1⟩
    have hz9 : ∀ (v : World) (L : List (Nat × Obj)), St W v I (L ++ G) → v.cell? ⟨gs, off, none⟩ = some (.int .u8 (u0 : Int)) ∧ v.cell? ⟨gs, off + 1, none⟩ = some (.int .u8 (u1 : Int)) := fun v L hv => by
      have a := hel v L hv 0 (by omega)
      have b := hel v L hv 1 (by omega)
      rw [Nat.add_zero, hu0] at a
      rw [hu1] at b
      exact ⟨a, b⟩
    have HZ9 := Lib.hid hz9
    have V0 : Hid (IntKind.i64.wrap (u0 : Int) = (u0 : Int)) := Lib.hid (IntWalk.i64_in _ (by omega))
    have V1 : Hid (IntKind.i64.wrap (u1 : Int) = (u1 : Int)) := Lib.hid (IntWalk.i64_in _ (by omega))
    clear hz9
    clear hlit f1' e1 i1' o1' l0 hel h7 h6 hS0 hG hl hgm hcur hu0 hu1 HR5 hrd6 hlen q0 f0 f1 hb5 HS
    go_wp2_with fail
    apply endsA (S := fun w' => St W w' I ((w1.heap.size, .cells S0.cells 26 (0, 0)) :: G))
    case h =>
      refine wp_region_held_drew (S := fun v => v.cell? ⟨gs, off, none⟩ = some (.int .u8 (u0 : Int)) ∧ v.cell? ⟨gs, off + 1, none⟩ = some (.int .u8 (u1 : Int))) (by kernel_rfl) z0 (fun hHeld => ?_)
      refine wpAnyH_take (i := 0) (oi := ?_) (v := ?_) ?_ ?_ ?_ ?_ ?_ ?_ ?_ ?_
      rotate_left 2
      · (simp only [List.getElem?_toArray, List.getElem?_cons_succ, List.getElem?_cons_zero]; exact rfl)
      · kernel_rfl
      · kernel_rfl
      · kernel_rfl
      · exact fun _ _ _ h => h
      · first | (refine Or.inl ⟨by rfl, ?_⟩; intro w hSw; (try dsimp only at hSw); go_simp; try with_reducible rfl) | (refine Or.inr ⟨by rfl, ?_⟩; rfl)
      · assumption
      try simp only [Act.put, List.setIfInBounds_toArray, List.set_cons_zero, List.set_cons_succ]
      try simp only [V0.out, V1.out]
      refine wpAnyH_take (i := 1) (oi := ?_) (v := ?_) ?_ ?_ ?_ ?_ ?_ ?_ ?_ ?_
      rotate_left 2
      · (simp only [List.getElem?_toArray, List.getElem?_cons_succ, List.getElem?_cons_zero]; exact rfl)
      · kernel_rfl
      · kernel_rfl
      · kernel_rfl
      · exact fun _ _ _ h => h
      · first | (refine Or.inl ⟨by rfl, ?_⟩; intro w hSw; (try dsimp only at hSw); go_simp; try with_reducible rfl) | (refine Or.inr ⟨by rfl, ?_⟩; rfl)
      · assumption
      try simp only [Act.put, List.setIfInBounds_toArray, List.set_cons_zero, List.set_cons_succ]
      try simp only [V0.out, V1.out]
      refine wpAnyH_take (i := 2) (oi := ?_) (v := ?_) ?_ ?_ ?_ ?_ ?_ ?_ ?_ ?_
      rotate_left 2
      · (simp only [List.getElem?_toArray, List.getElem?_cons_succ, List.getElem?_cons_zero]; exact rfl)
      · kernel_rfl
      · kernel_rfl
      · kernel_rfl
      · exact fun _ _ _ h => h
      · first | ((refine Or.inl ⟨by rfl, ?_⟩; intro w hSw; obtain ⟨hS1, hS2⟩ := hSw; go_simp; try with_reducible rfl)) | (refine Or.inr ⟨by rfl, ?_⟩; rfl)
      · assumption
      try simp only [Act.put, List.setIfInBounds_toArray, List.set_cons_zero, List.set_cons_succ]
      try simp only [V0.out, V1.out]
      refine wpAnyH_take (i := 3) (oi := ?_) (v := ?_) ?_ ?_ ?_ ?_ ?_ ?_ ?_ ?_
      rotate_left 2
      · (simp only [List.getElem?_toArray, List.getElem?_cons_succ, List.getElem?_cons_zero]; exact rfl)
      · kernel_rfl
      · kernel_rfl
      · kernel_rfl
      · exact fun _ _ _ h => h
      · first | (refine Or.inl ⟨by rfl, ?_⟩; intro w hSw; (try dsimp only at hSw); go_simp; try with_reducible rfl) | (refine Or.inr ⟨by rfl, ?_⟩; rfl)
      · assumption
      try simp only [Act.put, List.setIfInBounds_toArray, List.set_cons_zero, List.set_cons_succ]
      try simp only [V0.out, V1.out]
      refine wpAnyH_take (i := 4) (oi := ?_) (v := ?_) ?_ ?_ ?_ ?_ ?_ ?_ ?_ ?_
      rotate_left 2
      · (simp only [List.getElem?_toArray, List.getElem?_cons_succ, List.getElem?_cons_zero]; exact rfl)
      · kernel_rfl
      · kernel_rfl
      · kernel_rfl
      · exact fun _ _ _ h => h
      · first | (refine Or.inl ⟨by rfl, ?_⟩; intro w hSw; (try dsimp only at hSw); go_simp; try with_reducible rfl) | (refine Or.inr ⟨by rfl, ?_⟩; rfl)
      · assumption
      try simp only [Act.put, List.setIfInBounds_toArray, List.set_cons_zero, List.set_cons_succ]
      try simp only [V0.out, V1.out]
      refine wpAnyH_take (i := 5) (oi := ?_) (v := ?_) ?_ ?_ ?_ ?_ ?_ ?_ ?_ ?_
      rotate_left 2
      · (simp only [List.getElem?_toArray, List.getElem?_cons_succ, List.getElem?_cons_zero]; exact rfl)
      · kernel_rfl
      · kernel_rfl
      · kernel_rfl
      · exact fun _ _ _ h => h
      · first | (refine Or.inl ⟨by rfl, ?_⟩; intro w hSw; (try dsimp only at hSw); go_simp; try with_reducible rfl) | (refine Or.inr ⟨by rfl, ?_⟩; rfl)
      · assumption
      try simp only [Act.put, List.setIfInBounds_toArray, List.set_cons_zero, List.set_cons_succ]
      try simp only [V0.out, V1.out]
      refine wpAnyH_take (i := 6) (oi := ?_) (v := ?_) ?_ ?_ ?_ ?_ ?_ ?_ ?_ ?_
      rotate_left 2
      · (simp only [List.getElem?_toArray, List.getElem?_cons_succ, List.getElem?_cons_zero]; exact rfl)
      · kernel_rfl
      · kernel_rfl
      · kernel_rfl
      · exact fun _ _ _ h => h
      · first | ((refine Or.inl ⟨by rfl, ?_⟩; intro w hSw; obtain ⟨hS1, hS2⟩ := hSw; go_simp; try with_reducible rfl)) | (refine Or.inr ⟨by rfl, ?_⟩; rfl)
      · assumption
      try simp only [Act.put, List.setIfInBounds_toArray, List.set_cons_zero, List.set_cons_succ]
      try simp only [V0.out, V1.out]
      refine wpAnyH_take (i := 7) (oi := ?_) (v := ?_) ?_ ?_ ?_ ?_ ?_ ?_ ?_ ?_
      rotate_left 2
      · (simp only [List.getElem?_toArray, List.getElem?_cons_succ, List.getElem?_cons_zero]; exact rfl)
      · kernel_rfl
      · kernel_rfl
      · kernel_rfl
      · exact fun _ _ _ h => h
      · first | (refine Or.inl ⟨by rfl, ?_⟩; intro w hSw; (try dsimp only at hSw); go_simp; try with_reducible rfl) | (refine Or.inr ⟨by rfl, ?_⟩; rfl)
      · assumption
      try simp only [Act.put, List.setIfInBounds_toArray, List.set_cons_zero, List.set_cons_succ]
      try simp only [V0.out, V1.out]
      refine wpAnyH_take (i := 8) (oi := ?_) (v := ?_) ?_ ?_ ?_ ?_ ?_ ?_ ?_ ?_
      rotate_left 2
      · (simp only [List.getElem?_toArray, List.getElem?_cons_succ, List.getElem?_cons_zero]; exact rfl)
      · kernel_rfl
      · kernel_rfl
      · kernel_rfl
      · exact fun _ _ _ h => h
      · first | (refine Or.inl ⟨by rfl, ?_⟩; intro w hSw; (try dsimp only at hSw); go_simp; try with_reducible rfl) | (refine Or.inr ⟨by rfl, ?_⟩; rfl)
      · assumption
      try simp only [Act.put, List.setIfInBounds_toArray, List.set_cons_zero, List.set_cons_succ]
      try simp only [V0.out, V1.out]
      refine wpAnyH_ready (rs := [9]) (by kernel_rfl) (by simp) ?_
      refine AllReadyH.cons (o := ?_) ?_ (fun K hK => ?_) ?_
      rotate_left 1
      · (simp only [List.getElem?_toArray, List.getElem?_cons_succ, List.getElem?_cons_zero]; exact rfl)
      · go_simp
        refine hK.out _ _ ?_ (fun hHeld => ?_)
        · (try dsimp only) <;> (first | exact z0 | exact z9 | exact ⟨cell_old z0.1, cell_old z0.2⟩)
        clear hK K
        try simp only [Act.put, List.setIfInBounds_toArray, List.set_cons_zero, List.set_cons_succ]
        try simp only [V0.out, V1.out]
        refine wpAnyH_ready (rs := [10]) (by kernel_rfl) (by simp) ?_
        refine AllReadyH.cons (o := ?_) ?_ (fun K hK => ?_) ?_
        rotate_left 1
        · (simp only [List.getElem?_toArray, List.getElem?_cons_succ, List.getElem?_cons_zero]; exact rfl)
        · ((refine step_store_st rfl 26 (.tmp 5) (.tmp 29) rfl (g := w1.heap.size) (off := 0) #[.int .i64 (u0 : Int), .int .i64 (u1 : Int), .int .u64 0, .int .i64 0, .int .u8 0, .int .u8 0, .int .u8 0, .int .u8 0, .int .u8 0, .int .u8 0, .int .u8 0, .int .u8 0, .int .u8 0, .int .u8 0, .int .u8 0, .int .u8 0, .int .u8 0, .int .u8 0, .int .u8 0, .int .u8 0, .int .u8 0, .int .u8 0, .int .u8 0, .int .u8 0, .int .u8 0, .int .u8 0, .int .u8 0, .int .u8 0, .int .u8 0, .int .u8 0, .int .u8 0, .int .u8 0, .int .u8 0, .int .u8 0, .int .u8 0, .int .u8 0] rfl rfl (by first | exact HA1.out | exact HA2.out) G1.out I1.out O1.out ?_; intro w9 h9; rw [E1.out, HLIT.out] at h9; have z9 := HZ9.out w9 [_] h9; dsimp only))
          refine hK.out _ _ ?_ (fun hHeld => ?_)
          · (try dsimp only) <;> (first | exact z0 | exact z9 | exact ⟨cell_old z0.1, cell_old z0.2⟩)
          clear hK K
          try simp only [Act.put, List.setIfInBounds_toArray, List.set_cons_zero, List.set_cons_succ]
          try simp only [V0.out, V1.out]
          refine wpAnyH_done (by kernel_rfl) ?_ _
          exact ⟨rfl, h9⟩
        exact AllReadyH.nil
      exact AllReadyH.nil
    case k =>
    intro w2 h2
    rw [HB5.out] at h2
    try rw [HB5.out]
    try simp only [V0.out, V1.out]
    clear HA1 HA2 HZ9 V0 V1 HLIT G1 E1 I1 O1 y0 y1 z0
    have HB := HB5
    go_wp2_with fail
    try rw [HB.out]
    clear HB HB5
    have h2s : St W w2 I ((b5, .cells (⟨u0, u1, ((leV ((bs.drop 2).take 0) : Nat) : Int), 0, zeros32⟩ : Slt).cells 26 (0, 0)) :: G) := by
      have e : (⟨u0, u1, ((leV ((bs.drop 2).take 0) : Nat) : Int), 0, zeros32⟩ : Slt) = S0 := by rw [← HS0.out]; rfl
      rw [e]
      exact h2
    have H2 := Lib.hid h2s
    clear h2 h2s
    go_loopw [6, 7] (fun wt i wr => ∃ j : Nat, i = .int .i64 j ∧ j ≤ 8 ∧ (j < 8 → wt = .int .u64 (256 ^ j : Nat)) ∧ (∃ z, wt = .int .u64 z) ∧ St W wr I ((b5, .cells (⟨u0, u1, ((leV ((bs.drop 2).take j) : Nat) : Int), 0, zeros32⟩ : Slt).cells 26 (0, 0)) :: G)) (fun _ i _ => 8 - (intOf i).toNat)
    case atStart => exact ⟨0, rfl, by omega, fun _ => rfl, ⟨_, rfl⟩, H2.out⟩
    case round =>
      obtain ⟨j, rfl, hj, hwt, ⟨z, rfl⟩, hst⟩ := hrel
      clear H2
      have hl := HL.out
      by_cases hj8 : j < 8
      · have hwt := hwt hj8
        injection hwt with _ hwt
        subst hwt
        have d0 := HEL.out wr [_] hst (2 + j) (by omega)
        have e0 : wr.cell? ⟨b5, 2, none⟩ = some (.int .u64 ((leV ((bs.drop 2).take j) : Nat) : Int)) := (hst.cell (g := b5) (t := 26) (fr := (0, 0)) (List.mem_cons_self ..) 2).trans (Slt.at2 _)
        have f0 := hst.frozen (g := b5) (t := 26) (List.mem_cons_self ..) 2
        have hbj : (bs.drop 2)[j]? = some (bs.getD (2 + j) 0) := by rw [List.getElem?_drop, List.getD_eq_getElem?_getD, List.getElem?_eq_getElem (by omega)]; rfl
        have hs := leV_take (bs.drop 2) j _ hbj
        have hl1 := leV_take_lt (bs.drop 2) (j + 1)
        have hp : 256 ^ (j + 1) ≤ 18446744073709551616 := by
          have := Nat.pow_le_pow_right (show 0 < 256 by omega) (show j + 1 ≤ 8 by omega)
          have h8 : (256 : Nat) ^ 8 = 18446744073709551616 := by decide
          omega
        have hps : 256 ^ (j + 1) = 256 ^ j * 256 := Nat.pow_succ ..
        have hp7 : j + 1 < 8 → 256 ^ j * 256 ≤ 72057594037927936 := fun h => by
          have := Nat.pow_le_pow_right (show 0 < 256 by omega) (show j + 1 ≤ 7 by omega)
          have h7 : (256 : Nat) ^ 7 = 72057594037927936 := by decide
          omega
        have hset : ∀ (m : Nat) (v : Int), v = ((leV ((bs.drop 2).take (j + 1)) : Nat) : Int) → St W ((wr.drewN m).setCell ⟨b5, 2, none⟩ (.int .u64 v)) I ((b5, .cells (⟨u0, u1, ((leV ((bs.drop 2).take (j + 1)) : Nat) : Int), 0, zeros32⟩ : Slt).cells 26 (0, 0)) :: G) := fun m v hv => by
          subst hv
          have h9 := St.set (A := []) (hst.drew m) 2 (.int .u64 ((leV ((bs.drop 2).take (j + 1)) : Nat) : Int))
          rw [Slt.set2] at h9
          exact h9
        have hbt := (bs.getD (2 + j) 0).toNat_lt
        generalize bs.getD (2 + j) 0 = bb at *
        obtain ⟨P, hP⟩ : ∃ P, 256 ^ j = P := ⟨_, rfl⟩
        obtain ⟨X, hX⟩ : ∃ X, leV ((bs.drop 2).take j) = X := ⟨_, rfl⟩
        obtain ⟨Z, hZ⟩ : ∃ Z, leV ((bs.drop 2).take (j + 1)) = Z := ⟨_, rfl⟩
        rw [hP] at hs hps hp7 ⊢
        rw [hX] at hs e0
        rw [hZ] at hs hl1 hset
        have hmul : (P : Int) * (bb.toNat : Int) = ((P * bb.toNat : Nat) : Int) := by simp
        have hc : bb.toNat * P = P * bb.toNat := Nat.mul_comm _ _
        rw [hc] at hs
        generalize hQ : P * bb.toNat = Q at *
        have hQ64 : (Q : Int) < 18446744073709551616 := by omega
        have hXQ : (X : Int) + (Q : Int) < 18446744073709551616 := by omega
        have hbt0 : (0 : Int) ≤ (bb.toNat : Int) := by omega
        have hjI : (j : Int) < 8 := by omega
        have HSET := Lib.hid hset; have HQ := Lib.hid hs; have HP := Lib.hid hP; have HPS := Lib.hid hps; have HZ := Lib.hid hZ; have HP7 := Lib.hid hp7
        clear hset hst hs hl1 hp hps hbj hP hX hZ hc hl hQ hp7
        go_wp2_with fail
        refine wp_region_quiet_tail 12 (by kernel_rfl) (by kernel_rfl) ?_
        simp only [List.take_succ_cons, List.take_zero, List.drop_succ_cons, List.drop_zero]
        repeat (go_big_quiet_step (fail))
        refine wpQuiet_nil ?_
        rintro _ ⟨nq, rfl⟩
        have e0' : (wr.drewN nq).cell? ⟨b5, 2, none⟩ = some (.int .u64 (X : Int)) := e0
        have f0' : (wr.drewN nq).frozen? ⟨b5, 2, none⟩ = false := f0
        clear e0 f0 d0
        go_wp2_with fail
        refine ⟨⟨j + 1, by go_num, by omega, fun h8 => ?_, ⟨_, rfl⟩, by rw [HZ.out]; exact HSET.out nq ((X : Int) + (Q : Int)) (by have := HQ.out; omega)⟩, by simp [intOf]; omega⟩
        rw [HPS.out]
        have := HP7.out h8
        rw [show (P : Int) * 256 = ((P * 256 : Nat) : Int) by simp, IntWalk.u64_in _ (by omega)]
      · obtain rfl : j = 8 := by omega
        obtain ⟨V, hV⟩ : ∃ V, leV ((bs.drop 2).take 8) = V := ⟨_, rfl⟩
        rw [hV] at hst
        have c10 := HEL.out wr [_] hst 10 (by omega)
        have c11 := HEL.out wr [_] hst 11 (by omega)
        have c12 := HEL.out wr [_] hst 12 (by omega)
        have c13 := HEL.out wr [_] hst 13 (by omega)
        have hsz := sz_sum bs hl
        have z10 := (bs.getD 10 0).toNat_lt
        have z11 := (bs.getD 11 0).toNat_lt
        have z12 := (bs.getD 12 0).toNat_lt
        have z13 := (bs.getD 13 0).toNat_lt
        obtain ⟨Z, hZ⟩ : ∃ Z, leV ((bs.drop 10).take 4) = Z := ⟨_, rfl⟩
        rw [hZ] at hsz
        obtain ⟨t0, ht0⟩ : ∃ x : Nat, (bs.getD 10 0).toNat = x := ⟨_, rfl⟩
        obtain ⟨t1, ht1⟩ : ∃ x : Nat, (bs.getD 11 0).toNat = x := ⟨_, rfl⟩
        obtain ⟨t2, ht2⟩ : ∃ x : Nat, (bs.getD 12 0).toNat = x := ⟨_, rfl⟩
        obtain ⟨t3, ht3⟩ : ∃ x : Nat, (bs.getD 13 0).toNat = x := ⟨_, rfl⟩
        rw [ht0] at c10 z10 hsz
        rw [ht1] at c11 z11 hsz
        rw [ht2] at c12 z12 hsz
        rw [ht3] at c13 z13 hsz
        have e3 : wr.cell? ⟨b5, 3, none⟩ = some (.int .i64 0) := (hst.cell (g := b5) (t := 26) (fr := (0, 0)) (List.mem_cons_self ..) 3).trans (Slt.at3 _)
        have f3 := hst.frozen (g := b5) (t := 26) (List.mem_cons_self ..) 3
        have hset : ∀ (m : Nat) (v : Int), v = (Z : Int) → St W ((wr.drewN m).setCell ⟨b5, 3, none⟩ (.int .i64 v)) I ((b5, .cells (⟨u0, u1, V, Z, padd (bs.drop 14) 0⟩ : Slt).cells 26 (0, 0)) :: G) := fun m v hv => by
          subst hv
          have h9 := St.set (A := []) (hst.drew m) 3 (.int .i64 (Z : Int))
          rw [Slt.set3] at h9
          rw [padd_zero]
          exact h9
        have HSET := Lib.hid hset; have HSZ := Lib.hid hsz; have HV := Lib.hid hV; have HZ := Lib.hid hZ
        clear hset hst hwt hV hZ ht0 ht1 ht2 ht3 hsz hl
        go_wp2_with fail
        refine wp_region_quiet_tail 23 (by kernel_rfl) (by kernel_rfl) ?_
        simp only [List.take_succ_cons, List.take_zero, List.drop_succ_cons, List.drop_zero]
        repeat (go_big_quiet_step (fail))
        refine wpQuiet_nil ?_
        rintro _ ⟨nq, rfl⟩
        have e3' : (wr.drewN nq).cell? ⟨b5, 3, none⟩ = some (.int .i64 0) := e3
        have f3' : (wr.drewN nq).frozen? ⟨b5, 3, none⟩ = false := f3
        clear e3 f3 c10 c11 c12 c13
        go_wp2_with fail
        clear e3' f3'
        go_loopw [71] (fun i wr => ∃ j : Nat, i = .int .i64 j ∧ j ≤ 32 ∧ St W wr I ((b5, .cells (⟨u0, u1, V, Z, padd (bs.drop 14) j⟩ : Slt).cells 26 (0, 0)) :: G)) (fun i _ => 32 - (intOf i).toNat)
        case atStart =>
          refine ⟨0, rfl, by omega, HSET.out nq _ ?_⟩
          have := HSZ.out
          omega
        case round =>
          obtain ⟨j, rfl, hj, hst⟩ := hrel
          clear HSET
          have hl := HL.out
          have hld : (bs.drop 14).length = 32 := by rw [List.length_drop]; omega
          by_cases hj3 : j < 32
          · have d0 := HEL.out wr [_] hst (14 + j) (by omega)
            have hbj : (bs.drop 14)[j]? = some (bs.getD (14 + j) 0) := by rw [List.getElem?_drop, List.getD_eq_getElem?_getD, List.getElem?_eq_getElem (by omega)]; rfl
            have hps := padd_set (bs.drop 14) hld j _ hbj
            have hpl := padd_len (bs.drop 14) hld j (by omega)
            obtain ⟨y, hy⟩ : ∃ y, (⟨u0, u1, V, Z, padd (bs.drop 14) j⟩ : Slt).cells[4 + j]? = some y := ⟨_, Array.getElem?_eq_getElem (by rw [Slt.size hpl]; omega)⟩
            have e4 : wr.cell? ⟨b5, 4 + j, none⟩ = some y := (hst.cell (g := b5) (t := 26) (fr := (0, 0)) (List.mem_cons_self ..) (4 + j)).trans hy
            have f4 := hst.frozen (g := b5) (t := 26) (List.mem_cons_self ..) (4 + j)
            have h9 := St.set (A := []) hst (4 + j) (bval (bs.getD (14 + j) 0))
            rw [Slt.setd, hps] at h9
            have hjI : (j : Int) < 32 := by omega
            have H9 := Lib.hid h9
            clear hst h9 hps hpl hy hbj hl hld
            unfold bval at H9
            generalize (bs.getD (14 + j) 0).toNat = bb at *
            go_wp2_with fail
            refine ⟨⟨j + 1, by go_num, by omega, H9.out⟩, by simp [intOf]; omega⟩
          · obtain rfl : j = 32 := by omega
            rw [padd_all _ hld] at hst
            have hso : (⟨u0, u1, V, Z, bs.drop 14⟩ : Slt) = sOf bs := by
              have g0 : leV (bs.take 1) = u0 := by
                rw [← HU0.out]
                have := leV_take bs 0 (bs.getD 0 0) (by rw [List.getD_eq_getElem?_getD, List.getElem?_eq_getElem (by omega)]; rfl)
                simpa [leV] using this
              have g1 : leV ((bs.drop 1).take 1) = u1 := by
                rw [← HU1.out]
                have := leV_take (bs.drop 1) 0 (bs.getD 1 0) (by rw [List.getElem?_drop, List.getD_eq_getElem?_getD, List.getElem?_eq_getElem (by omega)]; rfl)
                simpa [leV] using this
              unfold sOf
              rw [g0, g1, HV.out, HZ.out]
            rw [hso] at hst
            have okS := sOf_ok bs hl
            have hY : Y = (chkS (sOf bs), some r) := HRD.out
            obtain ⟨SO, hSO⟩ : ∃ x, sOf bs = x := ⟨_, rfl⟩
            rw [hSO] at hst okS hY
            have f2 := (slot_fit (s := zS) (t := SO) zeros_len okS.dig).1
            have e2 := (slot_fit (s := zS) (t := SO) zeros_len okS.dig).2
            rw [ZL.out] at f2 e2
            have i2 := slot_info (s := SO) okS.dig
            have o2 := Slt.one SO
            have kG := fun (v : World) (F : List (Nat × Obj)) (hv : St W v I F) => ref_right SO okS hv
            unfold Slt.val at kG
            have hck := chkS.eq_1 SO
            have G2 := Lib.hid f2; have E2 := Lib.hid e2; have I2 := Lib.hid i2; have O2 := Lib.hid o2; have KG := Lib.hid kG; have HCK := Lib.hid hck; have HY := Lib.hid hY; have LO := Lib.hid okS.dig
            have H15 := Lib.hid hst
            clear f2 e2 i2 o2 kG hck hY okS hst hso hSO hl hld
            go_wp2_with (with_reducible refine wpList_load_st rfl 26 (.tmp 5) rfl (g := b5) (off := 0) rfl H15.out (cs := SO.cells) (t := 26) (fr := (0, 0)) (by simp) SO.cells (fun j hj => by rw [Nat.zero_add]) _ Tryd.underlying26 rfl I2.out ?_)
            refine (KG.out _ _ H15.out).mono ?_
            rintro e w10 ⟨rfl, h16⟩
            rw [HG.out] at h16
            have H16 := Lib.hid h16
            have H16p := Lib.hid (h16.perm (L' := (b2, .cells #[.int .i64 0, .int .i64 0, .int .u64 0, .int .i64 0, .int .u8 0, .int .u8 0, .int .u8 0, .int .u8 0, .int .u8 0, .int .u8 0, .int .u8 0, .int .u8 0, .int .u8 0, .int .u8 0, .int .u8 0, .int .u8 0, .int .u8 0, .int .u8 0, .int .u8 0, .int .u8 0, .int .u8 0, .int .u8 0, .int .u8 0, .int .u8 0, .int .u8 0, .int .u8 0, .int .u8 0, .int .u8 0, .int .u8 0, .int .u8 0, .int .u8 0, .int .u8 0, .int .u8 0, .int .u8 0, .int .u8 0, .int .u8 0] 26 (0, 0)) :: ((b5, .cells SO.cells 26 (0, 0)) :: (gs, .cells cur 5 (0, 0)) :: (g, .cells #[.slice A6 n6 c6, .int .i64 0] 51 (0, 0)) :: F)) (by
              have p1 := List.perm_middle (a := (b2, Obj.cells #[.int .i64 0, .int .i64 0, .int .u64 0, .int .i64 0, .int .u8 0, .int .u8 0, .int .u8 0, .int .u8 0, .int .u8 0, .int .u8 0, .int .u8 0, .int .u8 0, .int .u8 0, .int .u8 0, .int .u8 0, .int .u8 0, .int .u8 0, .int .u8 0, .int .u8 0, .int .u8 0, .int .u8 0, .int .u8 0, .int .u8 0, .int .u8 0, .int .u8 0, .int .u8 0, .int .u8 0, .int .u8 0, .int .u8 0, .int .u8 0, .int .u8 0, .int .u8 0, .int .u8 0, .int .u8 0, .int .u8 0, .int .u8 0] 26 (0, 0))) (l₁ := [(b5, Obj.cells SO.cells 26 (0, 0)), (gs, .cells cur 5 (0, 0)), (g, .cells #[.slice A6 n6 c6, .int .i64 0] 51 (0, 0))]) (l₂ := F)
              simpa using p1))
            clear h16 H15 KG
            obtain ⟨R, hR⟩ : ∃ R, rightS SO = R := ⟨_, rfl⟩
            have hck := HCK.out
            rw [hR] at hck ⊢
            clear HCK hR
            cases R with
            | false =>
              rw [if_neg (by decide)] at hck
              clear H16
              go_wp2_with (with_reducible refine wpList_store_st rfl 26 (.tmp 2) (.tmp 86) rfl (g := b2) (off := 0) #[.int .i64 0, .int .i64 0, .int .u64 0, .int .i64 0, .int .u8 0, .int .u8 0, .int .u8 0, .int .u8 0, .int .u8 0, .int .u8 0, .int .u8 0, .int .u8 0, .int .u8 0, .int .u8 0, .int .u8 0, .int .u8 0, .int .u8 0, .int .u8 0, .int .u8 0, .int .u8 0, .int .u8 0, .int .u8 0, .int .u8 0, .int .u8 0, .int .u8 0, .int .u8 0, .int .u8 0, .int .u8 0, .int .u8 0, .int .u8 0, .int .u8 0, .int .u8 0, .int .u8 0, .int .u8 0, .int .u8 0, .int .u8 0] rfl rfl H16p.out FZ.out IZ.out OZ.out ?_; intro w9 h9; refine Hid.out ?_)
              refine Lib.hid ?_
              rw [MZ.out, ← ZL.out] at h9
              have H9 := Lib.hid h9
              clear h9 H16p
              go_wp2_with fail
              refine bodyPost_ret (slot_ret (F := F) H9.out zeros_len rfl rfl rfl) rfl ?_
              rw [HY.out, hck]
              refine ⟨rfl, A6, n6, c6, 0, HRD6.out, ?_⟩
              exact St.weaken (A := [_, _, _]) H9.out
            | true =>
              rw [if_pos rfl] at hck
              go_wp2_with (first | (with_reducible refine wpList_load_st rfl 26 (.tmp 5) rfl (g := b5) (off := 0) rfl H16.out (cs := SO.cells) (t := 26) (fr := (0, 0)) (by simp) SO.cells (fun j hj => by rw [Nat.zero_add]) _ Tryd.underlying26 rfl I2.out ?_) | (with_reducible refine wpList_store_st rfl 26 (.tmp 2) (.tmp 87) rfl (g := b2) (off := 0) SO.cells rfl rfl H16p.out G2.out I2.out O2.out ?_; intro w9 h9; refine Hid.out ?_))
              refine Lib.hid ?_
              rw [E2.out] at h9
              have H9 := Lib.hid h9
              clear h9 H16p H16
              go_wp2_with fail
              refine bodyPost_ret (slot_ret (t := SO) (F := F) H9.out LO.out rfl rfl rfl) rfl ?_
              rw [HY.out, hck]
              refine ⟨rfl, A6, n6, c6, 0, HRD6.out, ?_⟩
              exact St.weaken (A := [_, _, _]) H9.out
end
end Go.Proofs.YtpjfmgifddoppaaDoor
