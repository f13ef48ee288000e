/- ImageTakes: the walk of the law. -/
import Derived.Test.YtkpgliaahibjgaaDoorMarg
namespace Go.Proofs.YtkpgliaahibjgaaDoor
set_option linter.unusedVariables false
set_option linter.unusedSimpArgs false
open Go.RowKit Go.Lib

/-- A manifest whose chunks lie elsewhere. -/
def Man.at_ (m : Man) (hs : List (List UInt8)) (A : Option Addr) (c : Nat) : Man := { m with A := A, n := hs.length, c := c }
section
variable {m : Man} {hs : List (List UInt8)} {A : Option Addr} {c : Nat}
theorem Man.at_ok (ok : m.Ok) (hn : m.n = hs.length) : (m.at_ hs A c).Ok := ⟨ok.dig, ok.v0, ok.v1, ok.s0, ok.s1, ok.c0, ok.c1, by have := ok.n1; simp only [Man.at_]; omega⟩
theorem Man.at_right (hn : m.n = hs.length) : rightM (m.at_ hs A c) = rightM m := by unfold rightM Man.at_; simp only; rw [hn]
theorem Man.at_span (hn : m.n = hs.length) (i : Int) : spanM (m.at_ hs A c) i = spanM m i := by unfold spanM; rw [Man.at_right hn]; unfold Man.at_; simp only; rw [hn]
theorem Man.at_take (hn : m.n = hs.length) (want : Nat) (i : Int) (b : List UInt8) : takeErr (m.at_ hs A c) hs want i b = takeErr m hs want i b := by
  unfold takeErr
  rw [Man.at_span hn]
  unfold Man.at_
  simp only
  rw [hn]
end

/-- Both streams. -/
def TS (W w : World) (J : Nat → Option Obj) (s g r : Nat) (mo m : Man) (bo : List UInt8) (wo : Nat) (br : List UInt8) (wr : Nat) (X : List (Nat × Obj)) : Prop :=
  ∃ A c L0, Row 5 1 (.slice A br.length c) br.length (br.map bval) L0 ∧ Strm W w J s g mo bo wo ((r, .cells (rCells m (.slice A br.length c) wr) 43 (0, 0)) :: (L0 ++ X))
section
variable {W w w' : World} {J : Nat → Option Obj} {s g r wo wr wo' : Nat} {mo m : Man} {bo br bo' : List UInt8} {X : List (Nat × Obj)}
theorem TS.drew (h : TS W w J s g r mo m bo wo br wr X) (k : Nat) : TS W (w.drewN k) J s g r mo m bo wo br wr X := by
  obtain ⟨A, c, L0, h1, h2⟩ := h
  exact ⟨A, c, L0, h1, h2.drew k⟩
theorem TS.own {f : FuncId} {args : Array Value} {v : Value} (hf : ∀ F, Strm W w J s g mo bo wo F → Calls Tryd.prog f args w fun e w' => e = .returned v ∧ Strm W w' J s g mo bo' wo' F) (h : TS W w J s g r mo m bo wo br wr X) :
    Calls Tryd.prog f args w fun e w' => e = .returned v ∧ TS W w' J s g r mo m bo' wo' br wr X := by
  obtain ⟨A, c, L0, h1, h2⟩ := h
  exact (hf _ h2).mono fun e w' ⟨he, h'⟩ => ⟨he, A, c, L0, h1, h'⟩
theorem TS.ref {br' : List UInt8} {wr' : Nat} {f : FuncId} {args : Array Value} {v : Value} (hf : ∀ F, RStrm W w J r m br wr F → Calls Tryd.prog f args w fun e w' => e = .returned v ∧ RStrm W w' J r m br' wr' F) (h : TS W w J s g r mo m bo wo br wr X) :
    Calls Tryd.prog f args w fun e w' => e = .returned v ∧ TS W w' J s g r mo m bo wo br' wr' X := by
  obtain ⟨A, c, L0, h1, G, hb, hst⟩ := h
  have h2 : RStrm W w J r m br wr (G ++ ((s, .cells (sCells mo g wo) 71 (0, 0)) :: X)) := by
    refine ⟨A, c, L0, h1, ?_⟩
    have h3 := St.swap (A := G ++ [(s, Obj.cells (sCells mo g wo) 71 (0, 0))]) (B := (r, Obj.cells (rCells m (.slice A br.length c) wr) 43 (0, 0)) :: L0) (F := X) (by simpa using hst)
    show St W w J _
    simpa using h3
  refine (hf _ h2).mono fun e w' ⟨he, A', c', L1, h4, h5⟩ => ⟨he, A', c', L1, h4, G, hb, ?_⟩
  have h6 : St W w' J (((r, Obj.cells (rCells m (.slice A' br'.length c') wr') 43 (0, 0)) :: L1) ++ ((G ++ [(s, Obj.cells (sCells mo g wo) 71 (0, 0))]) ++ X)) := by simpa using h5.st
  have h7 := St.swap h6
  simpa using h7
theorem TS.st (h : TS W w J s g r mo m bo wo br wr X) : St W w J X := by
  obtain ⟨A, c, L0, h1, h2⟩ := h
  exact St.weaken (A := (_, _) :: (_, _) :: L0) h2.frame1
theorem ts_cells (ok : m.Ok) (h : TS W w J s g r mo m bo wo br wr X) : ∃ A c, w.cell? ⟨r, 37, none⟩ = some (.slice A br.length c) ∧ w.cell? ⟨r, 38, none⟩ = some (.int .i64 wr) := by
  obtain ⟨A, c, L0, h1, h2⟩ := h
  have hc := fun i => h2.frame1.cell (g := r) (cs := rCells m (.slice A br.length c) wr) (t := 43) (fr := (0, 0)) (by simp) i
  exact ⟨A, c, (hc 37).trans (rCells_37 ok _ _), (hc 38).trans (rCells_38 ok _ _)⟩
end
theorem Digs.permF {W w : World} {J : Nat → Option Obj} {ds : List (Nat × List UInt8)} {F F' : List (Nat × Obj)} (h : Digs W w J ds F) (p : F.Perm F') : Digs W w J ds F' := by
  obtain ⟨G, hb, hst⟩ := h
  exact ⟨G, hb, hst.perm (List.Perm.append_left G p)⟩
theorem TS.alloc {W w : World} {J : Nat → Option Obj} {s g r wo wr : Nat} {mo m : Man} {bo br : List UInt8} {X : List (Nat × Obj)} (h : TS W w J s g r mo m bo wo br wr X) (o : Obj) : TS W (w.alloc o) J s g r mo m bo wo br wr ((w.heap.size, o) :: X) := by
  obtain ⟨A, c, L0, h1, h2⟩ := h
  refine ⟨A, c, L0, h1, Digs.permF (Digs.alloc h2 o) ?_⟩
  have h3 := (List.perm_middle (a := (w.heap.size, o)) (l₁ := (s, Obj.cells (sCells mo g wo) 71 (0, 0)) :: (r, Obj.cells (rCells m (.slice A br.length c) wr) 43 (0, 0)) :: L0) (l₂ := X)).symm
  simpa using h3
theorem TS.weaken {W w : World} {J : Nat → Option Obj} {s g r wo wr : Nat} {mo m : Man} {bo br : List UInt8} {X : List (Nat × Obj)} {p : Nat × Obj} (h : TS W w J s g r mo m bo wo br wr (p :: X)) : TS W w J s g r mo m bo wo br wr X := by
  obtain ⟨A, c, L0, h1, h2⟩ := h
  refine ⟨A, c, L0, h1, ?_⟩
  have h3 := Digs.mid (A := (s, Obj.cells (sCells mo g wo) 71 (0, 0)) :: (r, Obj.cells (rCells m (.slice A br.length c) wr) 43 (0, 0)) :: L0) (B := [p]) (F := X) (by simpa [Strm] using h2)
  simpa [Strm] using h3
/-- How far it is behind a chunk. -/
def nxB (te : Int) (bs b : List UInt8) : List UInt8 := if te = 0 then bs ++ b else bs
def nxW (te : Int) (want : Nat) : Nat := if te = 0 then want + 1 else want

set_option maxRecDepth 100000 in
set_option maxHeartbeats 8000000 in
theorem walk_imageTakes (W : World) (tabs : Tabs W) {H : Type} {enc : TypeId × Value → H} {v0 v1 : Value} (a0 : Arg enc Tryd.prog W 34 v0) (a1 : Arg enc Tryd.prog W 35 v1) :
    Calls Tryd.prog 4 #[v0, v1] W fun e w' => e = .returned (.bool true) ∧ Below W.heap.size W w' := by
  obtain ⟨m, hs, rfl, hm⟩ := a0.manifest
  obtain ⟨CA, cc, ks, rfl, hks⟩ := a1.chunks
  have ok := hm.ok
  have hn := hm.n
  have t := TB.start tabs
  have h0 := (St.start W).alloc (.cells m.cells 34)
  have kA := image_alive t h0
  have kG := fun (v : World) (hv : St W v (fun b => W.heap[b]?) [(W.heap.size, .cells m.cells 34 (0, 0))]) => great_any m ok hv
  have hmi : (Tryd.prog.info? 34).map (·.size) = some m.cells.size := by rw [Man.cells_size ok]; kernel_rfl
  have hval : m.val = .agg m.cells := rfl
  rw [hval] at kG ⊢
  generalize hb2 : W.heap.size = b2 at *
  have KA := Lib.hid kA; have KG := Lib.hid kG; have HMI := Lib.hid hmi; have HM := Lib.hid hm; have HKS := Lib.hid hks; have OK := Lib.hid ok; have HN := Lib.hid hn; have TT := Lib.hid t; have HB2 := Lib.hid hb2
  clear kA kG hmi a0 a1 tabs t h0 hm hks ok hn hval
  go_enter Tryd.func4, Tryd.ntmps4
  go_wp2_with fail
  clear hb2
  refine KA.out.mono ?_
  rintro e w1 ⟨rfl, h1⟩
  have H1 := Lib.hid h1
  clear KA h1
  go_wp2_with (with_reducible refine wpList_load_st rfl 34 (.tmp 2) rfl (g := b2) (off := 0) rfl H1.out (List.mem_cons_self ..) m.cells (fun j hj => by rw [Nat.zero_add]) _ Tryd.underlying34 rfl HMI.out ?_)
  refine (KG.out _ H1.out).mono ?_
  rintro e w2 ⟨rfl, h2⟩
  obtain ⟨G, hG⟩ : ∃ G, (decide (300 < m.prod.size) || decide (100 < m.n)) = G := ⟨_, rfl⟩
  rw [hG]
  cases G with
  | true =>
    have hfin := h2.below (Le.refl _)
    rw [HB2.out] at hfin
    have HF := Lib.hid hfin
    clear h2 H1 KG hfin hG
    go_wp2_with fail
    go_ret
    exact ⟨rfl, HF.out⟩
  | false =>
    have hsz : m.prod.size ≤ 300 ∧ m.n ≤ 100 := by
      simp only [Bool.or_eq_false_iff, decide_eq_false_iff_not] at hG
      omega
    clear hG
    by_cases h60 : (60 : Int) < ks.length
    · have hfin := h2.below (Le.refl _)
      rw [HB2.out] at hfin
      have HF := Lib.hid hfin
      clear h2 H1 KG hfin
      go_wp2_with fail
      go_ret
      exact ⟨rfl, HF.out⟩
    have hkl : (ks.length : Int) ≤ 60 := by omega
    have kN := inew TT.out m OK.out hs HN.out HM.out.hs (by omega) (by have := HN.out; omega) h2
    have hval : m.val = .agg m.cells := rfl
    rw [hval] at kN
    have H2 := Lib.hid h2; have KN := Lib.hid kN
    clear h2 kN H1 KG h60 hval
    go_wp2_with (with_reducible refine wpList_load_st rfl 34 (.tmp 2) rfl (g := b2) (off := 0) rfl H2.out (List.mem_cons_self ..) m.cells (fun j hj => by rw [Nat.zero_add]) _ Tryd.underlying34 rfl HMI.out ?_)
    refine KN.out.mono ?_
    rintro e w3 ⟨hyes, hno⟩
    clear KN H2
    obtain ⟨R, hR⟩ : ∃ R, rightM m = R := ⟨_, rfl⟩
    rw [hR] at hyes hno
    cases R with
    | false =>
      obtain ⟨rfl, h3⟩ := hno rfl
      clear hyes hno
      have kR := rright13 TT.out m OK.out (by omega) h3
      rw [hR, show m.val = .agg m.cells from rfl] at kR
      have H3 := Lib.hid h3; have KR := Lib.hid kR
      clear h3 kR hR
      go_wp2_with (with_reducible refine wpList_load_st rfl 34 (.tmp 2) rfl (g := b2) (off := 0) rfl H3.out (List.mem_cons_self ..) m.cells (fun j hj => by rw [Nat.zero_add]) _ Tryd.underlying34 rfl HMI.out ?_)
      refine KR.out.mono ?_
      rintro e w4 ⟨rfl, h4⟩
      have hfin := h4.below (Le.refl _)
      rw [HB2.out] at hfin
      have HF := Lib.hid hfin
      clear h4 hfin KR H3
      go_wp2_with fail
      go_ret
      exact ⟨rfl, HF.out⟩
    | true =>
      obtain ⟨J, A', c', s, g, hle, rfl, hh, h3⟩ := hyes rfl
      clear hyes hno
      have hmo : ({ m with A := A', n := hs.length, c := c' } : Man) = m.at_ hs A' c' := rfl
      rw [hmo] at h3
      have kR : ∀ v, Strm W v J s g (m.at_ hs A' c') [] 0 [(b2, .cells m.cells 34 (0, 0))] → Calls Tryd.prog 14 #[m.val] v fun e w' => e = .returned (.bool true) ∧ Strm W w' J s g (m.at_ hs A' c') [] 0 [(b2, .cells m.cells 34 (0, 0))] := fun v hv => strm_lift (fun L hL => by
        have h9 := rright13 (TT.out.more hle) m OK.out (by omega) hL
        rw [hR] at h9
        exact h9) hv
      rw [show m.val = .agg m.cells from rfl] at kR
      have H3 := Lib.hid h3; have KR := Lib.hid kR; have HR := Lib.hid hR; have HLE := Lib.hid hle; have HH := Lib.hid hh
      clear h3 kR hR hle hh hmo
      have F3 := Lib.hid (Strm.frame1 H3.out)
      go_wp2_with (with_reducible refine wpList_load_st rfl 34 (.tmp 2) rfl (g := b2) (off := 0) rfl F3.out (List.mem_cons_of_mem _ (List.mem_cons_self ..)) m.cells (fun j hj => by rw [Nat.zero_add]) _ Tryd.underlying34 rfl HMI.out ?_)
      refine (KR.out _ H3.out).mono ?_
      rintro e w4 ⟨rfl, h4⟩
      obtain ⟨Y, hY⟩ : ∃ Y, Array.foldl (fun cs (x : Value × Nat) => cs.setIfInBounds x.snd x.fst) (Value.string ⟨#[]⟩ :: .int .u64 0 :: .int .i64 0 :: .int .i64 0 :: .int .u8 0 :: .int .u8 0 :: .int .u8 0 :: .int .u8 0 :: .int .u8 0 :: .int .u8 0 :: .int .u8 0 :: .int .u8 0 :: .int .u8 0 :: .int .u8 0 :: .int .u8 0 :: .int .u8 0 :: .int .u8 0 :: .int .u8 0 :: .int .u8 0 :: .int .u8 0 :: .int .u8 0 :: .int .u8 0 :: .int .u8 0 :: .int .u8 0 :: .int .u8 0 :: .int .u8 0 :: .int .u8 0 :: .int .u8 0 :: .int .u8 0 :: .int .u8 0 :: .int .u8 0 :: .int .u8 0 :: .int .u8 0 :: .int .u8 0 :: .int .u8 0 :: .int .u8 0 :: .slice none 0 0 :: .slice none 0 0 :: .int .i64 0 :: []).toArray m.cells.zipIdx 0 37 = Y := ⟨_, rfl⟩
      have hms := Man.cells_size OK.out
      have hYv : Y = rCells m (.slice none 0 0) 0 := by rw [← hY, fold_fill m.cells _ 37 hms (by decide)]; rfl
      have h5 := Digs.alloc h4 (.cells Y 43)
      have F4 := Lib.hid (Strm.frame1 h4); have HYV := Lib.hid hYv; have H5 := Lib.hid h5
      clear h4 h5 hYv H3 F3 KR
      generalize hr : w4.heap.size = r at *
      go_wp2_with (with_reducible refine wpList_load_st rfl 34 (.tmp 2) rfl (g := b2) (off := 0) rfl F4.out (List.mem_cons_of_mem _ (List.mem_cons_self ..)) m.cells (fun j hj => by rw [Nat.zero_add]) _ Tryd.underlying34 rfl HMI.out ?_)
      have h6 : TS W (w4.alloc (.cells Y 43)) J s g r (m.at_ hs A' c') m [] 0 [] 0 [(b2, .cells m.cells 34 (0, 0))] := by
        refine ⟨none, 0, [], Row.nil _ _, ?_⟩
        have h7 := H5.out
        rw [HYV.out] at h7
        rw [HYV.out]
        exact Digs.permF h7 (List.Perm.swap _ _ _)
      have H6 := Lib.hid h6
      clear h6 H5 HYV F4 hr hY
      go_loopw [45] (fun i wr => ∃ (k wo : Nat) (bo : List UInt8), i = .int .i64 k ∧ k ≤ ks.length ∧ wo ≤ hs.length ∧ bo.length ≤ k * 1500 ∧ TS W wr J s g r (m.at_ hs A' c') m bo wo bo wo [(b2, .cells m.cells 34 (0, 0))]) (fun i _ => ks.length - (intOf i).toNat)
      case atStart => exact ⟨0, 0, [], rfl, by omega, by omega, by simp, H6.out⟩
      case round =>
        obtain ⟨k, wo, bo, rfl, hk, hwo, hbo, hts⟩ := hrel
        clear H6
        by_cases hkl' : k < ks.length
        · obtain ⟨x, hx⟩ : ∃ x, ks[k]? = some x := ⟨_, List.getElem?_eq_getElem hkl'⟩
          obtain ⟨b, off, rfl, q0, q1, hpi, i0, i1⟩ := HKS.out.at_ k x hx
          obtain ⟨xi, p⟩ := x
          simp only at q0 q1 hpi i0 i1
          have d0 := hts.st.ro (roCell_mono HLE.out q0)
          have d1 := hts.st.ro (roCell_mono HLE.out q1)
          have hal := hts.alloc (.cells #[.int .i64 xi, .slice p.A p.bs.length p.c] 45)
          generalize hb9 : wr.heap.size = b9 at *
          have bf : ∀ v bo wo br wr, TS W v J s g r (m.at_ hs A' c') m bo wo br wr ((b9, .cells #[.int .i64 xi, .slice p.A p.bs.length p.c] 45 (0, 0)) :: [(b2, .cells m.cells 34 (0, 0))]) → v.cell? ⟨b9, 0, none⟩ = some (.int .i64 xi) ∧ v.cell? ⟨b9, 1, none⟩ = some (.slice p.A p.bs.length p.c) := fun v bo wo br wr h =>
            ⟨h.st.cell (g := b9) (cs := #[.int .i64 xi, .slice p.A p.bs.length p.c]) (t := 45) (fr := (0, 0)) (by simp) 0, h.st.cell (g := b9) (cs := #[.int .i64 xi, .slice p.A p.bs.length p.c]) (t := 45) (fr := (0, 0)) (by simp) 1⟩
          by_cases hbig : (1500 : Int) < p.bs.length
          · have hfin := (hts.st.less HLE.out).below (Le.refl _)
            have hfin2 := (hal.st.less HLE.out).below (Le.refl _)
            have HF := Lib.hid hfin2
            clear hfin hfin2 hal hts bf
            go_wp2_with fail
            go_ret
            exact ⟨rfl, by rw [← HB2.out]; exact HF.out⟩
          have hpl : (p.bs.length : Int) ≤ 1500 := by omega
          have hin : p.In W J := hpi.1.mono HLE.out
          obtain ⟨te, hte⟩ : ∃ te, takeErr m hs wo xi p.bs = te := ⟨_, rfl⟩
          have hbo2 : bo.length ≤ 90000 := by omega
          have hhn : hs.length ≤ 100 := by have := HN.out; omega
          have okA := Man.at_ok (A := A') (c := c') OK.out HN.out
          have htk := Man.at_take (A := A') (c := c') HN.out wo xi p.bs
          rw [hte] at htk
          obtain ⟨nb, hnb⟩ : ∃ nb, nxB te bo p.bs = nb := ⟨_, rfl⟩
          obtain ⟨nw, hnw⟩ : ∃ nw, nxW te wo = nw := ⟨_, rfl⟩
          obtain ⟨X9, hX9⟩ : ∃ X9, ((b9, Obj.cells #[.int .i64 xi, .slice p.A p.bs.length p.c] 45 (0, 0)) :: [(b2, Obj.cells m.cells 34 (0, 0))]) = X9 := ⟨_, rfl⟩
          rw [hX9] at hal bf
          have hlt : te = 0 → wo < hs.length := fun h0 => by
            rw [h0] at hte
            unfold takeErr at hte
            by_cases h1 : (wo : Int) = m.n ∨ xi ≠ wo
            · rw [if_pos h1] at hte; omega
            · have := HN.out; omega
          have hnl : nb.length ≤ (k + 1) * 1500 := by
            rw [← hnb]
            unfold nxB
            split
            · rw [List.length_append]; omega
            · omega
          have hnl2 : nb.length ≤ 100000 := by omega
          have hnwl : nw ≤ hs.length := by
            rw [← hnw]; unfold nxW; split
            · rename_i h0; exact hlt h0
            · exact hwo
          have kT : ∀ v, TS W v J s g r (m.at_ hs A' c') m bo wo bo wo X9 → Calls Tryd.prog 15 #[.pointer (some ⟨s, 0, none⟩), .int .i64 xi, .slice p.A p.bs.length p.c] v fun e w' => e = .returned (.int .i64 te) ∧ TS W w' J s g r (m.at_ hs A' c') m nb nw bo wo X9 := fun v hv => TS.own (fun F hF => by
            refine (itake (TT.out.more HLE.out) okA hs rfl HH.out (by show m.prod.size ≤ _; omega) (by omega) hwo (by omega) xi i0 i1 p hin (by omega) hF).mono fun e w' hp => ?_
            obtain ⟨h1, h2⟩ := hp
            rw [htk] at h1 h2
            refine ⟨h1, ?_⟩
            rw [← hnb, ← hnw]
            unfold nxB nxW
            split
            · rename_i h0; rw [if_pos h0] at h2; exact h2
            · rename_i h0; rw [if_neg h0] at h2; exact h2) hv
          have kR : ∀ v, TS W v J s g r (m.at_ hs A' c') m nb nw bo wo X9 → Calls Tryd.prog 16 #[.pointer (some ⟨r, 0, none⟩), .int .i64 xi, .slice p.A p.bs.length p.c] v fun e w' => e = .returned (.int .i64 te) ∧ TS W w' J s g r (m.at_ hs A' c') m nb nw nb nw X9 := fun v hv => TS.ref (fun F hF => by
            refine (rtake (TT.out.more HLE.out) OK.out hs HN.out (HM.out.hs.mono HLE.out) (by omega) (by omega) hwo (by omega) xi i0 i1 p hin (by omega) hF).mono fun e w' hp => ?_
            obtain ⟨h1, h2⟩ := hp
            rw [hte] at h1 h2
            refine ⟨h1, ?_⟩
            rw [← hnb, ← hnw]
            unfold nxB nxW
            split
            · rename_i h0; rw [if_pos h0] at h2; exact h2
            · rename_i h0; rw [if_neg h0] at h2; exact h2) hv
          obtain ⟨D, hD⟩ : ∃ D, ((nw : Int) == (m.n : Int)) = D := ⟨_, rfl⟩
          obtain ⟨Wh, hWh⟩ : ∃ Wh, (D && (hashOf nb == m.dig)) = Wh := ⟨_, rfl⟩
          have hmn : (((m.at_ hs A' c').n : Nat) : Int) = (m.n : Int) := by rw [HN.out]; rfl
          have kW : ∀ v, TS W v J s g r (m.at_ hs A' c') m nb nw nb nw X9 → Calls Tryd.prog 17 #[.pointer (some ⟨s, 0, none⟩)] v fun e w' => e = .returned (.int .i64 nw) ∧ v = w' := fun v ⟨A, c, L0, _, hv⟩ => iwant okA hv
          have kD : ∀ v, TS W v J s g r (m.at_ hs A' c') m nb nw nb nw X9 → Calls Tryd.prog 18 #[.pointer (some ⟨s, 0, none⟩)] v fun e w' => e = .returned (.bool D) ∧ TS W w' J s g r (m.at_ hs A' c') m nb nw nb nw X9 := fun v hv => TS.own (fun F hF => by
            refine (idone okA hF).mono fun e w' ⟨h1, kk, h2⟩ => ⟨?_, by rw [h2]; exact hF.drew kk⟩
            rw [h1, hmn, hD]) hv
          have kRD : ∀ v, TS W v J s g r (m.at_ hs A' c') m nb nw nb nw X9 → Calls Tryd.prog 19 #[.pointer (some ⟨r, 0, none⟩)] v fun e w' => e = .returned (.bool D) ∧ TS W w' J s g r (m.at_ hs A' c') m nb nw nb nw X9 := fun v hv => TS.ref (fun F ⟨A, c, L0, hr, hF⟩ => by
            refine (rdone OK.out hF).mono fun e w' ⟨h1, kk, h2⟩ => ⟨?_, A, c, L0, hr, by rw [h2]; exact hF.drew kk⟩
            rw [h1, hD]) hv
          have kWh : ∀ v, TS W v J s g r (m.at_ hs A' c') m nb nw nb nw X9 → Calls Tryd.prog 20 #[.pointer (some ⟨s, 0, none⟩)] v fun e w' => e = .returned (.bool Wh) ∧ TS W w' J s g r (m.at_ hs A' c') m nb nw nb nw X9 := fun v hv => TS.own (fun F hF => by
            refine (iwhole okA (by omega) hF).mono fun e w' ⟨h1, h2⟩ => ⟨?_, h2⟩
            rw [h1, hmn, hD, ← hWh]
            rfl) hv
          have kRW : ∀ v, TS W v J s g r (m.at_ hs A' c') m nb nw nb nw X9 → Calls Tryd.prog 21 #[.pointer (some ⟨r, 0, none⟩)] v fun e w' => e = .returned (.bool Wh) ∧ TS W w' J s g r (m.at_ hs A' c') m nb nw nb nw X9 := fun v hv => TS.ref (fun F hF => by
            refine (rwhole OK.out (by omega) hF).mono fun e w' ⟨h1, h2⟩ => ⟨?_, h2⟩
            rw [h1, hD, hWh]) hv
          have kL : ∀ v, TS W v J s g r (m.at_ hs A' c') m nb nw nb nw X9 → Calls Tryd.prog 22 #[.pointer (some ⟨s, 0, none⟩)] v fun e w' => e = .returned (.int .i64 nb.length) ∧ v = w' := fun v ⟨A, c, L0, _, hv⟩ => ilen okA (by omega) hv
          have kF := fun (v : World) (hv : TS W v J s g r (m.at_ hs A' c') m nb nw nb nw X9) => ts_cells OK.out hv
          have KT := Lib.hid kT; have KR := Lib.hid kR; have KW := Lib.hid kW; have KD := Lib.hid kD; have KRD := Lib.hid kRD; have KWH := Lib.hid kWh; have KRW := Lib.hid kRW; have KL := Lib.hid kL; have KF := Lib.hid kF
          have BF := Lib.hid bf; have HAL := Lib.hid hal; have HX9 := Lib.hid hX9; have HNL := Lib.hid hnl; have HNW := Lib.hid hnwl
          clear kT kR kW kD kRD kWh kRW kL kF bf hal hX9 hnl hnwl hts hnb hnw hte hlt htk hpi q0 q1 hx hD hWh hmn okA hin hbig
          go_wp2_with fail
          refine (KT.out _ HAL.out).mono ?_
          rintro e w5 ⟨rfl, h7⟩
          have HDW := Lib.hid (h7.drew 1)
          clear h7 HAL KT d0 d1 hb9
          go_wp2_with fail
          refine wp_region_held_drew (S := fun w' => w'.cell? ⟨b9, 0, none⟩ = some (.int .i64 xi) ∧ w'.cell? ⟨b9, 1, none⟩ = some (.slice p.A p.bs.length p.c)) (by kernel_rfl) (BF.out _ _ _ _ _ HDW.out) (fun hHeld => ?_)
          refine wpAnyH_take (i := 0) (oi := ?_) (v := ?_) ?_ ?_ ?_ ?_ ?_ ?_ ?_ ?_
          rotate_left 2
          · (simp only [List.getElem?_toArray, List.getElem?_cons_succ, List.getElem?_cons_zero]; exact rfl)
          · kernel_rfl
          · kernel_rfl
          · kernel_rfl
          · exact fun _ _ _ h => h
          · (refine Or.inl ⟨by rfl, ?_⟩; intro w hSw; (try dsimp only at hSw); go_simp; try with_reducible rfl)
          · assumption
          try simp only [Act.put, List.setIfInBounds_toArray, List.set_cons_zero, List.set_cons_succ]
          refine wpAnyH_take (i := 1) (oi := ?_) (v := ?_) ?_ ?_ ?_ ?_ ?_ ?_ ?_ ?_
          rotate_left 2
          · (simp only [List.getElem?_toArray, List.getElem?_cons_succ, List.getElem?_cons_zero]; exact rfl)
          · kernel_rfl
          · kernel_rfl
          · kernel_rfl
          · exact fun _ _ _ h => h
          · (refine Or.inl ⟨by rfl, ?_⟩; intro w hSw; (try dsimp only at hSw); go_simp; try with_reducible rfl)
          · assumption
          try simp only [Act.put, List.setIfInBounds_toArray, List.set_cons_zero, List.set_cons_succ]
          refine wpAnyH_take (i := 2) (oi := ?_) (v := ?_) ?_ ?_ ?_ ?_ ?_ ?_ ?_ ?_
          rotate_left 2
          · (simp only [List.getElem?_toArray, List.getElem?_cons_succ, List.getElem?_cons_zero]; exact rfl)
          · kernel_rfl
          · kernel_rfl
          · kernel_rfl
          · exact fun _ _ _ h => h
          · (refine Or.inl ⟨by rfl, ?_⟩; intro w hSw; (try dsimp only at hSw); go_simp; try with_reducible rfl)
          · assumption
          try simp only [Act.put, List.setIfInBounds_toArray, List.set_cons_zero, List.set_cons_succ]
          refine wpAnyH_take (i := 3) (oi := ?_) (v := ?_) ?_ ?_ ?_ ?_ ?_ ?_ ?_ ?_
          rotate_left 2
          · (simp only [List.getElem?_toArray, List.getElem?_cons_succ, List.getElem?_cons_zero]; exact rfl)
          · kernel_rfl
          · kernel_rfl
          · kernel_rfl
          · exact fun _ _ _ h => h
          · ((refine Or.inl ⟨by rfl, ?_⟩; intro w hSw; obtain ⟨hS1, hS2⟩ := hSw; go_simp; try with_reducible rfl))
          · assumption
          try simp only [Act.put, List.setIfInBounds_toArray, List.set_cons_zero, List.set_cons_succ]
          refine wpAnyH_take (i := 4) (oi := ?_) (v := ?_) ?_ ?_ ?_ ?_ ?_ ?_ ?_ ?_
          rotate_left 2
          · (simp only [List.getElem?_toArray, List.getElem?_cons_succ, List.getElem?_cons_zero]; exact rfl)
          · kernel_rfl
          · kernel_rfl
          · kernel_rfl
          · exact fun _ _ _ h => h
          · (refine Or.inl ⟨by rfl, ?_⟩; intro w hSw; (try dsimp only at hSw); go_simp; try with_reducible rfl)
          · assumption
          try simp only [Act.put, List.setIfInBounds_toArray, List.set_cons_zero, List.set_cons_succ]
          refine wpAnyH_take (i := 5) (oi := ?_) (v := ?_) ?_ ?_ ?_ ?_ ?_ ?_ ?_ ?_
          rotate_left 2
          · (simp only [List.getElem?_toArray, List.getElem?_cons_succ, List.getElem?_cons_zero]; exact rfl)
          · kernel_rfl
          · kernel_rfl
          · kernel_rfl
          · exact fun _ _ _ h => h
          · ((refine Or.inl ⟨by rfl, ?_⟩; intro w hSw; obtain ⟨hS1, hS2⟩ := hSw; go_simp; try with_reducible rfl))
          · assumption
          try simp only [Act.put, List.setIfInBounds_toArray, List.set_cons_zero, List.set_cons_succ]
          refine wpAnyH_ready (rs := [6]) (by kernel_rfl) (by simp) ?_
          refine AllReadyH.cons (o := ?_) ?_ (fun K hK => ?_) ?_
          rotate_left 1
          · (simp only [List.getElem?_toArray, List.getElem?_cons_succ, List.getElem?_cons_zero]; exact rfl)
          · go_simp
            (go_at_call 16; (refine (KR.out _ HDW.out).mono ?_); rintro e wx ⟨rfl, hx⟩; obtain ⟨A3, c3, e37, e38⟩ := KF.out _ hx; dsimp only)
            refine hK.out _ _ ?_ (fun hHeld => ?_)
            · (try dsimp only) <;> (exact BF.out _ _ _ _ _ hx)
            clear hK K
            try simp only [Act.put, List.setIfInBounds_toArray, List.set_cons_zero, List.set_cons_succ]
            refine wpAnyH_take (i := 7) (oi := ?_) (v := ?_) ?_ ?_ ?_ ?_ ?_ ?_ ?_ ?_
            rotate_left 2
            · (simp only [List.getElem?_toArray, List.getElem?_cons_succ, List.getElem?_cons_zero]; exact rfl)
            · kernel_rfl
            · kernel_rfl
            · kernel_rfl
            · exact fun _ _ _ h => h
            · (refine Or.inl ⟨by rfl, ?_⟩; intro w hSw; (try dsimp only at hSw); go_simp; try with_reducible rfl)
            · assumption
            try simp only [Act.put, List.setIfInBounds_toArray, List.set_cons_zero, List.set_cons_succ]
            refine wpAnyH_take (i := 8) (oi := ?_) (v := ?_) ?_ ?_ ?_ ?_ ?_ ?_ ?_ ?_
            rotate_left 2
            · (simp only [List.getElem?_toArray, List.getElem?_cons_succ, List.getElem?_cons_zero]; exact rfl)
            · kernel_rfl
            · kernel_rfl
            · kernel_rfl
            · exact fun _ _ _ h => h
            · (refine Or.inl ⟨by rfl, ?_⟩; intro w hSw; (try dsimp only at hSw); go_simp; try with_reducible rfl)
            · assumption
            try simp only [Act.put, List.setIfInBounds_toArray, List.set_cons_zero, List.set_cons_succ]
            refine wpAnyH_take (i := 9) (oi := ?_) (v := ?_) ?_ ?_ ?_ ?_ ?_ ?_ ?_ ?_
            rotate_left 2
            · (simp only [List.getElem?_toArray, List.getElem?_cons_succ, List.getElem?_cons_zero]; exact rfl)
            · kernel_rfl
            · kernel_rfl
            · kernel_rfl
            · exact fun _ _ _ h => h
            · (refine Or.inl ⟨by rfl, ?_⟩; intro w hSw; (try dsimp only at hSw); go_simp; try with_reducible rfl)
            · assumption
            try simp only [Act.put, List.setIfInBounds_toArray, List.set_cons_zero, List.set_cons_succ]
            refine wpAnyH_take (i := 11) (oi := ?_) (v := ?_) ?_ ?_ ?_ ?_ ?_ ?_ ?_ ?_
            rotate_left 2
            · (simp only [List.getElem?_toArray, List.getElem?_cons_succ, List.getElem?_cons_zero]; exact rfl)
            · kernel_rfl
            · kernel_rfl
            · kernel_rfl
            · exact fun _ _ _ h => h
            · (refine Or.inl ⟨by rfl, ?_⟩; intro w hSw; (try dsimp only at hSw); go_simp; try with_reducible rfl)
            · assumption
            try simp only [Act.put, List.setIfInBounds_toArray, List.set_cons_zero, List.set_cons_succ]
            refine wpAnyH_take (i := 12) (oi := ?_) (v := ?_) ?_ ?_ ?_ ?_ ?_ ?_ ?_ ?_
            rotate_left 2
            · (simp only [List.getElem?_toArray, List.getElem?_cons_succ, List.getElem?_cons_zero]; exact rfl)
            · kernel_rfl
            · kernel_rfl
            · kernel_rfl
            · exact fun _ _ _ h => h
            · (refine Or.inl ⟨by rfl, ?_⟩; intro w hSw; (try dsimp only at hSw); go_simp; try with_reducible rfl)
            · assumption
            try simp only [Act.put, List.setIfInBounds_toArray, List.set_cons_zero, List.set_cons_succ]
            refine wpAnyH_take (i := 13) (oi := ?_) (v := ?_) ?_ ?_ ?_ ?_ ?_ ?_ ?_ ?_
            rotate_left 2
            · (simp only [List.getElem?_toArray, List.getElem?_cons_succ, List.getElem?_cons_zero]; exact rfl)
            · kernel_rfl
            · kernel_rfl
            · kernel_rfl
            · exact fun _ _ _ h => h
            · (refine Or.inl ⟨by rfl, ?_⟩; intro w hSw; (try dsimp only at hSw); go_simp; try with_reducible rfl)
            · assumption
            try simp only [Act.put, List.setIfInBounds_toArray, List.set_cons_zero, List.set_cons_succ]
            refine wpAnyH_ready (rs := [10, 14]) (by kernel_rfl) (by simp) ?_
            refine AllReadyH.cons (o := ?_) ?_ (fun K hK => ?_) ?_
            rotate_left 1
            · (simp only [List.getElem?_toArray, List.getElem?_cons_succ, List.getElem?_cons_zero]; exact rfl)
            · go_simp
              (go_at_call 17; (refine (KW.out _ hx).mono ?_); rintro e wx ⟨rfl, rfl⟩; dsimp only)
              refine hK.out _ _ ?_ (fun hHeld => ?_)
              · (try dsimp only) <;> (exact BF.out _ _ _ _ _ hx)
              clear hK K
              try simp only [Act.put, List.setIfInBounds_toArray, List.set_cons_zero, List.set_cons_succ]
              refine wpAnyH_ready (rs := [14]) (by kernel_rfl) (by simp) ?_
              refine AllReadyH.cons (o := ?_) ?_ (fun K hK => ?_) ?_
              rotate_left 1
              · (simp only [List.getElem?_toArray, List.getElem?_cons_succ, List.getElem?_cons_zero]; exact rfl)
              · go_simp
                refine hK.out _ _ ?_ (fun hHeld => ?_)
                · (try dsimp only) <;> (exact BF.out _ _ _ _ _ hx)
                clear hK K
                try simp only [Act.put, List.setIfInBounds_toArray, List.set_cons_zero, List.set_cons_succ]
                refine wpAnyH_take (i := 15) (oi := ?_) (v := ?_) ?_ ?_ ?_ ?_ ?_ ?_ ?_ ?_
                rotate_left 2
                · (simp only [List.getElem?_toArray, List.getElem?_cons_succ, List.getElem?_cons_zero]; exact rfl)
                · kernel_rfl
                · kernel_rfl
                · kernel_rfl
                · exact fun _ _ _ h => h
                · (refine Or.inl ⟨by rfl, ?_⟩; intro w hSw; (try dsimp only at hSw); go_simp; try with_reducible rfl)
                · assumption
                try simp only [Act.put, List.setIfInBounds_toArray, List.set_cons_zero, List.set_cons_succ]
                refine wpAnyH_take (i := 16) (oi := ?_) (v := ?_) ?_ ?_ ?_ ?_ ?_ ?_ ?_ ?_
                rotate_left 2
                · (simp only [List.getElem?_toArray, List.getElem?_cons_succ, List.getElem?_cons_zero]; exact rfl)
                · kernel_rfl
                · kernel_rfl
                · kernel_rfl
                · exact fun _ _ _ h => h
                · (refine Or.inl ⟨by rfl, ?_⟩; intro w hSw; (try dsimp only at hSw); go_simp; try with_reducible rfl)
                · assumption
                try simp only [Act.put, List.setIfInBounds_toArray, List.set_cons_zero, List.set_cons_succ]
                refine wpAnyH_take (i := 17) (oi := ?_) (v := ?_) ?_ ?_ ?_ ?_ ?_ ?_ ?_ ?_
                rotate_left 2
                · (simp only [List.getElem?_toArray, List.getElem?_cons_succ, List.getElem?_cons_zero]; exact rfl)
                · kernel_rfl
                · kernel_rfl
                · kernel_rfl
                · exact fun _ _ _ h => h
                · (refine Or.inl ⟨by rfl, ?_⟩; intro w hSw; (try dsimp only at hSw); go_simp; try with_reducible rfl)
                · assumption
                try simp only [Act.put, List.setIfInBounds_toArray, List.set_cons_zero, List.set_cons_succ]
                refine wpAnyH_take (i := 18) (oi := ?_) (v := ?_) ?_ ?_ ?_ ?_ ?_ ?_ ?_ ?_
                rotate_left 2
                · (simp only [List.getElem?_toArray, List.getElem?_cons_succ, List.getElem?_cons_zero]; exact rfl)
                · kernel_rfl
                · kernel_rfl
                · kernel_rfl
                · exact fun _ _ _ h => h
                · (refine Or.inl ⟨by rfl, ?_⟩; intro w hSw; (try dsimp only at hSw); go_simp; try with_reducible rfl)
                · assumption
                try simp only [Act.put, List.setIfInBounds_toArray, List.set_cons_zero, List.set_cons_succ]
                refine wpAnyH_take (i := 20) (oi := ?_) (v := ?_) ?_ ?_ ?_ ?_ ?_ ?_ ?_ ?_
                rotate_left 2
                · (simp only [List.getElem?_toArray, List.getElem?_cons_succ, List.getElem?_cons_zero]; exact rfl)
                · kernel_rfl
                · kernel_rfl
                · kernel_rfl
                · exact fun _ _ _ h => h
                · (refine Or.inl ⟨by rfl, ?_⟩; intro w hSw; (try dsimp only at hSw); go_simp; try with_reducible rfl)
                · assumption
                try simp only [Act.put, List.setIfInBounds_toArray, List.set_cons_zero, List.set_cons_succ]
                refine wpAnyH_ready (rs := [19]) (by kernel_rfl) (by simp) ?_
                refine AllReadyH.cons (o := ?_) ?_ (fun K hK => ?_) ?_
                rotate_left 1
                · (simp only [List.getElem?_toArray, List.getElem?_cons_succ, List.getElem?_cons_zero]; exact rfl)
                · go_simp
                  (go_at_call 18; (refine (KD.out _ hx).mono ?_); rintro e wx ⟨rfl, hx⟩; obtain ⟨A3, c3, e37, e38⟩ := KF.out _ hx; dsimp only)
                  refine hK.out _ _ ?_ (fun hHeld => ?_)
                  · (try dsimp only) <;> (exact BF.out _ _ _ _ _ hx)
                  clear hK K
                  try simp only [Act.put, List.setIfInBounds_toArray, List.set_cons_zero, List.set_cons_succ]
                  refine wpAnyH_ready (rs := [21]) (by kernel_rfl) (by simp) ?_
                  refine AllReadyH.cons (o := ?_) ?_ (fun K hK => ?_) ?_
                  rotate_left 1
                  · (simp only [List.getElem?_toArray, List.getElem?_cons_succ, List.getElem?_cons_zero]; exact rfl)
                  · go_simp
                    (go_at_call 19; (refine (KRD.out _ hx).mono ?_); rintro e wx ⟨rfl, hx⟩; obtain ⟨A3, c3, e37, e38⟩ := KF.out _ hx; dsimp only)
                    refine hK.out _ _ ?_ (fun hHeld => ?_)
                    · (try dsimp only) <;> (exact BF.out _ _ _ _ _ hx)
                    clear hK K
                    try simp only [Act.put, List.setIfInBounds_toArray, List.set_cons_zero, List.set_cons_succ]
                    refine wpAnyH_take (i := 22) (oi := ?_) (v := ?_) ?_ ?_ ?_ ?_ ?_ ?_ ?_ ?_
                    rotate_left 2
                    · (simp only [List.getElem?_toArray, List.getElem?_cons_succ, List.getElem?_cons_zero]; exact rfl)
                    · kernel_rfl
                    · kernel_rfl
                    · kernel_rfl
                    · exact fun _ _ _ h => h
                    · (refine Or.inl ⟨by rfl, ?_⟩; intro w hSw; (try dsimp only at hSw); go_simp; try with_reducible rfl)
                    · assumption
                    try simp only [Act.put, List.setIfInBounds_toArray, List.set_cons_zero, List.set_cons_succ]
                    refine wpAnyH_take (i := 23) (oi := ?_) (v := ?_) ?_ ?_ ?_ ?_ ?_ ?_ ?_ ?_
                    rotate_left 2
                    · (simp only [List.getElem?_toArray, List.getElem?_cons_succ, List.getElem?_cons_zero]; exact rfl)
                    · kernel_rfl
                    · kernel_rfl
                    · kernel_rfl
                    · exact fun _ _ _ h => h
                    · (refine Or.inl ⟨by rfl, ?_⟩; intro w hSw; (try dsimp only at hSw); go_simp; try with_reducible rfl)
                    · assumption
                    try simp only [Act.put, List.setIfInBounds_toArray, List.set_cons_zero, List.set_cons_succ]
                    refine wpAnyH_take (i := 24) (oi := ?_) (v := ?_) ?_ ?_ ?_ ?_ ?_ ?_ ?_ ?_
                    rotate_left 2
                    · (simp only [List.getElem?_toArray, List.getElem?_cons_succ, List.getElem?_cons_zero]; exact rfl)
                    · kernel_rfl
                    · kernel_rfl
                    · kernel_rfl
                    · exact fun _ _ _ h => h
                    · (refine Or.inl ⟨by rfl, ?_⟩; intro w hSw; (try dsimp only at hSw); go_simp; try with_reducible rfl)
                    · assumption
                    try simp only [Act.put, List.setIfInBounds_toArray, List.set_cons_zero, List.set_cons_succ]
                    refine wpAnyH_take (i := 25) (oi := ?_) (v := ?_) ?_ ?_ ?_ ?_ ?_ ?_ ?_ ?_
                    rotate_left 2
                    · (simp only [List.getElem?_toArray, List.getElem?_cons_succ, List.getElem?_cons_zero]; exact rfl)
                    · kernel_rfl
                    · kernel_rfl
                    · kernel_rfl
                    · exact fun _ _ _ h => h
                    · (refine Or.inl ⟨by rfl, ?_⟩; intro w hSw; (try dsimp only at hSw); go_simp; try with_reducible rfl)
                    · assumption
                    try simp only [Act.put, List.setIfInBounds_toArray, List.set_cons_zero, List.set_cons_succ]
                    refine wpAnyH_take (i := 27) (oi := ?_) (v := ?_) ?_ ?_ ?_ ?_ ?_ ?_ ?_ ?_
                    rotate_left 2
                    · (simp only [List.getElem?_toArray, List.getElem?_cons_succ, List.getElem?_cons_zero]; exact rfl)
                    · kernel_rfl
                    · kernel_rfl
                    · kernel_rfl
                    · exact fun _ _ _ h => h
                    · (refine Or.inl ⟨by rfl, ?_⟩; intro w hSw; (try dsimp only at hSw); go_simp; try with_reducible rfl)
                    · assumption
                    try simp only [Act.put, List.setIfInBounds_toArray, List.set_cons_zero, List.set_cons_succ]
                    refine wpAnyH_ready (rs := [26]) (by kernel_rfl) (by simp) ?_
                    refine AllReadyH.cons (o := ?_) ?_ (fun K hK => ?_) ?_
                    rotate_left 1
                    · (simp only [List.getElem?_toArray, List.getElem?_cons_succ, List.getElem?_cons_zero]; exact rfl)
                    · go_simp
                      (go_at_call 20; (refine (KWH.out _ hx).mono ?_); rintro e wx ⟨rfl, hx⟩; obtain ⟨A3, c3, e37, e38⟩ := KF.out _ hx; dsimp only)
                      refine hK.out _ _ ?_ (fun hHeld => ?_)
                      · (try dsimp only) <;> (exact BF.out _ _ _ _ _ hx)
                      clear hK K
                      try simp only [Act.put, List.setIfInBounds_toArray, List.set_cons_zero, List.set_cons_succ]
                      refine wpAnyH_ready (rs := [28]) (by kernel_rfl) (by simp) ?_
                      refine AllReadyH.cons (o := ?_) ?_ (fun K hK => ?_) ?_
                      rotate_left 1
                      · (simp only [List.getElem?_toArray, List.getElem?_cons_succ, List.getElem?_cons_zero]; exact rfl)
                      · go_simp
                        (go_at_call 21; (refine (KRW.out _ hx).mono ?_); rintro e wx ⟨rfl, hx⟩; obtain ⟨A3, c3, e37, e38⟩ := KF.out _ hx; dsimp only)
                        refine hK.out _ _ ?_ (fun hHeld => ?_)
                        · (try dsimp only) <;> (exact BF.out _ _ _ _ _ hx)
                        clear hK K
                        try simp only [Act.put, List.setIfInBounds_toArray, List.set_cons_zero, List.set_cons_succ]
                        refine wpAnyH_take (i := 29) (oi := ?_) (v := ?_) ?_ ?_ ?_ ?_ ?_ ?_ ?_ ?_
                        rotate_left 2
                        · (simp only [List.getElem?_toArray, List.getElem?_cons_succ, List.getElem?_cons_zero]; exact rfl)
                        · kernel_rfl
                        · kernel_rfl
                        · kernel_rfl
                        · exact fun _ _ _ h => h
                        · (refine Or.inl ⟨by rfl, ?_⟩; intro w hSw; (try dsimp only at hSw); go_simp; try with_reducible rfl)
                        · assumption
                        try simp only [Act.put, List.setIfInBounds_toArray, List.set_cons_zero, List.set_cons_succ]
                        refine wpAnyH_take (i := 30) (oi := ?_) (v := ?_) ?_ ?_ ?_ ?_ ?_ ?_ ?_ ?_
                        rotate_left 2
                        · (simp only [List.getElem?_toArray, List.getElem?_cons_succ, List.getElem?_cons_zero]; exact rfl)
                        · kernel_rfl
                        · kernel_rfl
                        · kernel_rfl
                        · exact fun _ _ _ h => h
                        · (refine Or.inl ⟨by rfl, ?_⟩; intro w hSw; (try dsimp only at hSw); go_simp; try with_reducible rfl)
                        · assumption
                        try simp only [Act.put, List.setIfInBounds_toArray, List.set_cons_zero, List.set_cons_succ]
                        refine wpAnyH_take (i := 31) (oi := ?_) (v := ?_) ?_ ?_ ?_ ?_ ?_ ?_ ?_ ?_
                        rotate_left 2
                        · (simp only [List.getElem?_toArray, List.getElem?_cons_succ, List.getElem?_cons_zero]; exact rfl)
                        · kernel_rfl
                        · kernel_rfl
                        · kernel_rfl
                        · exact fun _ _ _ h => h
                        · (refine Or.inl ⟨by rfl, ?_⟩; intro w hSw; (try dsimp only at hSw); go_simp; try with_reducible rfl)
                        · assumption
                        try simp only [Act.put, List.setIfInBounds_toArray, List.set_cons_zero, List.set_cons_succ]
                        refine wpAnyH_take (i := 32) (oi := ?_) (v := ?_) ?_ ?_ ?_ ?_ ?_ ?_ ?_ ?_
                        rotate_left 2
                        · (simp only [List.getElem?_toArray, List.getElem?_cons_succ, List.getElem?_cons_zero]; exact rfl)
                        · kernel_rfl
                        · kernel_rfl
                        · kernel_rfl
                        · exact fun _ _ _ h => h
                        · (refine Or.inl ⟨by rfl, ?_⟩; intro w hSw; (try dsimp only at hSw); go_simp; try with_reducible rfl)
                        · assumption
                        try simp only [Act.put, List.setIfInBounds_toArray, List.set_cons_zero, List.set_cons_succ]
                        refine wpAnyH_take (i := 34) (oi := ?_) (v := ?_) ?_ ?_ ?_ ?_ ?_ ?_ ?_ ?_
                        rotate_left 2
                        · (simp only [List.getElem?_toArray, List.getElem?_cons_succ, List.getElem?_cons_zero]; exact rfl)
                        · kernel_rfl
                        · kernel_rfl
                        · kernel_rfl
                        · exact fun _ _ _ h => h
                        · (refine Or.inl ⟨by rfl, ?_⟩; intro w hSw; (try dsimp only at hSw); go_simp; try with_reducible rfl)
                        · assumption
                        try simp only [Act.put, List.setIfInBounds_toArray, List.set_cons_zero, List.set_cons_succ]
                        refine wpAnyH_take (i := 35) (oi := ?_) (v := ?_) ?_ ?_ ?_ ?_ ?_ ?_ ?_ ?_
                        rotate_left 2
                        · (simp only [List.getElem?_toArray, List.getElem?_cons_succ, List.getElem?_cons_zero]; exact rfl)
                        · kernel_rfl
                        · kernel_rfl
                        · kernel_rfl
                        · exact fun _ _ _ h => h
                        · (refine Or.inl ⟨by rfl, ?_⟩; intro w hSw; (try dsimp only at hSw); go_simp; try with_reducible rfl)
                        · assumption
                        try simp only [Act.put, List.setIfInBounds_toArray, List.set_cons_zero, List.set_cons_succ]
                        refine wpAnyH_take (i := 36) (oi := ?_) (v := ?_) ?_ ?_ ?_ ?_ ?_ ?_ ?_ ?_
                        rotate_left 2
                        · (simp only [List.getElem?_toArray, List.getElem?_cons_succ, List.getElem?_cons_zero]; exact rfl)
                        · kernel_rfl
                        · kernel_rfl
                        · kernel_rfl
                        · exact fun _ _ _ h => h
                        · (refine Or.inl ⟨by rfl, ?_⟩; intro w hSw; (try dsimp only at hSw); go_simp; try with_reducible rfl)
                        · assumption
                        try simp only [Act.put, List.setIfInBounds_toArray, List.set_cons_zero, List.set_cons_succ]
                        refine wpAnyH_ready (rs := [33, 37]) (by kernel_rfl) (by simp) ?_
                        refine AllReadyH.cons (o := ?_) ?_ (fun K hK => ?_) ?_
                        rotate_left 1
                        · (simp only [List.getElem?_toArray, List.getElem?_cons_succ, List.getElem?_cons_zero]; exact rfl)
                        · go_simp
                          (go_at_call 22; (refine (KL.out _ hx).mono ?_); rintro e wx ⟨rfl, rfl⟩; dsimp only)
                          refine hK.out _ _ ?_ (fun hHeld => ?_)
                          · (try dsimp only) <;> (exact BF.out _ _ _ _ _ hx)
                          clear hK K
                          try simp only [Act.put, List.setIfInBounds_toArray, List.set_cons_zero, List.set_cons_succ]
                          refine wpAnyH_ready (rs := [37]) (by kernel_rfl) (by simp) ?_
                          refine AllReadyH.cons (o := ?_) ?_ (fun K hK => ?_) ?_
                          rotate_left 1
                          · (simp only [List.getElem?_toArray, List.getElem?_cons_succ, List.getElem?_cons_zero]; exact rfl)
                          · go_simp
                            refine hK.out _ _ ?_ (fun hHeld => ?_)
                            · (try dsimp only) <;> (exact BF.out _ _ _ _ _ hx)
                            clear hK K
                            try simp only [Act.put, List.setIfInBounds_toArray, List.set_cons_zero, List.set_cons_succ]
                            refine wpAnyH_take (i := 38) (oi := ?_) (v := ?_) ?_ ?_ ?_ ?_ ?_ ?_ ?_ ?_
                            rotate_left 2
                            · (simp only [List.getElem?_toArray, List.getElem?_cons_succ, List.getElem?_cons_zero]; exact rfl)
                            · kernel_rfl
                            · kernel_rfl
                            · kernel_rfl
                            · exact fun _ _ _ h => h
                            · (refine Or.inl ⟨by rfl, ?_⟩; intro w hSw; (try dsimp only at hSw); go_simp; try with_reducible rfl)
                            · assumption
                            try simp only [Act.put, List.setIfInBounds_toArray, List.set_cons_zero, List.set_cons_succ]
                            refine wpAnyH_take (i := 39) (oi := ?_) (v := ?_) ?_ ?_ ?_ ?_ ?_ ?_ ?_ ?_
                            rotate_left 2
                            · (simp only [List.getElem?_toArray, List.getElem?_cons_succ, List.getElem?_cons_zero]; exact rfl)
                            · kernel_rfl
                            · kernel_rfl
                            · kernel_rfl
                            · exact fun _ _ _ h => h
                            · (refine Or.inl ⟨by rfl, ?_⟩; intro w hSw; (try dsimp only at hSw); go_simp; try with_reducible rfl)
                            · assumption
                            try simp only [Act.put, List.setIfInBounds_toArray, List.set_cons_zero, List.set_cons_succ]
                            refine wpAnyH_take (i := 40) (oi := ?_) (v := ?_) ?_ ?_ ?_ ?_ ?_ ?_ ?_ ?_
                            rotate_left 2
                            · (simp only [List.getElem?_toArray, List.getElem?_cons_succ, List.getElem?_cons_zero]; exact rfl)
                            · kernel_rfl
                            · kernel_rfl
                            · kernel_rfl
                            · exact fun _ _ _ h => h
                            · (refine Or.inl ⟨by rfl, ?_⟩; intro w hSw; (try dsimp only at hSw); go_simp; try with_reducible rfl)
                            · assumption
                            try simp only [Act.put, List.setIfInBounds_toArray, List.set_cons_zero, List.set_cons_succ]
                            refine wpAnyH_done (by kernel_rfl) ?_ _
                            have HX := Lib.hid hx
                            clear hx
                            go_wp2_with fail
                            go_roundw
                            case rel => exact ⟨k + 1, nw, nb, by go_num, by omega, HNW.out, HNL.out, TS.weaken (by rw [HX9.out]; exact HX.out)⟩
                            case measure => simp [intOf]; omega
                          exact AllReadyH.nil
                        refine AllReadyH.cons (o := ?_) ?_ (fun K hK => ?_) ?_
                        rotate_left 1
                        · (simp only [List.getElem?_toArray, List.getElem?_cons_succ, List.getElem?_cons_zero]; exact rfl)
                        · go_simp
                          refine hK.out _ _ ?_ (fun hHeld => ?_)
                          · (try dsimp only) <;> (exact BF.out _ _ _ _ _ hx)
                          clear hK K
                          try simp only [Act.put, List.setIfInBounds_toArray, List.set_cons_zero, List.set_cons_succ]
                          refine wpAnyH_take (i := 38) (oi := ?_) (v := ?_) ?_ ?_ ?_ ?_ ?_ ?_ ?_ ?_
                          rotate_left 2
                          · (simp only [List.getElem?_toArray, List.getElem?_cons_succ, List.getElem?_cons_zero]; exact rfl)
                          · kernel_rfl
                          · kernel_rfl
                          · kernel_rfl
                          · exact fun _ _ _ h => h
                          · (refine Or.inl ⟨by rfl, ?_⟩; intro w hSw; (try dsimp only at hSw); go_simp; try with_reducible rfl)
                          · assumption
                          try simp only [Act.put, List.setIfInBounds_toArray, List.set_cons_zero, List.set_cons_succ]
                          refine wpAnyH_ready (rs := [33]) (by kernel_rfl) (by simp) ?_
                          refine AllReadyH.cons (o := ?_) ?_ (fun K hK => ?_) ?_
                          rotate_left 1
                          · (simp only [List.getElem?_toArray, List.getElem?_cons_succ, List.getElem?_cons_zero]; exact rfl)
                          · go_simp
                            (go_at_call 22; (refine (KL.out _ hx).mono ?_); rintro e wx ⟨rfl, rfl⟩; dsimp only)
                            refine hK.out _ _ ?_ (fun hHeld => ?_)
                            · (try dsimp only) <;> (exact BF.out _ _ _ _ _ hx)
                            clear hK K
                            try simp only [Act.put, List.setIfInBounds_toArray, List.set_cons_zero, List.set_cons_succ]
                            refine wpAnyH_take (i := 39) (oi := ?_) (v := ?_) ?_ ?_ ?_ ?_ ?_ ?_ ?_ ?_
                            rotate_left 2
                            · (simp only [List.getElem?_toArray, List.getElem?_cons_succ, List.getElem?_cons_zero]; exact rfl)
                            · kernel_rfl
                            · kernel_rfl
                            · kernel_rfl
                            · exact fun _ _ _ h => h
                            · (refine Or.inl ⟨by rfl, ?_⟩; intro w hSw; (try dsimp only at hSw); go_simp; try with_reducible rfl)
                            · assumption
                            try simp only [Act.put, List.setIfInBounds_toArray, List.set_cons_zero, List.set_cons_succ]
                            refine wpAnyH_take (i := 40) (oi := ?_) (v := ?_) ?_ ?_ ?_ ?_ ?_ ?_ ?_ ?_
                            rotate_left 2
                            · (simp only [List.getElem?_toArray, List.getElem?_cons_succ, List.getElem?_cons_zero]; exact rfl)
                            · kernel_rfl
                            · kernel_rfl
                            · kernel_rfl
                            · exact fun _ _ _ h => h
                            · (refine Or.inl ⟨by rfl, ?_⟩; intro w hSw; (try dsimp only at hSw); go_simp; try with_reducible rfl)
                            · assumption
                            try simp only [Act.put, List.setIfInBounds_toArray, List.set_cons_zero, List.set_cons_succ]
                            refine wpAnyH_done (by kernel_rfl) ?_ _
                            have HX := Lib.hid hx
                            clear hx
                            go_wp2_with fail
                            go_roundw
                            case rel => exact ⟨k + 1, nw, nb, by go_num, by omega, HNW.out, HNL.out, TS.weaken (by rw [HX9.out]; exact HX.out)⟩
                            case measure => simp [intOf]; omega
                          exact AllReadyH.nil
                        exact AllReadyH.nil
                      exact AllReadyH.nil
                    exact AllReadyH.nil
                  exact AllReadyH.nil
                exact AllReadyH.nil
              exact AllReadyH.nil
            refine AllReadyH.cons (o := ?_) ?_ (fun K hK => ?_) ?_
            rotate_left 1
            · (simp only [List.getElem?_toArray, List.getElem?_cons_succ, List.getElem?_cons_zero]; exact rfl)
            · go_simp
              refine hK.out _ _ ?_ (fun hHeld => ?_)
              · (try dsimp only) <;> (exact BF.out _ _ _ _ _ hx)
              clear hK K
              try simp only [Act.put, List.setIfInBounds_toArray, List.set_cons_zero, List.set_cons_succ]
              refine wpAnyH_ready (rs := [10]) (by kernel_rfl) (by simp) ?_
              refine AllReadyH.cons (o := ?_) ?_ (fun K hK => ?_) ?_
              rotate_left 1
              · (simp only [List.getElem?_toArray, List.getElem?_cons_succ, List.getElem?_cons_zero]; exact rfl)
              · go_simp
                (go_at_call 17; (refine (KW.out _ hx).mono ?_); rintro e wx ⟨rfl, rfl⟩; dsimp only)
                refine hK.out _ _ ?_ (fun hHeld => ?_)
                · (try dsimp only) <;> (exact BF.out _ _ _ _ _ hx)
                clear hK K
                try simp only [Act.put, List.setIfInBounds_toArray, List.set_cons_zero, List.set_cons_succ]
                refine wpAnyH_take (i := 15) (oi := ?_) (v := ?_) ?_ ?_ ?_ ?_ ?_ ?_ ?_ ?_
                rotate_left 2
                · (simp only [List.getElem?_toArray, List.getElem?_cons_succ, List.getElem?_cons_zero]; exact rfl)
                · kernel_rfl
                · kernel_rfl
                · kernel_rfl
                · exact fun _ _ _ h => h
                · (refine Or.inl ⟨by rfl, ?_⟩; intro w hSw; (try dsimp only at hSw); go_simp; try with_reducible rfl)
                · assumption
                try simp only [Act.put, List.setIfInBounds_toArray, List.set_cons_zero, List.set_cons_succ]
                refine wpAnyH_take (i := 16) (oi := ?_) (v := ?_) ?_ ?_ ?_ ?_ ?_ ?_ ?_ ?_
                rotate_left 2
                · (simp only [List.getElem?_toArray, List.getElem?_cons_succ, List.getElem?_cons_zero]; exact rfl)
                · kernel_rfl
                · kernel_rfl
                · kernel_rfl
                · exact fun _ _ _ h => h
                · (refine Or.inl ⟨by rfl, ?_⟩; intro w hSw; (try dsimp only at hSw); go_simp; try with_reducible rfl)
                · assumption
                try simp only [Act.put, List.setIfInBounds_toArray, List.set_cons_zero, List.set_cons_succ]
                refine wpAnyH_take (i := 17) (oi := ?_) (v := ?_) ?_ ?_ ?_ ?_ ?_ ?_ ?_ ?_
                rotate_left 2
                · (simp only [List.getElem?_toArray, List.getElem?_cons_succ, List.getElem?_cons_zero]; exact rfl)
                · kernel_rfl
                · kernel_rfl
                · kernel_rfl
                · exact fun _ _ _ h => h
                · (refine Or.inl ⟨by rfl, ?_⟩; intro w hSw; (try dsimp only at hSw); go_simp; try with_reducible rfl)
                · assumption
                try simp only [Act.put, List.setIfInBounds_toArray, List.set_cons_zero, List.set_cons_succ]
                refine wpAnyH_take (i := 18) (oi := ?_) (v := ?_) ?_ ?_ ?_ ?_ ?_ ?_ ?_ ?_
                rotate_left 2
                · (simp only [List.getElem?_toArray, List.getElem?_cons_succ, List.getElem?_cons_zero]; exact rfl)
                · kernel_rfl
                · kernel_rfl
                · kernel_rfl
                · exact fun _ _ _ h => h
                · (refine Or.inl ⟨by rfl, ?_⟩; intro w hSw; (try dsimp only at hSw); go_simp; try with_reducible rfl)
                · assumption
                try simp only [Act.put, List.setIfInBounds_toArray, List.set_cons_zero, List.set_cons_succ]
                refine wpAnyH_take (i := 20) (oi := ?_) (v := ?_) ?_ ?_ ?_ ?_ ?_ ?_ ?_ ?_
                rotate_left 2
                · (simp only [List.getElem?_toArray, List.getElem?_cons_succ, List.getElem?_cons_zero]; exact rfl)
                · kernel_rfl
                · kernel_rfl
                · kernel_rfl
                · exact fun _ _ _ h => h
                · (refine Or.inl ⟨by rfl, ?_⟩; intro w hSw; (try dsimp only at hSw); go_simp; try with_reducible rfl)
                · assumption
                try simp only [Act.put, List.setIfInBounds_toArray, List.set_cons_zero, List.set_cons_succ]
                refine wpAnyH_ready (rs := [19]) (by kernel_rfl) (by simp) ?_
                refine AllReadyH.cons (o := ?_) ?_ (fun K hK => ?_) ?_
                rotate_left 1
                · (simp only [List.getElem?_toArray, List.getElem?_cons_succ, List.getElem?_cons_zero]; exact rfl)
                · go_simp
                  (go_at_call 18; (refine (KD.out _ hx).mono ?_); rintro e wx ⟨rfl, hx⟩; obtain ⟨A3, c3, e37, e38⟩ := KF.out _ hx; dsimp only)
                  refine hK.out _ _ ?_ (fun hHeld => ?_)
                  · (try dsimp only) <;> (exact BF.out _ _ _ _ _ hx)
                  clear hK K
                  try simp only [Act.put, List.setIfInBounds_toArray, List.set_cons_zero, List.set_cons_succ]
                  refine wpAnyH_ready (rs := [21]) (by kernel_rfl) (by simp) ?_
                  refine AllReadyH.cons (o := ?_) ?_ (fun K hK => ?_) ?_
                  rotate_left 1
                  · (simp only [List.getElem?_toArray, List.getElem?_cons_succ, List.getElem?_cons_zero]; exact rfl)
                  · go_simp
                    (go_at_call 19; (refine (KRD.out _ hx).mono ?_); rintro e wx ⟨rfl, hx⟩; obtain ⟨A3, c3, e37, e38⟩ := KF.out _ hx; dsimp only)
                    refine hK.out _ _ ?_ (fun hHeld => ?_)
                    · (try dsimp only) <;> (exact BF.out _ _ _ _ _ hx)
                    clear hK K
                    try simp only [Act.put, List.setIfInBounds_toArray, List.set_cons_zero, List.set_cons_succ]
                    refine wpAnyH_take (i := 22) (oi := ?_) (v := ?_) ?_ ?_ ?_ ?_ ?_ ?_ ?_ ?_
                    rotate_left 2
                    · (simp only [List.getElem?_toArray, List.getElem?_cons_succ, List.getElem?_cons_zero]; exact rfl)
                    · kernel_rfl
                    · kernel_rfl
                    · kernel_rfl
                    · exact fun _ _ _ h => h
                    · (refine Or.inl ⟨by rfl, ?_⟩; intro w hSw; (try dsimp only at hSw); go_simp; try with_reducible rfl)
                    · assumption
                    try simp only [Act.put, List.setIfInBounds_toArray, List.set_cons_zero, List.set_cons_succ]
                    refine wpAnyH_take (i := 23) (oi := ?_) (v := ?_) ?_ ?_ ?_ ?_ ?_ ?_ ?_ ?_
                    rotate_left 2
                    · (simp only [List.getElem?_toArray, List.getElem?_cons_succ, List.getElem?_cons_zero]; exact rfl)
                    · kernel_rfl
                    · kernel_rfl
                    · kernel_rfl
                    · exact fun _ _ _ h => h
                    · (refine Or.inl ⟨by rfl, ?_⟩; intro w hSw; (try dsimp only at hSw); go_simp; try with_reducible rfl)
                    · assumption
                    try simp only [Act.put, List.setIfInBounds_toArray, List.set_cons_zero, List.set_cons_succ]
                    refine wpAnyH_take (i := 24) (oi := ?_) (v := ?_) ?_ ?_ ?_ ?_ ?_ ?_ ?_ ?_
                    rotate_left 2
                    · (simp only [List.getElem?_toArray, List.getElem?_cons_succ, List.getElem?_cons_zero]; exact rfl)
                    · kernel_rfl
                    · kernel_rfl
                    · kernel_rfl
                    · exact fun _ _ _ h => h
                    · (refine Or.inl ⟨by rfl, ?_⟩; intro w hSw; (try dsimp only at hSw); go_simp; try with_reducible rfl)
                    · assumption
                    try simp only [Act.put, List.setIfInBounds_toArray, List.set_cons_zero, List.set_cons_succ]
                    refine wpAnyH_take (i := 25) (oi := ?_) (v := ?_) ?_ ?_ ?_ ?_ ?_ ?_ ?_ ?_
                    rotate_left 2
                    · (simp only [List.getElem?_toArray, List.getElem?_cons_succ, List.getElem?_cons_zero]; exact rfl)
                    · kernel_rfl
                    · kernel_rfl
                    · kernel_rfl
                    · exact fun _ _ _ h => h
                    · (refine Or.inl ⟨by rfl, ?_⟩; intro w hSw; (try dsimp only at hSw); go_simp; try with_reducible rfl)
                    · assumption
                    try simp only [Act.put, List.setIfInBounds_toArray, List.set_cons_zero, List.set_cons_succ]
                    refine wpAnyH_take (i := 27) (oi := ?_) (v := ?_) ?_ ?_ ?_ ?_ ?_ ?_ ?_ ?_
                    rotate_left 2
                    · (simp only [List.getElem?_toArray, List.getElem?_cons_succ, List.getElem?_cons_zero]; exact rfl)
                    · kernel_rfl
                    · kernel_rfl
                    · kernel_rfl
                    · exact fun _ _ _ h => h
                    · (refine Or.inl ⟨by rfl, ?_⟩; intro w hSw; (try dsimp only at hSw); go_simp; try with_reducible rfl)
                    · assumption
                    try simp only [Act.put, List.setIfInBounds_toArray, List.set_cons_zero, List.set_cons_succ]
                    refine wpAnyH_ready (rs := [26]) (by kernel_rfl) (by simp) ?_
                    refine AllReadyH.cons (o := ?_) ?_ (fun K hK => ?_) ?_
                    rotate_left 1
                    · (simp only [List.getElem?_toArray, List.getElem?_cons_succ, List.getElem?_cons_zero]; exact rfl)
                    · go_simp
                      (go_at_call 20; (refine (KWH.out _ hx).mono ?_); rintro e wx ⟨rfl, hx⟩; obtain ⟨A3, c3, e37, e38⟩ := KF.out _ hx; dsimp only)
                      refine hK.out _ _ ?_ (fun hHeld => ?_)
                      · (try dsimp only) <;> (exact BF.out _ _ _ _ _ hx)
                      clear hK K
                      try simp only [Act.put, List.setIfInBounds_toArray, List.set_cons_zero, List.set_cons_succ]
                      refine wpAnyH_ready (rs := [28]) (by kernel_rfl) (by simp) ?_
                      refine AllReadyH.cons (o := ?_) ?_ (fun K hK => ?_) ?_
                      rotate_left 1
                      · (simp only [List.getElem?_toArray, List.getElem?_cons_succ, List.getElem?_cons_zero]; exact rfl)
                      · go_simp
                        (go_at_call 21; (refine (KRW.out _ hx).mono ?_); rintro e wx ⟨rfl, hx⟩; obtain ⟨A3, c3, e37, e38⟩ := KF.out _ hx; dsimp only)
                        refine hK.out _ _ ?_ (fun hHeld => ?_)
                        · (try dsimp only) <;> (exact BF.out _ _ _ _ _ hx)
                        clear hK K
                        try simp only [Act.put, List.setIfInBounds_toArray, List.set_cons_zero, List.set_cons_succ]
                        refine wpAnyH_take (i := 29) (oi := ?_) (v := ?_) ?_ ?_ ?_ ?_ ?_ ?_ ?_ ?_
                        rotate_left 2
                        · (simp only [List.getElem?_toArray, List.getElem?_cons_succ, List.getElem?_cons_zero]; exact rfl)
                        · kernel_rfl
                        · kernel_rfl
                        · kernel_rfl
                        · exact fun _ _ _ h => h
                        · (refine Or.inl ⟨by rfl, ?_⟩; intro w hSw; (try dsimp only at hSw); go_simp; try with_reducible rfl)
                        · assumption
                        try simp only [Act.put, List.setIfInBounds_toArray, List.set_cons_zero, List.set_cons_succ]
                        refine wpAnyH_take (i := 30) (oi := ?_) (v := ?_) ?_ ?_ ?_ ?_ ?_ ?_ ?_ ?_
                        rotate_left 2
                        · (simp only [List.getElem?_toArray, List.getElem?_cons_succ, List.getElem?_cons_zero]; exact rfl)
                        · kernel_rfl
                        · kernel_rfl
                        · kernel_rfl
                        · exact fun _ _ _ h => h
                        · (refine Or.inl ⟨by rfl, ?_⟩; intro w hSw; (try dsimp only at hSw); go_simp; try with_reducible rfl)
                        · assumption
                        try simp only [Act.put, List.setIfInBounds_toArray, List.set_cons_zero, List.set_cons_succ]
                        refine wpAnyH_take (i := 31) (oi := ?_) (v := ?_) ?_ ?_ ?_ ?_ ?_ ?_ ?_ ?_
                        rotate_left 2
                        · (simp only [List.getElem?_toArray, List.getElem?_cons_succ, List.getElem?_cons_zero]; exact rfl)
                        · kernel_rfl
                        · kernel_rfl
                        · kernel_rfl
                        · exact fun _ _ _ h => h
                        · (refine Or.inl ⟨by rfl, ?_⟩; intro w hSw; (try dsimp only at hSw); go_simp; try with_reducible rfl)
                        · assumption
                        try simp only [Act.put, List.setIfInBounds_toArray, List.set_cons_zero, List.set_cons_succ]
                        refine wpAnyH_take (i := 32) (oi := ?_) (v := ?_) ?_ ?_ ?_ ?_ ?_ ?_ ?_ ?_
                        rotate_left 2
                        · (simp only [List.getElem?_toArray, List.getElem?_cons_succ, List.getElem?_cons_zero]; exact rfl)
                        · kernel_rfl
                        · kernel_rfl
                        · kernel_rfl
                        · exact fun _ _ _ h => h
                        · (refine Or.inl ⟨by rfl, ?_⟩; intro w hSw; (try dsimp only at hSw); go_simp; try with_reducible rfl)
                        · assumption
                        try simp only [Act.put, List.setIfInBounds_toArray, List.set_cons_zero, List.set_cons_succ]
                        refine wpAnyH_take (i := 34) (oi := ?_) (v := ?_) ?_ ?_ ?_ ?_ ?_ ?_ ?_ ?_
                        rotate_left 2
                        · (simp only [List.getElem?_toArray, List.getElem?_cons_succ, List.getElem?_cons_zero]; exact rfl)
                        · kernel_rfl
                        · kernel_rfl
                        · kernel_rfl
                        · exact fun _ _ _ h => h
                        · (refine Or.inl ⟨by rfl, ?_⟩; intro w hSw; (try dsimp only at hSw); go_simp; try with_reducible rfl)
                        · assumption
                        try simp only [Act.put, List.setIfInBounds_toArray, List.set_cons_zero, List.set_cons_succ]
                        refine wpAnyH_take (i := 35) (oi := ?_) (v := ?_) ?_ ?_ ?_ ?_ ?_ ?_ ?_ ?_
                        rotate_left 2
                        · (simp only [List.getElem?_toArray, List.getElem?_cons_succ, List.getElem?_cons_zero]; exact rfl)
                        · kernel_rfl
                        · kernel_rfl
                        · kernel_rfl
                        · exact fun _ _ _ h => h
                        · (refine Or.inl ⟨by rfl, ?_⟩; intro w hSw; (try dsimp only at hSw); go_simp; try with_reducible rfl)
                        · assumption
                        try simp only [Act.put, List.setIfInBounds_toArray, List.set_cons_zero, List.set_cons_succ]
                        refine wpAnyH_take (i := 36) (oi := ?_) (v := ?_) ?_ ?_ ?_ ?_ ?_ ?_ ?_ ?_
                        rotate_left 2
                        · (simp only [List.getElem?_toArray, List.getElem?_cons_succ, List.getElem?_cons_zero]; exact rfl)
                        · kernel_rfl
                        · kernel_rfl
                        · kernel_rfl
                        · exact fun _ _ _ h => h
                        · (refine Or.inl ⟨by rfl, ?_⟩; intro w hSw; (try dsimp only at hSw); go_simp; try with_reducible rfl)
                        · assumption
                        try simp only [Act.put, List.setIfInBounds_toArray, List.set_cons_zero, List.set_cons_succ]
                        refine wpAnyH_ready (rs := [33, 37]) (by kernel_rfl) (by simp) ?_
                        refine AllReadyH.cons (o := ?_) ?_ (fun K hK => ?_) ?_
                        rotate_left 1
                        · (simp only [List.getElem?_toArray, List.getElem?_cons_succ, List.getElem?_cons_zero]; exact rfl)
                        · go_simp
                          (go_at_call 22; (refine (KL.out _ hx).mono ?_); rintro e wx ⟨rfl, rfl⟩; dsimp only)
                          refine hK.out _ _ ?_ (fun hHeld => ?_)
                          · (try dsimp only) <;> (exact BF.out _ _ _ _ _ hx)
                          clear hK K
                          try simp only [Act.put, List.setIfInBounds_toArray, List.set_cons_zero, List.set_cons_succ]
                          refine wpAnyH_ready (rs := [37]) (by kernel_rfl) (by simp) ?_
                          refine AllReadyH.cons (o := ?_) ?_ (fun K hK => ?_) ?_
                          rotate_left 1
                          · (simp only [List.getElem?_toArray, List.getElem?_cons_succ, List.getElem?_cons_zero]; exact rfl)
                          · go_simp
                            refine hK.out _ _ ?_ (fun hHeld => ?_)
                            · (try dsimp only) <;> (exact BF.out _ _ _ _ _ hx)
                            clear hK K
                            try simp only [Act.put, List.setIfInBounds_toArray, List.set_cons_zero, List.set_cons_succ]
                            refine wpAnyH_take (i := 38) (oi := ?_) (v := ?_) ?_ ?_ ?_ ?_ ?_ ?_ ?_ ?_
                            rotate_left 2
                            · (simp only [List.getElem?_toArray, List.getElem?_cons_succ, List.getElem?_cons_zero]; exact rfl)
                            · kernel_rfl
                            · kernel_rfl
                            · kernel_rfl
                            · exact fun _ _ _ h => h
                            · (refine Or.inl ⟨by rfl, ?_⟩; intro w hSw; (try dsimp only at hSw); go_simp; try with_reducible rfl)
                            · assumption
                            try simp only [Act.put, List.setIfInBounds_toArray, List.set_cons_zero, List.set_cons_succ]
                            refine wpAnyH_take (i := 39) (oi := ?_) (v := ?_) ?_ ?_ ?_ ?_ ?_ ?_ ?_ ?_
                            rotate_left 2
                            · (simp only [List.getElem?_toArray, List.getElem?_cons_succ, List.getElem?_cons_zero]; exact rfl)
                            · kernel_rfl
                            · kernel_rfl
                            · kernel_rfl
                            · exact fun _ _ _ h => h
                            · (refine Or.inl ⟨by rfl, ?_⟩; intro w hSw; (try dsimp only at hSw); go_simp; try with_reducible rfl)
                            · assumption
                            try simp only [Act.put, List.setIfInBounds_toArray, List.set_cons_zero, List.set_cons_succ]
                            refine wpAnyH_take (i := 40) (oi := ?_) (v := ?_) ?_ ?_ ?_ ?_ ?_ ?_ ?_ ?_
                            rotate_left 2
                            · (simp only [List.getElem?_toArray, List.getElem?_cons_succ, List.getElem?_cons_zero]; exact rfl)
                            · kernel_rfl
                            · kernel_rfl
                            · kernel_rfl
                            · exact fun _ _ _ h => h
                            · (refine Or.inl ⟨by rfl, ?_⟩; intro w hSw; (try dsimp only at hSw); go_simp; try with_reducible rfl)
                            · assumption
                            try simp only [Act.put, List.setIfInBounds_toArray, List.set_cons_zero, List.set_cons_succ]
                            refine wpAnyH_done (by kernel_rfl) ?_ _
                            have HX := Lib.hid hx
                            clear hx
                            go_wp2_with fail
                            go_roundw
                            case rel => exact ⟨k + 1, nw, nb, by go_num, by omega, HNW.out, HNL.out, TS.weaken (by rw [HX9.out]; exact HX.out)⟩
                            case measure => simp [intOf]; omega
                          exact AllReadyH.nil
                        refine AllReadyH.cons (o := ?_) ?_ (fun K hK => ?_) ?_
                        rotate_left 1
                        · (simp only [List.getElem?_toArray, List.getElem?_cons_succ, List.getElem?_cons_zero]; exact rfl)
                        · go_simp
                          refine hK.out _ _ ?_ (fun hHeld => ?_)
                          · (try dsimp only) <;> (exact BF.out _ _ _ _ _ hx)
                          clear hK K
                          try simp only [Act.put, List.setIfInBounds_toArray, List.set_cons_zero, List.set_cons_succ]
                          refine wpAnyH_take (i := 38) (oi := ?_) (v := ?_) ?_ ?_ ?_ ?_ ?_ ?_ ?_ ?_
                          rotate_left 2
                          · (simp only [List.getElem?_toArray, List.getElem?_cons_succ, List.getElem?_cons_zero]; exact rfl)
                          · kernel_rfl
                          · kernel_rfl
                          · kernel_rfl
                          · exact fun _ _ _ h => h
                          · (refine Or.inl ⟨by rfl, ?_⟩; intro w hSw; (try dsimp only at hSw); go_simp; try with_reducible rfl)
                          · assumption
                          try simp only [Act.put, List.setIfInBounds_toArray, List.set_cons_zero, List.set_cons_succ]
                          refine wpAnyH_ready (rs := [33]) (by kernel_rfl) (by simp) ?_
                          refine AllReadyH.cons (o := ?_) ?_ (fun K hK => ?_) ?_
                          rotate_left 1
                          · (simp only [List.getElem?_toArray, List.getElem?_cons_succ, List.getElem?_cons_zero]; exact rfl)
                          · go_simp
                            (go_at_call 22; (refine (KL.out _ hx).mono ?_); rintro e wx ⟨rfl, rfl⟩; dsimp only)
                            refine hK.out _ _ ?_ (fun hHeld => ?_)
                            · (try dsimp only) <;> (exact BF.out _ _ _ _ _ hx)
                            clear hK K
                            try simp only [Act.put, List.setIfInBounds_toArray, List.set_cons_zero, List.set_cons_succ]
                            refine wpAnyH_take (i := 39) (oi := ?_) (v := ?_) ?_ ?_ ?_ ?_ ?_ ?_ ?_ ?_
                            rotate_left 2
                            · (simp only [List.getElem?_toArray, List.getElem?_cons_succ, List.getElem?_cons_zero]; exact rfl)
                            · kernel_rfl
                            · kernel_rfl
                            · kernel_rfl
                            · exact fun _ _ _ h => h
                            · (refine Or.inl ⟨by rfl, ?_⟩; intro w hSw; (try dsimp only at hSw); go_simp; try with_reducible rfl)
                            · assumption
                            try simp only [Act.put, List.setIfInBounds_toArray, List.set_cons_zero, List.set_cons_succ]
                            refine wpAnyH_take (i := 40) (oi := ?_) (v := ?_) ?_ ?_ ?_ ?_ ?_ ?_ ?_ ?_
                            rotate_left 2
                            · (simp only [List.getElem?_toArray, List.getElem?_cons_succ, List.getElem?_cons_zero]; exact rfl)
                            · kernel_rfl
                            · kernel_rfl
                            · kernel_rfl
                            · exact fun _ _ _ h => h
                            · (refine Or.inl ⟨by rfl, ?_⟩; intro w hSw; (try dsimp only at hSw); go_simp; try with_reducible rfl)
                            · assumption
                            try simp only [Act.put, List.setIfInBounds_toArray, List.set_cons_zero, List.set_cons_succ]
                            refine wpAnyH_done (by kernel_rfl) ?_ _
                            have HX := Lib.hid hx
                            clear hx
                            go_wp2_with fail
                            go_roundw
                            case rel => exact ⟨k + 1, nw, nb, by go_num, by omega, HNW.out, HNL.out, TS.weaken (by rw [HX9.out]; exact HX.out)⟩
                            case measure => simp [intOf]; omega
                          exact AllReadyH.nil
                        exact AllReadyH.nil
                      exact AllReadyH.nil
                    exact AllReadyH.nil
                  exact AllReadyH.nil
                exact AllReadyH.nil
              exact AllReadyH.nil
            exact AllReadyH.nil
          exact AllReadyH.nil
        · obtain rfl : k = ks.length := by omega
          have hfin := (hts.st.less HLE.out).below (Le.refl _)
          have HF := Lib.hid hfin
          clear hfin hts
          go_wp2_with fail
          go_ret
          exact ⟨rfl, by rw [← HB2.out]; exact HF.out⟩
end Go.Proofs.YtkpgliaahibjgaaDoor
