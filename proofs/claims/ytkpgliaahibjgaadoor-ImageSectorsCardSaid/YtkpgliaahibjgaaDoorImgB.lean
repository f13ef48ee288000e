/- image: a stream; New: walk. -/
import Derived.Test.YtkpgliaahibjgaaDoorImgA
import Derived.Test.YtkpgliaahibjgaaDoorManB
import Derived.Test.YtkpgliaahibjgaaDoorDigs
import Derived.Deep.RegionHeld3
import Derived.Deep.RegionWith
namespace Go.Proofs.YtkpgliaahibjgaaDoor
set_option linter.unusedVariables false
set_option linter.unusedSimpArgs false
open Go.RowKit Go.Lib

theorem range_old {w : World} {o : Obj} {b off : Nat} {ls : List Value} (h : w.rangeAt b off ls) : (w.alloc o).rangeAt b off ls := fun j v hv => cell_old (h j v hv)
/-- A stream as it lies in memory. -/
def sCells (m : Man) (g want : Nat) : Array Value := (m.cells.toList ++ [Value.pointer (some ⟨g, 0, none⟩), .int .i64 want]).toArray
theorem sCells_lo {m : Man} (ok : m.Ok) (g want : Nat) {j : Nat} (h : j < 37) : (sCells m g want)[j]? = m.cells[j]? := by
  have h1 := Man.cells_size ok
  unfold sCells
  rw [List.getElem?_toArray, List.getElem?_append_left (by rw [Array.length_toList]; omega), Array.getElem?_toList]
theorem sCells_37 {m : Man} (ok : m.Ok) (g want : Nat) : (sCells m g want)[37]? = some (.pointer (some ⟨g, 0, none⟩)) := by
  have h1 := Man.cells_size ok
  unfold sCells
  rw [List.getElem?_toArray, List.getElem?_append_right (by rw [Array.length_toList]; omega), Array.length_toList, h1]
  rfl
theorem sCells_38 {m : Man} (ok : m.Ok) (g want : Nat) : (sCells m g want)[38]? = some (.int .i64 want) := by
  have h1 := Man.cells_size ok
  unfold sCells
  rw [List.getElem?_toArray, List.getElem?_append_right (by rw [Array.length_toList]; omega), Array.length_toList, h1]
  rfl
theorem sCells_set {m : Man} (ok : m.Ok) (g want k : Nat) : (sCells m g want).setIfInBounds 38 (.int .i64 k) = sCells m g k := by
  have h1 := Man.cells_size ok
  unfold sCells
  apply Array.toList_inj.1
  rw [Array.toList_setIfInBounds]
  simp only
  rw [List.set_append_right _ _ (by rw [Array.length_toList]; omega), Array.length_toList, h1]
  rfl
theorem fold_fill (X Z : Array Value) (n : Nat) (h : X.size = n) (hz : n ≤ Z.size) : Array.foldl (fun cs (x : Value × Nat) => cs.setIfInBounds x.snd x.fst) Z X.zipIdx 0 n = (X.toList ++ Z.toList.drop n).toArray := by
  have e : Array.foldl (fun cs (x : Value × Nat) => cs.setIfInBounds x.snd x.fst) Z X.zipIdx 0 n = Array.foldl (fun cs (x : Value × Nat) => cs.setIfInBounds x.snd x.fst) Z X.zipIdx 0 X.zipIdx.size := by rw [Array.size_zipIdx, h]
  rw [e, ← Array.foldl_toList, Array.toList_zipIdx, fold_set]
  apply Array.ext_getElem?
  intro j
  rw [setMany_get _ _ _ _ (by rw [Array.length_toList]; omega), Array.length_toList, h]
  by_cases hj : j < n
  · rw [if_pos (by omega), Nat.sub_zero, List.getElem?_toArray]
    exact (List.getElem?_append_left (by rw [Array.length_toList]; omega)).symm
  · rw [if_neg (by omega), List.getElem?_toArray]
    have := List.getElem?_append_right (l₁ := X.toList) (l₂ := Z.toList.drop n) (i := j) (by rw [Array.length_toList]; omega)
    rw [List.getElem?_toArray, this, Array.length_toList, h, List.getElem?_drop, show n + (j - n) = j by omega, Array.getElem?_toList]

section
variable {W w : World} {I : Nat → Option Obj} {F : List (Nat × Obj)}
theorem Digs.alloc {ds : List (Nat × List UInt8)} (h : Digs W w I ds F) (o : Obj) : Digs W (w.alloc o) I ds ((w.heap.size, o) :: F) := by
  obtain ⟨G, hb, hst⟩ := h
  exact ⟨G, hb, (hst.alloc o).perm List.perm_middle.symm⟩
theorem Digs.mid {ds : List (Nat × List UInt8)} {A B : List (Nat × Obj)} (h : Digs W w I ds (A ++ (B ++ F))) : Digs W w I ds (A ++ F) := by
  obtain ⟨G, hb, hst⟩ := h
  refine ⟨G, hb, ?_⟩
  rw [← List.append_assoc] at hst ⊢
  exact St.mid hst
/-- A stream: where, its manifest, what it has taken, how many. -/
def Strm (W w : World) (I : Nat → Option Obj) (s g : Nat) (m : Man) (bs : List UInt8) (want : Nat) (F : List (Nat × Obj)) : Prop := Digs W w I [(g, bs)] ((s, .cells (sCells m g want) 71 (0, 0)) :: F)
def NewPost (W : World) (I : Nat → Option Obj) (F : List (Nat × Obj)) (m : Man) (hs : List (List UInt8)) (e : Ending) (w' : World) : Prop :=
  (rightM m = true → ∃ J A' c' s g, Le I J ∧ e = .returned (.tuple #[.pointer (some ⟨s, 0, none⟩), .int .i64 0]) ∧ HsIn A' hs W J ∧ Strm W w' J s g { m with A := A', n := hs.length, c := c' } [] 0 F) ∧
  (rightM m = false → e = .returned (.tuple #[.pointer none, .int .i64 131]) ∧ St W w' I F)

set_option maxRecDepth 100000 in
set_option maxHeartbeats 4000000 in
theorem inew (t : TB W I) (m : Man) (ok : m.Ok) (hs : List (List UInt8)) (hn : m.n = hs.length) (hh : HsIn m.A hs W I) (hps : m.prod.size ≤ 140737488355328) (hsl : hs.length ≤ 1000000) (h : St W w I F) :
    Calls Tryd.prog 13 #[m.val] w (NewPost W I F m hs) := by
  have h1 := h.alloc (.cells m.cells 34)
  have cR := right_own t m ok hps h1
  have hsz := Man.cells_size ok
  have hmi : (Tryd.prog.info? 34).map (·.size) = some m.cells.size := by rw [hsz]; kernel_rfl
  obtain ⟨R, hR⟩ : ∃ R, rightM m = R := ⟨_, rfl⟩
  rw [hR] at cR
  obtain ⟨mk, hmk⟩ : ∃ mk, mk = m.cells := ⟨_, rfl⟩
  have hval : m.val = .agg mk := by rw [hmk]; rfl
  rw [hval] at cR ⊢
  rw [← hmk] at hmi h1 cR hsz
  have H1 := Lib.hid h1; have CR := Lib.hid cR; have HMI := Lib.hid hmi; have HMK := Lib.hid hmk; have HR := Lib.hid hR; have HH := Lib.hid hh; have HSZ := Lib.hid hsz; have HVAL := Lib.hid hval
  clear h h1 cR hmi hmk hR hh hsz hval t
  go_enter Tryd.func13, Tryd.ntmps13
  go_wp2_with (with_reducible refine wpList_load_st rfl 34 (.tmp 1) rfl (g := w.heap.size) (off := 0) rfl H1.out (List.mem_cons_self ..) mk (fun j hj => by rw [Nat.zero_add]) _ Tryd.underlying34 rfl HMI.out ?_)
  refine CR.out.mono ?_
  rintro e w1 ⟨rfl, h2⟩
  have H2 := Lib.hid h2
  clear H1 CR h2
  generalize w.heap.size = b1 at *
  cases R with
  | false =>
    go_wp2_with fail
    go_ret2
    exact ⟨fun h => absurd (HR.out.symm.trans h) (by simp), fun _ => ⟨rfl, St.weaken (A := [_]) H2.out⟩⟩
  | true =>
    have d36 : w1.cell? ⟨b1, 36, none⟩ = some (.slice m.A m.n m.c) := (H2.out.cell (g := b1) (List.mem_cons_self ..) 36).trans (by rw [HMK.out]; exact Man.g36 ok)
    rw [hn] at d36
    go_wp2_with fail
    refine (clone_hashes m.A m.c hs HH.out hsl H2.out).mono ?_
    rintro e w2 ⟨A', c', L', rfl, hr, h3⟩
    obtain ⟨J, hle, hh', h4⟩ := hs_freeze HH.out.len hr h3
    have z36 : (w2.cell? ⟨b1, 36, none⟩) = some (.slice m.A m.n m.c) := (h4.cell (g := b1) (List.mem_cons_self ..) 36).trans (by rw [HMK.out]; exact Man.g36 ok)
    have f36 : w2.frozen? ⟨b1, 36, none⟩ = false := h4.frozen (g := b1) (List.mem_cons_self ..) 36
    have h5 := St.set (A := []) h4 36 (.slice A' hs.length c')
    rw [HMK.out, man_set36 m ok] at h5
    obtain ⟨mk', hmk'⟩ : ∃ mk', mk' = Man.cells { m with A := A', n := hs.length, c := c' } := ⟨_, rfl⟩
    rw [← hmk'] at h5
    have ok' : ({ m with A := A', n := hs.length, c := c' } : Man).Ok := ⟨ok.dig, ok.v0, ok.v1, ok.s0, ok.s1, ok.c0, ok.c1, by simp only; omega⟩
    have hms' : mk'.size = 37 := by rw [hmk']; exact Man.cells_size ok'
    have hmi' : (Tryd.prog.info? 34).map (·.size) = some mk'.toList.length := by rw [Array.length_toList, hms']; kernel_rfl
    have RG : Hid (∀ v L, St W v J ((b1, .cells mk' 34 (0, 0)) :: L) → v.rangeAt b1 0 mk'.toList) := Lib.hid (fun v L hv => hv.rangeAt (g := b1) (List.mem_cons_self ..) (fun j hj => by rw [Nat.zero_add, Array.getElem?_toList]))
    have cN := fun (v : World) (hv : St W v J ((b1, .cells mk' 34 (0, 0)) :: F)) => ds_new (Digs.nil hv)
    obtain ⟨Y, hY⟩ : ∃ Y, Array.foldl (fun cs (x : Value × Nat) => cs.setIfInBounds x.snd x.fst) (Value.string ⟨#[]⟩ :: .int .u64 0 :: .int .i64 0 :: .int .i64 0 :: .int .u8 0 :: .int .u8 0 :: .int .u8 0 :: .int .u8 0 :: .int .u8 0 :: .int .u8 0 :: .int .u8 0 :: .int .u8 0 :: .int .u8 0 :: .int .u8 0 :: .int .u8 0 :: .int .u8 0 :: .int .u8 0 :: .int .u8 0 :: .int .u8 0 :: .int .u8 0 :: .int .u8 0 :: .int .u8 0 :: .int .u8 0 :: .int .u8 0 :: .int .u8 0 :: .int .u8 0 :: .int .u8 0 :: .int .u8 0 :: .int .u8 0 :: .int .u8 0 :: .int .u8 0 :: .int .u8 0 :: .int .u8 0 :: .int .u8 0 :: .int .u8 0 :: .int .u8 0 :: .slice none 0 0 :: .pointer none :: .int .i64 0 :: []).toArray mk'.zipIdx 0 37 = Y := ⟨_, rfl⟩
    have hYv : Y = (mk'.toList ++ [Value.pointer none, .int .i64 0]).toArray := by rw [← hY]; exact fold_fill mk' _ 37 hms' (by decide)
    have hYs : Y.size = 39 := by rw [hYv, List.size_toArray, List.length_append, Array.length_toList, hms']; rfl
    have hYset : ∀ g : Nat, Y.setIfInBounds 37 (.pointer (some ⟨g, 0, none⟩)) = sCells { m with A := A', n := hs.length, c := c' } g 0 := fun g => by
      rw [hYv]
      apply Array.toList_inj.1
      rw [Array.toList_setIfInBounds]
      unfold sCells
      simp only
      rw [List.set_append_right _ _ (by rw [Array.length_toList]; omega), Array.length_toList, hms', hmk']
      rfl
    have HYV := Lib.hid hYset
    clear hYv hYset
    have H5 := Lib.hid h5; have HMI2 := Lib.hid hmi'; have CN := Lib.hid cN; have HMK2 := Lib.hid hmk'; have HH2 := Lib.hid hh'
    have HUL := Lib.hid Tryd.underlying34
    clear h5 hmi' cN hmk' hh' h4 h3 hr H2 d36 HMI HSZ
    go_wp2_with fail
    have HDW := Lib.hid H5.out.drew1
    clear z36 f36
    refine wp_region_held_drew (S := fun w' => w'.rangeAt b1 0 mk'.toList) (by kernel_rfl) (RG.out _ _ HDW.out) (fun hHeld => ?_)
    refine wpAnyH_take (i := 0) (oi := ?_) (v := ?_) ?_ ?_ ?_ ?_ ?_ ?_ ?_ ?_
    rotate_left 2
    · (simp only [List.getElem?_toArray, List.getElem?_cons_succ, List.getElem?_cons_zero]; exact rfl)
    · kernel_rfl
    · kernel_rfl
    · kernel_rfl
    · exact fun _ _ _ h => h
    · ((refine yieldsIf_load_mid ?_ 34 (.tmp 1) ?_ b1 0 ?_ mk'.toList _ ?_ HUL.out ?_ HMI2.out) <;> first | rfl | exact fun w h => h)
    · assumption
    try simp only [Act.put, List.setIfInBounds_toArray, List.set_cons_zero, List.set_cons_succ]
    refine wpAnyH_ready (rs := [1]) (by kernel_rfl) (by simp) ?_
    refine AllReadyH.cons (o := ?_) ?_ (fun K hK => ?_) ?_
    rotate_left 1
    · (simp only [List.getElem?_toArray, List.getElem?_cons_succ, List.getElem?_cons_zero]; exact rfl)
    · go_simp
      (first | (go_at_call 31; (with_reducible refine (CN.out _ HDW.out).mono ?_); rintro e wx ⟨g, rfl, hx⟩; dsimp only))
      refine hK.out _ _ ?_ (fun hHeld => ?_)
      · (try dsimp only) <;> (first | exact RG.out _ _ hx.frame | exact range_old (RG.out _ _ hx.frame))
      clear hK K
      try simp only [Act.put, List.setIfInBounds_toArray, List.set_cons_zero, List.set_cons_succ]
      refine wpAnyH_take (i := 2) (oi := ?_) (v := ?_) ?_ ?_ ?_ ?_ ?_ ?_ ?_ ?_
      rotate_left 2
      · (simp only [List.getElem?_toArray, List.getElem?_cons_succ, List.getElem?_cons_zero]; exact rfl)
      · kernel_rfl
      · kernel_rfl
      · kernel_rfl
      · exact fun _ _ _ h => h
      · (refine Or.inl ⟨by rfl, ?_⟩; intro w hSw; (try dsimp only at hSw); go_simp; try with_reducible rfl)
      · assumption
      try simp only [Act.put, List.setIfInBounds_toArray, List.set_cons_zero, List.set_cons_succ]
      refine wpAnyH_ready (rs := [3]) (by kernel_rfl) (by simp) ?_
      refine AllReadyH.cons (o := ?_) ?_ (fun K hK => ?_) ?_
      rotate_left 1
      · (simp only [List.getElem?_toArray, List.getElem?_cons_succ, List.getElem?_cons_zero]; exact rfl)
      · go_simp
        refine hK.out _ _ ?_ (fun hHeld => ?_)
        · (try dsimp only) <;> (first | exact RG.out _ _ hx.frame | exact range_old (RG.out _ _ hx.frame))
        clear hK K
        try simp only [Act.put, List.setIfInBounds_toArray, List.set_cons_zero, List.set_cons_succ]
        refine wpAnyH_take (i := 4) (oi := ?_) (v := ?_) ?_ ?_ ?_ ?_ ?_ ?_ ?_ ?_
        rotate_left 2
        · (simp only [List.getElem?_toArray, List.getElem?_cons_succ, List.getElem?_cons_zero]; exact rfl)
        · kernel_rfl
        · kernel_rfl
        · kernel_rfl
        · exact fun _ _ _ h => h
        · (refine Or.inl ⟨by rfl, ?_⟩; intro w hSw; (try dsimp only at hSw); go_simp; try with_reducible rfl)
        · assumption
        try simp only [Act.put, List.setIfInBounds_toArray, List.set_cons_zero, List.set_cons_succ]
        refine wpAnyH_take (i := 5) (oi := ?_) (v := ?_) ?_ ?_ ?_ ?_ ?_ ?_ ?_ ?_
        rotate_left 2
        · (simp only [List.getElem?_toArray, List.getElem?_cons_succ, List.getElem?_cons_zero]; exact rfl)
        · kernel_rfl
        · kernel_rfl
        · kernel_rfl
        · exact fun _ _ _ h => h
        · (refine Or.inl ⟨by rfl, ?_⟩; intro w hSw; (try dsimp only at hSw); go_simp; try with_reducible rfl)
        · assumption
        try simp only [Act.put, List.setIfInBounds_toArray, List.set_cons_zero, List.set_cons_succ]
        refine wpAnyH_done (by kernel_rfl) ?_ _
        have e9 := HYV.out g
        have h9 := hx.alloc (.cells (Y.setIfInBounds 37 (.pointer (some ⟨g, 0, none⟩))) 71)
        rw [e9] at h9 ⊢
        have h10 := Digs.mid (A := [_]) (B := [_]) h9
        have H10 := Lib.hid h10
        clear h9 h10 hx
        go_wp2_with fail
        go_ret2
        exact ⟨fun _ => ⟨J, A', c', _, g, hle, rfl, HH2.out, H10.out⟩, fun h => absurd (HR.out.symm.trans h) (by simp)⟩
      exact AllReadyH.nil
    exact AllReadyH.nil
end
end Go.Proofs.YtkpgliaahibjgaaDoor
