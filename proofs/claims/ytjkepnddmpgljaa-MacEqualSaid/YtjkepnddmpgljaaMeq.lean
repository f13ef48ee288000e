/- MacEqual: the walk of the law. -/
import Derived.Test.YtjkepnddmpgljaaMacAlive
import Derived.Test.YtjkepnddmpgljaaQtail
namespace Go.Proofs.Ytjkepnddmpgljaa
set_option linter.unusedVariables false
set_option linter.unusedSimpArgs false
open Go.RowKit

theorem u8_xor1_ne (x : UInt8) : x ^^^ 1 ≠ x := by
  intro h
  have h2 : (x ^^^ 1) ^^^ x = x ^^^ x := by rw [h]
  have h3 : x ^^^ x = 0 := (u8_xor0 x x).2 rfl
  rw [h3, u8_xor0] at h2
  have h4 : x ^^^ 1 ^^^ x = (1 : UInt8) := by
    rw [UInt8.xor_comm x 1, UInt8.xor_assoc, h3]; rfl
  rw [h, h3] at h4
  cases h4
theorem turned_ne (xs : List UInt8) (i : Nat) (h : i < xs.length) : (xs == xs.set i (xs.getD i 0 ^^^ 1)) = false := by
  rw [beq_eq_false_iff_ne]
  intro e
  have h2 := congrArg (fun l => l.getD i 0) e
  simp only [List.getD_eq_getElem?_getD, List.getElem?_set_self h, List.getElem?_eq_getElem h, Option.getD_some] at h2
  exact u8_xor1_ne _ h2.symm
theorem bcells_set (xs : List UInt8) (i : Nat) (b : UInt8) : (bcells xs).setIfInBounds i (.int .u8 (b.toNat : Int)) = bcells (xs.set i b) := by
  unfold bcells
  apply Array.toList_inj.1
  rw [Array.toList_setIfInBounds]
  simp [List.map_set, bval]

set_option maxRecDepth 100000 in
set_option maxHeartbeats 4000000 in
theorem walk_macEqual (W : World) {H : Type} {enc : TypeId × Value → H} {v0 v1 v2 : Value} (a0 : Arg enc Try.prog W 26 v0) (a1 : Arg enc Try.prog W 26 v1) (a2 : Arg enc Try.prog W 3 v2) :
    Calls Try.prog 9 #[v0, v1, v2] W fun e w' => e = .returned (.bool true) ∧ Below W.heap.size W w' := by
  obtain ⟨xs, hxl, rfl⟩ := a0.hash
  obtain ⟨ys, hyl, rfl⟩ := a1.hash
  obtain ⟨at_, rfl, hwf⟩ := a2.int Try.underlying3
  obtain ⟨hlo, hhi⟩ := wf_i64 hwf
  obtain ⟨i, hi⟩ : ∃ i : Nat, i = (max 0 at_ % 32).toNat := ⟨_, rfl⟩
  have hmx0 : 0 ≤ max 0 at_ := by omega
  have hi32 : i < 32 := by omega
  have hm1 : max 0 at_ % 32 = (i : Int) := by omega
  have hm2 : (max 0 at_).tmod 32 = (i : Int) := by rw [Int.tmod_eq_emod_of_nonneg hmx0]; exact hm1
  have hmx1 : max 0 at_ ≤ 9223372036854775807 := by omega
  have hzl : (xs.set i (xs.getD i 0 ^^^ 1)).length = 32 := by rw [List.length_set]; exact hxl
  have hzne := turned_ne xs i (by omega)
  have k1 := fun w F (h : St W w (fun b => W.heap[b]?) F) => mequal xs ys hxl hyl h
  have k2 := fun w F (h : St W w (fun b => W.heap[b]?) F) => mequal xs xs hxl hxl h
  have k3 := fun w F (h : St W w (fun b => W.heap[b]?) F) => mequal xs (xs.set i (xs.getD i 0 ^^^ 1)) hxl hzl h
  rw [beq_self_eq_true] at k2
  rw [hzne] at k3
  have eqv := eq_bcells xs ys hxl hyl
  have zx : (bcells xs).size = 32 := by rw [bcells_size]; exact hxl
  have zy : (bcells ys).size = 32 := by rw [bcells_size]; exact hyl
  have zz : (bcells (xs.set i (xs.getD i 0 ^^^ 1))).size = 32 := by rw [bcells_size]; exact hzl
  have gx := bcells_get xs i (by omega)
  have sx := bcells_set xs i (xs.getD i 0 ^^^ 1)
  have bx := u8_xorI (xs.getD i 0) 1
  have e1 : ((1 : UInt8).toNat : Int) = 1 := rfl
  rw [e1] at bx
  have ox := bcells_one xs
  clear a0 a1 a2 hwf hzne hxl hyl hzl hi e1
  generalize (xs == ys) = B at *
  generalize bcells (xs.set i (xs.getD i 0 ^^^ 1)) = Zc at *
  generalize bcells xs = X at *
  generalize bcells ys = Y at *
  have ix : (Try.prog.info? 26).map (·.size) = some X.size := by rw [zx]; kernel_rfl
  have iy : (Try.prog.info? 26).map (·.size) = some Y.size := by rw [zy]; kernel_rfl
  have iz : (Try.prog.info? 26).map (·.size) = some Zc.size := by rw [zz]; kernel_rfl
  have yx : ∀ j, j < X.size → X[0 + j]? = X[j]? := fun j _ => by rw [Nat.zero_add]
  have fx : 0 + X.size ≤ (#[.int .u8 0, .int .u8 0, .int .u8 0, .int .u8 0, .int .u8 0, .int .u8 0, .int .u8 0, .int .u8 0, .int .u8 0, .int .u8 0, .int .u8 0, .int .u8 0, .int .u8 0, .int .u8 0, .int .u8 0, .int .u8 0, .int .u8 0, .int .u8 0, .int .u8 0, .int .u8 0, .int .u8 0, .int .u8 0, .int .u8 0, .int .u8 0, .int .u8 0, .int .u8 0, .int .u8 0, .int .u8 0, .int .u8 0, .int .u8 0, .int .u8 0, .int .u8 0] : Array Value).size := by rw [zx]; decide
  have ex : setMany #[.int .u8 0, .int .u8 0, .int .u8 0, .int .u8 0, .int .u8 0, .int .u8 0, .int .u8 0, .int .u8 0, .int .u8 0, .int .u8 0, .int .u8 0, .int .u8 0, .int .u8 0, .int .u8 0, .int .u8 0, .int .u8 0, .int .u8 0, .int .u8 0, .int .u8 0, .int .u8 0, .int .u8 0, .int .u8 0, .int .u8 0, .int .u8 0, .int .u8 0, .int .u8 0, .int .u8 0, .int .u8 0, .int .u8 0, .int .u8 0, .int .u8 0, .int .u8 0] 0 X.toList = X := by rw [setMany_whole _ _ (by simp [zx])]
  have IX := Lib.hid ix; have IY := Lib.hid iy; have IZ := Lib.hid iz; have YX := Lib.hid yx; have FX := Lib.hid fx; have EX := Lib.hid ex; have OX := Lib.hid ox; have GX := Lib.hid gx; have SX := Lib.hid sx; have K1 := Lib.hid k1; have K2 := Lib.hid k2; have K3 := Lib.hid k3; have EQV := Lib.hid eqv
  have h0 := ((St.start W).alloc (.cells X 26)).alloc (.cells Y 26)
  rw [World.size_alloc] at h0
  have H0 := Lib.hid h0
  have BX := Lib.hid bx
  clear ix iy iz yx fx ex ox gx sx k1 k2 k3 zx zy zz h0 eqv bx
  go_enter Try.func9, Try.ntmps9
  go_wp2_with fail
  refine (macAlive H0.out).mono ?_
  rintro e w1 ⟨rfl, h1⟩
  clear H0
  have H1 := Lib.hid h1
  have H1a := Lib.hid (h1.alloc (.cells #[.int .u8 0, .int .u8 0, .int .u8 0, .int .u8 0, .int .u8 0, .int .u8 0, .int .u8 0, .int .u8 0, .int .u8 0, .int .u8 0, .int .u8 0, .int .u8 0, .int .u8 0, .int .u8 0, .int .u8 0, .int .u8 0, .int .u8 0, .int .u8 0, .int .u8 0, .int .u8 0, .int .u8 0, .int .u8 0, .int .u8 0, .int .u8 0, .int .u8 0, .int .u8 0, .int .u8 0, .int .u8 0, .int .u8 0, .int .u8 0, .int .u8 0, .int .u8 0] 26))
  clear h1
  go_wp2_with (first
    | (with_reducible refine wpList_load_st rfl 26 (.tmp 3) rfl (g := W.heap.size) (off := 0) rfl H1.out (cs := X) (t := 26) (fr := (0, 0)) (by simp) X YX.out _ Try.underlying26 rfl IX.out ?_)
    | (with_reducible refine wpList_store_st rfl 26 (.tmp 7) (.tmp 10) rfl (g := w1.heap.size) (off := 0) X rfl rfl H1a.out FX.out IX.out OX.out ?_; intro w2 h2; refine Hid.out ?_))
  refine Lib.hid ?_
  rw [EX.out] at h2
  clear H1 H1a
  generalize w1.heap.size = g7 at *
  have q : w2.cell? ⟨g7, i, none⟩ = some (.int .u8 ((xs.getD i 0).toNat : Int)) := by
    rw [h2.cell (g := g7) (cs := X) (t := 26) (fr := (0, 0)) (by simp)]
    exact GX.out
  have f := h2.frozen (g := g7) (cs := X) (t := 26) (by simp) i
  have h3 : St W (w2.setCell ⟨g7, i, none⟩ (.int .u8 ((xs.getD i 0 ^^^ 1).toNat : Int))) (fun b => W.heap[b]?) ((g7, .cells Zc 26 (0, 0)) :: (W.heap.size + 1, .cells Y 26 (0, 0)) :: (W.heap.size, .cells X 26 (0, 0)) :: []) := by
    rw [← SX.out]
    exact St.set (A := []) h2 i _
  have H3 := Lib.hid h3
  have bx := BX.out
  clear h2 h3 SX GX BX
  generalize xs.getD i 0 ^^^ 1 = x1 at *
  generalize xs.getD i 0 = x at *
  have hi32' : (i : Int) < 32 := by omega
  go_wp2_with fail
  generalize w2.setCell ⟨g7, i, none⟩ (.int .u8 (x1.toNat : Int)) = w3 at *
  clear q f bx hm1 hm2
  have eqv := EQV.out
  have hX : ∀ w', (∃ x : SW W (fun b => W.heap[b]?) ((g7, .cells Zc 26 (0, 0)) :: (W.heap.size + 1, .cells Y 26 (0, 0)) :: (W.heap.size, .cells X 26 (0, 0)) :: []), w' = x.w) → w'.rangeAt W.heap.size 0 X.toList := by
    rintro w' ⟨x, rfl⟩
    exact x.ok.rangeAt (g := W.heap.size) (cs := X) (t := 26) (fr := (0, 0)) (by simp) (by simp)
  have hY : ∀ w', (∃ x : SW W (fun b => W.heap[b]?) ((g7, .cells Zc 26 (0, 0)) :: (W.heap.size + 1, .cells Y 26 (0, 0)) :: (W.heap.size, .cells X 26 (0, 0)) :: []), w' = x.w) → w'.rangeAt (W.heap.size + 1) 0 Y.toList := by
    rintro w' ⟨x, rfl⟩
    exact x.ok.rangeAt (g := W.heap.size + 1) (cs := Y) (t := 26) (fr := (0, 0)) (by simp) (by simp)
  have hZ : ∀ w', (∃ x : SW W (fun b => W.heap[b]?) ((g7, .cells Zc 26 (0, 0)) :: (W.heap.size + 1, .cells Y 26 (0, 0)) :: (W.heap.size, .cells X 26 (0, 0)) :: []), w' = x.w) → w'.rangeAt g7 0 Zc.toList := by
    rintro w' ⟨x, rfl⟩
    exact x.ok.rangeAt (g := g7) (cs := Zc) (t := 26) (fr := (0, 0)) (by simp) (by simp)
  have HX := Lib.hid hX; have HY := Lib.hid hY; have HZ := Lib.hid hZ
  clear hX hY hZ EQV
  have hne : Nonempty (SW W (fun b => W.heap[b]?) ((g7, .cells Zc 26 (0, 0)) :: (W.heap.size + 1, .cells Y 26 (0, 0)) :: (W.heap.size, .cells X 26 (0, 0)) :: [])) := ⟨⟨_, H3.out⟩⟩
  cases B
  all_goals
    refine wp_region_sw _ H3.out (by kernel_rfl) (by kernel_rfl) ?_
    repeat (first
      | (go_big_quiet_want; refine quiet_load_rowK 26 (.tmp 3) rfl (b := W.heap.size) (off := 0) rfl X _ HX.out Try.underlying26 rfl IX.out ?_; simp only [Act.put, List.setIfInBounds_toArray, List.set_cons_zero, List.set_cons_succ]; go_big_quiet_on)
      | (go_big_quiet_want; refine quiet_load_rowK 26 (.tmp 4) rfl (b := W.heap.size + 1) (off := 0) rfl Y _ HY.out Try.underlying26 rfl IY.out ?_; simp only [Act.put, List.setIfInBounds_toArray, List.set_cons_zero, List.set_cons_succ]; go_big_quiet_on)
      | (go_big_quiet_want; refine quiet_load_rowK 26 (.tmp 7) rfl (b := g7) (off := 0) rfl Zc _ HZ.out Try.underlying26 rfl IZ.out ?_; simp only [Act.put, List.setIfInBounds_toArray, List.set_cons_zero, List.set_cons_succ]; go_big_quiet_on)
      | go_big_quiet_step ((go_at_call 24; first | ((with_reducible refine (K1.out _ _ (SW.ok _)).mono ?_); exact fun e w'' ⟨h1, h2⟩ => ⟨h1, ⟨_, h2⟩, rfl⟩) | ((with_reducible refine (K2.out _ _ (SW.ok _)).mono ?_); exact fun e w'' ⟨h1, h2⟩ => ⟨h1, ⟨_, h2⟩, rfl⟩) | ((with_reducible refine (K3.out _ _ (SW.ok _)).mono ?_); exact fun e w'' ⟨h1, h2⟩ => ⟨h1, ⟨_, h2⟩, rfl⟩))))
    refine wpQuiet_nil ?_
    rintro _ ⟨x, rfl⟩
    have hfin := x.ok.below (Le.refl _)
    go_wp2_with fail
    go_ret
    exact ⟨rfl, hfin⟩
end Go.Proofs.Ytjkepnddmpgljaa
