/- order: the law OrderTurns. -/
import Derived.Test.YtnjnooeldkideaaDoorMOrArg
import Derived.OwnWalk
import Derived.Lib.MinMax
import Derived.Test.YtnjnooeldkideaaDoorMOrT
namespace Go.Proofs.YtnjnooeldkideaaDoor
set_option linter.unusedVariables false
set_option linter.unusedSimpArgs false
open Go.RowKit Go.Lib Go.Deep
section
variable {W w : World}
theorem Hy.ok (x : Hy W) {n : Int} (h : tooB x.t x.nms x.es x.ss n = false) (hn : n ≤ 100) (F : List (Nat × Obj)) : HyOk W (fun b => W.heap[b]?) F x.t x.nA x.nms x.tries x.lA x.es x.pA x.ss := by
 unfold tooB greatB at h
 simp only [Bool.or_eq_false_iff, decide_eq_false_iff_not] at h
 obtain ⟨⟨h1, h2, h3, h4, h5⟩, h6, h7⟩ := h
 have b1 : ∀ s ∈ x.nms, s.size ≤ 200 := fun s hs => by
  unfold bigN at h4
  have := List.any_eq_false.1 h4 s hs
  simpa using this
 have b2 : ∀ s ∈ x.es, s.call.name.size ≤ 200 := fun s hs => by
  unfold bigE at h5
  have := List.any_eq_false.1 h5 s hs
  simpa using this
 have b3 : ∀ s ∈ x.ss, s.call.name.size ≤ 200 := fun s hs => by
  unfold bigS at h7
  have := List.any_eq_false.1 h7 s hs
  simpa using this
 exact ⟨x.tok, x.x0, x.x1, ⟨[], x.nrd, by simp⟩, by omega, fun s hs => by have := b1 s hs; omega, ⟨[], x.erd, by simp⟩, by omega, fun e he => (x.epre e he).ok (by have := b2 e he; omega), fun e he => by have := b2 e he; omega, ⟨[], x.srd, by simp⟩, by omega, fun e he => (x.spre e he).ok (by have := b3 e he; omega), fun e he => by have := b3 e he; omega⟩
theorem hy_info (x : Hy W) : (Tryd.prog.info? 45).map (·.size) = some x.cells.size := by
 unfold Hy.cells
 rw [hy_size x.tok]
 kernel_rfl
theorem Rd.fromS {J : Nat → Option Obj} {Lx : List (Nat × Obj)} {k s c : Nat} {A : Option Addr} {rows : List (List Value)} (h : Rd W J Lx s A rows) (hk : k ≤ rows.length) (hc : rows.length ≤ c) : Rd W J Lx s (subS A c k s) (rows.drop k) := by
 refine ⟨fun r hr => h.len r (List.mem_of_mem_drop hr), fun v X hv hL i r hi => ?_⟩
 rw [List.getElem?_drop] at hi
 have hlt := (List.getElem?_eq_some_iff.1 hi).1
 obtain ⟨b, off, rfl, hr⟩ := h.at_ v X hv hL (k + i) r hi
 unfold subS
 rw [if_neg (by omega)]
 refine ⟨b, off + k * s, by simp [Addr.add], ?_⟩
 rw [Nat.add_assoc, ← Nat.add_mul]
 exact hr
theorem Rd.toS {J : Nat → Option Obj} {Lx : List (Nat × Obj)} {k s : Nat} {A : Option Addr} {rows : List (List Value)} (h : Rd W J Lx s A rows) : Rd W J Lx s A (rows.take k) := by
 refine ⟨fun r hr => h.len r (List.mem_of_mem_take hr), fun v X hv hL i r hi => ?_⟩
 rw [List.getElem?_take] at hi
 split at hi
 ·exact h.at_ v X hv hL i r hi
 ·cases hi
theorem sp_ones {ss : List Sp} (u : Value) (hu : u ∈ (spRows ss).flatten) : u.oneCell' = true := by
 obtain ⟨r, hr, hu⟩ := List.mem_flatten.1 hu
 unfold spRows at hr
 obtain ⟨x, _, rfl⟩ := List.mem_map.1 hr
 have h := Sp.one x
 rw [← Array.all_toList] at h
 exact List.all_eq_true.1 h u hu
theorem hy_set {t : Tb} (ok : t.Ok) (nv : Value) (tries : Int) (lv sv v : Value) : (hyCells t nv tries lv sv).setIfInBounds 78 v = hyCells t nv tries lv v := by
 have h := Tb.size ok
 unfold hyCells
 rw [List.setIfInBounds_toArray, List.set_append, if_neg (by simp [h])]
 simp [h]
theorem zhis : Tryd.zeroCells45.size = 79 := by kernel_rfl
set_option maxRecDepth 100000 in
set_option maxHeartbeats 16000000 in
theorem walk_orderTurns (W : World) (tabs : Tabs W) {H : Type} {enc : TypeId × Value → H} {v0 v1 : Value} (a0 : Arg enc Tryd.prog W 45 v0) (a1 : Arg enc Tryd.prog W 3 v1) :
  Calls Tryd.prog 5 #[v0, v1] W fun e w' => e = .returned (.bool true) ∧ Below W.heap.size W w' := by
 obtain ⟨x, rfl⟩ := Arg.history a0
 obtain ⟨n, rfl, hn⟩ := a1.int Tryd.underlying3
 obtain ⟨hn0, hn1⟩ := wf_i64 hn
 have tb := Go.Proofs.YtnjnooeldkideaaDoor.TB.start tabs
 have h1 := (St.start W).alloc (.cells x.cells 45)
 have fin : ∀ (v : World) (L : List (Nat × Obj)), St W v (fun b => W.heap[b]?) L → Below W.heap.size W v := fun v L hv => hv.below (Le.refl _)
 have FIN := Lib.hid fin
 clear fin
 obtain ⟨g, hg⟩ : ∃ g, W.heap.size = g := ⟨_, rfl⟩
 rw [hg] at h1
 have kA := fun (v : World) (L : List (Nat × Obj)) (hv : St W v (fun b => W.heap[b]?) L) => law_alive tb hv
 have kT := fun (v : World) (L : List (Nat × Obj)) (hv : St W v (fun b => W.heap[b]?) L) => law_too (nc := x.nc) (lc := x.lc) (pc := x.pc) x.tok x.tries 8 x.nrd (by simp) x.erd (by simp) x.srd (by simp) (by have := x.nl; unfold maxLen at this; omega) (by have := x.el; unfold maxLen at this; omega) (by have := x.sl; unfold maxLen at this; omega) (fun e he => (x.epre e he).fit) (fun e he => (x.spre e he).fit) hv
 have hat := fun (v : World) (L : List (Nat × Obj)) (hv : St W v (fun b => W.heap[b]?) L) (hx : (g, Obj.cells x.cells 45 (0, 0)) ∈ L) => (⟨(hv.hy x.tok hx).all, (hv.hy x.tok hx).spans⟩ : v.rangeAt g 0 x.cells.toList ∧ v.cell? ⟨g, 78, none⟩ = some (.slice x.pA x.ss.length x.pc))
 have hin := hy_info x
 change ∀ (v : World) (L : List (Nat × Obj)), _ → Calls _ _ #[.agg x.cells, _] v _ at kT
 obtain ⟨R, hR⟩ : ∃ R, tooB x.t x.nms x.es x.ss 8 = R := ⟨_, rfl⟩
 rw [hR] at kT
 obtain ⟨HX, hHX⟩ : ∃ y, x.cells = y := ⟨_, rfl⟩
 have hone : x.cells.all (·.oneCell') = true := hy_one x.t (.slice x.nA x.nms.length x.nc) x.tries (.slice x.lA x.es.length x.lc) (.slice x.pA x.ss.length x.pc) rfl rfl rfl
 have hx78 : x.cells[78]? = some (.slice x.pA x.ss.length x.pc) := hy_g x.tok (.slice x.nA x.nms.length x.nc) x.tries (.slice x.lA x.es.length x.lc) (.slice x.pA x.ss.length x.pc) 3
 have hsz : x.cells.size = 79 := hy_size x.tok _ _ _ _
 have hfit : 0 + x.cells.size ≤ Tryd.zeroCells45.size := by rw [hsz, zhis]; omega
 have hmany : setMany Tryd.zeroCells45 0 x.cells.toList = x.cells := by rw [setMany_whole _ _ (by rw [Array.length_toList, hsz, zhis]), Array.toArray_toList]
 rw [hHX] at h1 kT hat hin hone hsz hfit hmany hx78 ⊢
 obtain ⟨NS, hNS⟩ : ∃ y, x.ss.length = y := ⟨_, rfl⟩
 rw [hNS] at hat hx78
 obtain ⟨pA, hpA⟩ : ∃ y, x.pA = y := ⟨_, rfl⟩
 obtain ⟨pc, hpc⟩ : ∃ y, x.pc = y := ⟨_, rfl⟩
 rw [hpA, hpc] at hat hx78
 have KA := Lib.hid kA; have KT := Lib.hid kT; have HAT := Lib.hid hat; have HIN := Lib.hid hin; have HR := Lib.hid hR; have HHX := Lib.hid hHX; have HNS := Lib.hid hNS; have HPA := Lib.hid hpA; have HPC := Lib.hid hpc; have H1 := Lib.hid h1; have HONE := Lib.hid hone; have HX78 := Lib.hid hx78; have HFIT := Lib.hid hfit; have HMANY := Lib.hid hmany; have HN0 := Lib.hid hn0; have HN1 := Lib.hid hn1; have TB0 := Lib.hid tb
 clear hx78 hone hfit hmany kA kT hat hin hR hHX hNS hpA hpc h1 a0 a1 hn tb tabs
 go_enter Tryd.func5, Tryd.ntmps5
 go_wp2_with fail
 refine (KA.out _ _ H1.out).mono ?_
 rintro e w2 ⟨rfl, h2⟩
 have qall := (HAT.out _ _ h2 (List.mem_cons_self ..)).1
 have QA := Lib.hid qall; have H2 := Lib.hid h2
 clear qall h2 H1
 go_wp2_with (with_reducible refine wpList_load_midg 9 rfl (by kernel_rfl) 45 (.tmp 2) rfl g 0 rfl HX _ QA.out Tryd.underlying45 rfl HIN.out ?_)
 refine (KT.out _ _ H2.out).mono ?_
 rintro e w3 ⟨rfl, h3⟩
 have q78 := (HAT.out _ _ h3 (List.mem_cons_self ..)).2
 have H3 := Lib.hid h3
 clear h3 QA H2
 cases R with
 | true =>
  go_wp2_with fail
  go_ret
  exact ⟨rfl, FIN.out _ _ H3.out⟩
 | false =>
  by_cases h0 : NS = 0
  ·have b0 : ((NS : Int) == 0) = true := by simp; omega
   clear h0
   go_wp2_with fail
   go_ret
   exact ⟨rfl, FIN.out _ _ H3.out⟩
  ·have b0 : ((NS : Int) == 0) = false := by simp; omega
   obtain ⟨k, hk, hkN⟩ : ∃ k : Nat, max 0 n % (NS : Int) = k ∧ k < NS := ⟨(max 0 n % (NS : Int)).toNat, by rw [Int.toNat_of_nonneg (Int.emod_nonneg _ (by omega))], by have := Int.emod_lt_of_pos (max 0 n) (b := (NS : Int)) (by omega); have := Int.emod_nonneg (max 0 n) (b := (NS : Int)) (by omega); omega⟩
   have HK := Lib.hid hk
   have qall := (HAT.out _ _ H3.out (List.mem_cons_self ..)).1
   have h4 := H3.out.alloc (.cells Tryd.zeroCells45 45)
   have QA := Lib.hid qall; have H4 := Lib.hid h4
   clear qall h4 hk
   go_wp2_with (first | (with_reducible refine wpList_load_midg 23 rfl (by kernel_rfl) 45 (.tmp 2) rfl g 0 rfl HX _ QA.out Tryd.underlying45 rfl HIN.out ?_) | (with_reducible refine wpList_store_st rfl 45 (.tmp 6) (.tmp 23) rfl (g := w3.heap.size) (off := 0) HX rfl rfl H4.out HFIT.out HIN.out HONE.out ?_; intro w5 h5; refine Hid.out ?_))
   refine Lib.hid ?_
   rw [HK.out]
   rw [HMANY.out] at h5
   obtain ⟨gb, hgb⟩ : ∃ y, w3.heap.size = y := ⟨_, rfl⟩
   rw [hgb] at h5 ⊢
   have q5 := (HAT.out _ _ h5 (by simp)).2
   have h6 := h5.alloc (.cells #[] 40)
   have q6 := (HAT.out _ _ h6 (by simp)).2
   have H5 := Lib.hid h5; have H6 := Lib.hid h6
   clear h5 h6 H4 H3 QA hgb
   have hkc : k ≤ pc := by have := x.sl; rw [HNS.out, HPC.out] at this; omega
   have hkN2 : k ≤ NS := by omega
   have sl1 := fun v => run_slice_fromS (P := Tryd.prog) (s := 88) Tryd.underlying42 size_span pA NS pc k hkN2 (by have := x.sl; rw [HNS.out, HPC.out] at this; omega) v
   have sl2 := fun v => run_slice_toS (P := Tryd.prog) (s := 88) Tryd.underlying42 size_span pA NS pc k hkc v
   have rd := x.srd
   rw [HPA.out] at rd
   have hrl : (spRows x.ss).length = NS := by unfold spRows; rw [List.length_map, HNS.out]
   have hps : NS ≤ pc := by have := x.sl; rw [HNS.out, HPC.out] at this; omega
   have r1 := rd.fromS (k := k) (c := pc) (by omega) (by omega)
   have r2 := rd.toS (k := k)
   obtain ⟨B, hB⟩ : ∃ y, subS pA pc k 88 = y := ⟨_, rfl⟩
   rw [hB] at sl1 r1
   have e1 : (spRows x.ss).drop k = spRows (x.ss.drop k) := by unfold spRows; rw [List.map_drop]
   have e2 : (spRows x.ss).take k = spRows (x.ss.take k) := by unfold spRows; rw [List.map_take]
   rw [e1] at r1
   rw [e2] at r2
   have c1 := fun (v : World) (L : List (Nat × Obj)) (hv : St W v (fun b => W.heap[b]?) L) => (show (spRows (x.ss.drop k)).length = NS - k by unfold spRows; rw [List.length_map, List.length_drop, HNS.out]) ▸ r1.src (by decide) v L hv (by simp)
   have c2 := fun (v : World) (L : List (Nat × Obj)) (hv : St W v (fun b => W.heap[b]?) L) => (show (spRows (x.ss.take k)).length = k by unfold spRows; rw [List.length_map, List.length_take, HNS.out]; omega) ▸ r2.src (by decide) v L hv (by simp)
   have spi : (Tryd.prog.info? 40).map (fun i => (i.zero, i.size, i.bytes)) = some (some (.agg Tryd.zeroCells40), 88, 264) := by kernel_rfl
   have hns8 : NS ≤ 8 := by
    have := (x.ok HR.out (by decide) []).sfew
    have h := HR.out
    unfold tooB at h
    simp only [Bool.or_eq_false_iff, decide_eq_false_iff_not] at h
    have := h.2.1
    rw [HNS.out] at this
    omega
   have C1 := Lib.hid c1; have C2 := Lib.hid c2; have SPI := Lib.hid spi; have HNS8 := Lib.hid hns8
   have s1 := (HAT.out _ _ H5.out.drew1 (by simp)).2
   clear rd r1 r2 e1 e2 c1 c2 spi hns8 hrl hB
   go_wp2_with fail
   refine wp_region_sink (S := fun v => v.cell? ⟨g, 78, none⟩ = some (.slice pA NS pc)) 12 (by kernel_rfl) (by kernel_rfl) rfl s1 (fun hHeld => ?_)
   dsimp only [List.take]
   refine tk op1 (v := ?_) (by kernel_rfl) ?_ (by assumption) ?_ fun _ _ _ h => h
   rotate_left
   ·(refine ya rfl fun w hSw => ?_; go_simp; rfl)
   try simp only [Act.put, pu1, pu2, pu3]
   refine tk op2 (v := ?_) (by kernel_rfl) ?_ (by assumption) ?_ fun _ _ _ h => h
   rotate_left
   ·((refine Or.inl ⟨by rfl, ?_⟩; intro w hSw; go_simp; try with_reducible rfl))
   try simp only [Act.put, pu1, pu2, pu3]
   refine tk op3 (v := ?_) (by kernel_rfl) ?_ (by assumption) ?_ fun _ _ _ h => h
   rotate_left
   ·(refine ya rfl fun w hSw => ?_; go_simp; rfl)
   try simp only [Act.put, pu1, pu2, pu3]
   refine tk op4 (v := ?_) (by kernel_rfl) ?_ (by assumption) ?_ fun _ _ _ h => h
   rotate_left
   ·(refine ya rfl fun w hSw => ?_; go_simp; rfl)
   try simp only [Act.put, pu1, pu2, pu3]
   refine tk op6 (v := ?_) (by kernel_rfl) ?_ (by assumption) ?_ fun _ _ _ h => h
   rotate_left
   ·(refine ya rfl fun w hSw => ?_; go_simp; rfl)
   try simp only [Act.put, pu1, pu2, pu3]
   refine tk op7 (v := ?_) (by kernel_rfl) ?_ (by assumption) ?_ fun _ _ _ h => h
   rotate_left
   ·((refine Or.inl ⟨by rfl, ?_⟩; intro w hSw; go_simp; try with_reducible rfl))
   try simp only [Act.put, pu1, pu2, pu3]
   refine tk op8 (v := ?_) (by kernel_rfl) ?_ (by assumption) ?_ fun _ _ _ h => h
   rotate_left
   ·(refine ya rfl fun w hSw => ?_; go_simp; rfl)
   try simp only [Act.put, pu1, pu2, pu3]
   refine tk op9 (v := ?_) (by kernel_rfl) ?_ (by assumption) ?_ fun _ _ _ h => h
   rotate_left
   ·(refine ya rfl fun w hSw => ?_; go_simp; rfl)
   try simp only [Act.put, pu1, pu2, pu3]
   refine rd1 op0 (by kernel_rfl) fun K hK => ?_
   go_simp
   refine hK.out _ _ ?_ fun hHeld => ?_
   ·(try dsimp only) <;> ((exact (HAT.out _ _ (H5.out.drew1.alloc_ (.cells #[] 40)) (by simp)).2))
   clear hK K
   try simp only [Act.put, pu1, pu2, pu3]
   refine rd1 op5 (by kernel_rfl) fun K hK => ?_
   ((refine step_append_row (F := (gb, .cells HX 45) :: (g, .cells HX 45) :: []) rfl (.tmp 24) (.tmp 28) 42 rfl 40 (.agg Tryd.zeroCells40) 88 264 Tryd.underlying42 SPI.out (by rfl) (by omega) rfl (Row.empty 40 88 w5.heap.size) (H5.out.drew1.alloc (.cells #[] 40)) rfl (C1.out _ _ (H5.out.drew1.alloc (.cells #[] 40))) sp_ones (NS - k) (by omega) _ (List.nil_append _) (by have := HNS8.out; unfold maxLen; omega) (by have := HNS8.out; omega) ?_; intro A7 c7 w7 L7 hr7 h7; dsimp only))
   refine hK.out _ _ ?_ fun hHeld => ?_
   ·(try dsimp only) <;> ((exact (HAT.out _ _ h7 (by simp)).2))
   clear hK K
   try simp only [Act.put, pu1, pu2, pu3]
   refine rd1 (oq op0) (by kernel_rfl) fun K hK => ?_
   ((refine step_append_row (F := (gb, .cells HX 45) :: (g, .cells HX 45) :: []) rfl (.tmp 29) (.tmp 33) 42 rfl 40 (.agg Tryd.zeroCells40) 88 264 Tryd.underlying42 SPI.out (by rfl) (by omega) rfl hr7 h7 rfl (C2.out _ _ h7) sp_ones NS (by omega) _ rfl (by have := HNS8.out; unfold maxLen; omega) (by have := HNS8.out; omega) ?_; intro A8 c8 w8 L8 hr8 h8; dsimp only))
   refine hK.out _ _ ?_ fun hHeld => ?_
   ·(try dsimp only) <;> ((exact (HAT.out _ _ h8 (by simp)).2))
   clear hK K
   try simp only [Act.put, pu1, pu2, pu3]
   refine tk (oq op1) (v := ?_) (by kernel_rfl) ?_ (by assumption) ?_ fun _ _ _ h => h
   rotate_left
   ·(refine ya rfl fun w hSw => ?_; go_simp; rfl)
   try simp only [Act.put, pu1, pu2, pu3]
   refine wpAnyH_done (by kernel_rfl) ?_ _
   have hrx : Row 40 88 (.slice A8 NS c8) NS (spRows (x.ss.drop k ++ x.ss.take k)).flatten L8 := by
    have e : (spRows (x.ss.drop k ++ x.ss.take k)).flatten = (spRows (x.ss.drop k)).flatten ++ (spRows (x.ss.take k)).flatten := by unfold spRows; rw [List.map_append, List.flatten_append]
    rw [e]
    exact hr8
   have h9 := h8.perm (L' := (gb, .cells HX 45 (0, 0)) :: (L8 ++ [(g, .cells HX 45 (0, 0))])) (perm_count (fun i a => by simp only [List.count_append, List.count_cons, List.count_nil]; omega))
   have e9 := (h9.cell (g := gb) (cs := HX) (t := 45) (fr := (0, 0)) (by simp) 78).trans HX78.out
   have f9 := h9.frozen (g := gb) (cs := HX) (t := 45) (by simp) 78
   have h10 := St.set (A := []) h9 78 (.slice A8 NS c8)
   have hset : HX.setIfInBounds 78 (.slice A8 NS c8) = hyCells x.t (.slice x.nA x.nms.length x.nc) x.tries (.slice x.lA x.es.length x.lc) (.slice A8 NS c8) := by
    rw [← HHX.out]
    exact hy_set x.tok _ _ _ _ _
   rw [List.nil_append, hset] at h10
   have okx := fun (L : List (Nat × Obj)) => x.ok HR.out (by decide) L
   have oky : HyOk W (fun b => W.heap[b]?) ((gb, .cells (hyCells x.t (.slice x.nA x.nms.length x.nc) x.tries (.slice x.lA x.es.length x.lc) (.slice A8 NS c8)) 45 (0, 0)) :: (L8 ++ [(g, .cells HX 45 (0, 0))])) x.t x.nA x.nms x.tries x.lA x.es A8 (x.ss.drop k ++ x.ss.take k) := by
    have o := okx ((gb, .cells (hyCells x.t (.slice x.nA x.nms.length x.nc) x.tries (.slice x.lA x.es.length x.lc) (.slice A8 NS c8)) 45 (0, 0)) :: (L8 ++ [(g, .cells HX 45 (0, 0))]))
    have hp := turn_perm x.ss k
    refine ⟨o.tok, o.x0, o.x1, o.nm, o.nfew, o.nsz, o.en, o.efew, o.eok, o.enm, ⟨L8, Rd.of_row (by decide) hrx rfl (fun r hr => ?_), fun p hp => List.mem_cons_of_mem _ (List.mem_append_left _ hp)⟩, by rw [← hp.length_eq]; exact o.sfew, fun y hy => o.sok y (hp.mem_iff.2 hy), fun y hy => o.snm y (hp.mem_iff.2 hy)⟩
    unfold spRows at hr
    obtain ⟨y, hy, rfl⟩ := List.mem_map.1 hr
    rw [Array.length_toList]
    exact Sp.size (o.sok y (hp.mem_iff.2 hy))
   have kc1 := fun (v : World) (hv : St W v (fun b => W.heap[b]?) ((gb, .cells (hyCells x.t (.slice x.nA x.nms.length x.nc) x.tries (.slice x.lA x.es.length x.lc) (.slice A8 NS c8)) 45 (0, 0)) :: (L8 ++ [(g, .cells HX 45 (0, 0))]))) => o_check (nc := x.nc) (lc := x.lc) (pc := x.pc) TB0.out x.tries (okx _) hv
   have kc2 := fun (v : World) (hv : St W v (fun b => W.heap[b]?) ((gb, .cells (hyCells x.t (.slice x.nA x.nms.length x.nc) x.tries (.slice x.lA x.es.length x.lc) (.slice A8 NS c8)) 45 (0, 0)) :: (L8 ++ [(g, .cells HX 45 (0, 0))]))) => o_check (nc := x.nc) (lc := x.lc) (pc := c8) TB0.out x.tries oky hv
   have kf1 := fun (v : World) (hv : St W v (fun b => W.heap[b]?) ((gb, .cells (hyCells x.t (.slice x.nA x.nms.length x.nc) x.tries (.slice x.lA x.es.length x.lc) (.slice A8 NS c8)) 45 (0, 0)) :: (L8 ++ [(g, .cells HX 45 (0, 0))]))) => o_find (nc := x.nc) (lc := x.lc) (pc := x.pc) TB0.out x.tries (okx _) hv
   have kf2 := fun (v : World) (hv : St W v (fun b => W.heap[b]?) ((gb, .cells (hyCells x.t (.slice x.nA x.nms.length x.nc) x.tries (.slice x.lA x.es.length x.lc) (.slice A8 NS c8)) 45 (0, 0)) :: (L8 ++ [(g, .cells HX 45 (0, 0))]))) => o_find (nc := x.nc) (lc := x.lc) (pc := c8) TB0.out x.tries oky hv
   have hlen : (x.ss.drop k ++ x.ss.take k).length = NS := by rw [← (turn_perm x.ss k).length_eq, HNS.out]
   rw [hlen, ← check_perm x.t x.nms x.tries x.es (turn_perm x.ss k)] at kc2
   rw [hlen, ← find_perm x.t x.nms x.tries x.es (turn_perm x.ss k)] at kf2
   obtain ⟨CK, hCK⟩ : ∃ y, checkM x.t x.nms x.tries x.es x.ss = y := ⟨_, rfl⟩
   obtain ⟨FD, hFD⟩ : ∃ y, findM x.t x.nms x.tries x.es x.ss = y := ⟨_, rfl⟩
   rw [hCK] at kc1 kc2
   rw [hFD] at kf1 kf2
   have hx2 : hyCells x.t (.slice x.nA x.nms.length x.nc) x.tries (.slice x.lA x.es.length x.lc) (.slice x.pA x.ss.length x.pc) = HX := HHX.out
   rw [hx2] at kc1 kf1
   have hyin : (Tryd.prog.info? 45).map (·.size) = some (hyCells x.t (.slice x.nA x.nms.length x.nc) x.tries (.slice x.lA x.es.length x.lc) (.slice A8 NS c8)).size := by rw [hy_size x.tok]; kernel_rfl
   obtain ⟨HY, hHY⟩ : ∃ y, hyCells x.t (.slice x.nA x.nms.length x.nc) x.tries (.slice x.lA x.es.length x.lc) (.slice A8 NS c8) = y := ⟨_, rfl⟩
   rw [hHY] at h10 kc1 kc2 kf1 kf2 hyin
   obtain ⟨LL, hLL⟩ : ∃ y, (gb, Obj.cells HY 45 (0, 0)) :: (L8 ++ [(g, .cells HX 45 (0, 0))]) = y := ⟨_, rfl⟩
   have ranges : ∀ v, St W v (fun b => W.heap[b]?) LL → v.rangeAt g 0 HX.toList ∧ v.rangeAt gb 0 HY.toList := fun v hv => by
    rw [← hLL] at hv
    exact ⟨fun j u hj => by rw [Nat.zero_add, hv.cell (g := g) (cs := HX) (t := 45) (fr := (0, 0)) (by simp) j]; simpa using hj, fun j u hj => by rw [Nat.zero_add, hv.cell (g := gb) (cs := HY) (t := 45) (fr := (0, 0)) (by simp) j]; simpa using hj⟩
   rw [hLL] at h10 kc1 kc2 kf1 kf2
   obtain ⟨w9, hw9⟩ : ∃ y, w8.setCell { block := gb, off := 78 } (Value.slice A8 NS c8) = y := ⟨_, rfl⟩
   have HW9 := Lib.hid hw9
   rw [hw9] at h10
   have H9 := Lib.hid h10; have KC1 := Lib.hid kc1; have KC2 := Lib.hid kc2; have KF1 := Lib.hid kf1; have KF2 := Lib.hid kf2; have HYI := Lib.hid hyin; have RG := Lib.hid ranges
   have bc : (CK == CK) = true := by simp
   have bf : (FD == FD) = true := by simp
   clear kc1 kc2 kf1 kf2 hyin ranges h10 hset oky okx hrx hlen hCK hFD hx2 hHY hLL hw9 h9 h8 h7 hr7 hr8 s1 q5 q6 sl1 sl2
   show wpList _ _ _ [_] _ _
   go_wp2_with fail
   rw [HW9.out]
   obtain ⟨ra, rb⟩ := RG.out _ H9.out.drew1
   refine wp_region_held_drew (S := fun v => v.rangeAt g 0 HX.toList ∧ v.rangeAt gb 0 HY.toList) (by kernel_rfl) ⟨ra, rb⟩ (fun hHeld => ?_)
   refine tk op0 (v := ?_) (by kernel_rfl) ?_ (by assumption) ?_ fun _ _ _ h => h
   rotate_left
   ·(((refine yieldsIf_load_mid ?_ 45 (.tmp 2) ?_ g 0 ?_ HX.toList _ ?_ Tryd.underlying45 ?_ HIN.out) <;> first | rfl | exact fun w h => h.1))
   try simp only [Act.put, pu1, pu2, pu3]
   refine tk op2 (v := ?_) (by kernel_rfl) ?_ (by assumption) ?_ fun _ _ _ h => h
   rotate_left
   ·(((refine yieldsIf_load_mid ?_ 45 (.tmp 6) ?_ gb 0 ?_ HY.toList _ ?_ Tryd.underlying45 ?_ HYI.out) <;> first | rfl | exact fun w h => h.2))
   try simp only [Act.put, pu1, pu2, pu3]
   refine rd1 op1 (by kernel_rfl) fun K hK => ?_
   go_simp
   ((go_at_call 9; (with_reducible refine (KC1.out _ H9.out.drew1).mono ?_); rintro e wz1 ⟨rfl, hz1⟩; dsimp only))
   refine hK.out _ _ ?_ fun hHeld => ?_
   ·(try dsimp only) <;> ((exact RG.out _ hz1))
   clear hK K
   try simp only [Act.put, pu1, pu2, pu3]
   refine rd1 op3 (by kernel_rfl) fun K hK => ?_
   go_simp
   ((go_at_call 9; (with_reducible refine (KC2.out _ hz1).mono ?_); rintro e wz2 ⟨rfl, hz2⟩; dsimp only))
   refine hK.out _ _ ?_ fun hHeld => ?_
   ·(try dsimp only) <;> ((exact RG.out _ hz2))
   clear hK K
   try simp only [Act.put, pu1, pu2, pu3]
   refine tk op4 (v := ?_) (by kernel_rfl) ?_ (by assumption) ?_ fun _ _ _ h => h
   rotate_left
   ·(refine ya rfl fun w hSw => ?_; go_simp; rfl)
   try simp only [Act.put, pu1, pu2, pu3]
   refine tk op5 (v := ?_) (by kernel_rfl) ?_ (by assumption) ?_ fun _ _ _ h => h
   rotate_left
   ·(refine ya rfl fun w hSw => ?_; go_simp; rfl)
   try simp only [Act.put, pu1, pu2, pu3]
   refine tk op6 (v := ?_) (by kernel_rfl) ?_ (by assumption) ?_ fun _ _ _ h => h
   rotate_left
   ·(((refine yieldsIf_load_mid ?_ 45 (.tmp 2) ?_ g 0 ?_ HX.toList _ ?_ Tryd.underlying45 ?_ HIN.out) <;> first | rfl | exact fun w h => h.1))
   try simp only [Act.put, pu1, pu2, pu3]
   refine tk op8 (v := ?_) (by kernel_rfl) ?_ (by assumption) ?_ fun _ _ _ h => h
   rotate_left
   ·(((refine yieldsIf_load_mid ?_ 45 (.tmp 6) ?_ gb 0 ?_ HY.toList _ ?_ Tryd.underlying45 ?_ HYI.out) <;> first | rfl | exact fun w h => h.2))
   try simp only [Act.put, pu1, pu2, pu3]
   refine rd1 op7 (by kernel_rfl) fun K hK => ?_
   go_simp
   ((go_at_call 10; (with_reducible refine (KF1.out _ hz2).mono ?_); rintro e wz3 ⟨rfl, hz3⟩; dsimp only))
   refine hK.out _ _ ?_ fun hHeld => ?_
   ·(try dsimp only) <;> ((exact RG.out _ hz3))
   clear hK K
   try simp only [Act.put, pu1, pu2, pu3]
   refine rd1 op9 (by kernel_rfl) fun K hK => ?_
   go_simp
   ((go_at_call 10; (with_reducible refine (KF2.out _ hz3).mono ?_); rintro e wz4 ⟨rfl, hz4⟩; dsimp only))
   refine hK.out _ _ ?_ fun hHeld => ?_
   ·(try dsimp only) <;> ((exact RG.out _ hz4))
   clear hK K
   try simp only [Act.put, pu1, pu2, pu3]
   refine tk (oq op0) (v := ?_) (by kernel_rfl) ?_ (by assumption) ?_ fun _ _ _ h => h
   rotate_left
   ·(refine ya rfl fun w hSw => ?_; go_simp; rfl)
   try simp only [Act.put, pu1, pu2, pu3]
   refine tk (oq op1) (v := ?_) (by kernel_rfl) ?_ (by assumption) ?_ fun _ _ _ h => h
   rotate_left
   ·(refine ya rfl fun w hSw => ?_; go_simp; rfl)
   try simp only [Act.put, pu1, pu2, pu3]
   refine tk (oq op2) (v := ?_) (by kernel_rfl) ?_ (by assumption) ?_ fun _ _ _ h => h
   rotate_left
   ·(refine ya rfl fun w hSw => ?_; go_simp; rfl)
   try simp only [Act.put, pu1, pu2, pu3]
   refine wpAnyH_done (by kernel_rfl) ?_ _
   go_wp2_with fail
   go_ret
   exact ⟨rfl, FIN.out _ _ hz4⟩
end
end Go.Proofs.YtnjnooeldkideaaDoor
