/- GlyphCuts: the walk of the law. -/
import Derived.Test.YtpjfmgifddoppaaDoorGcutP
import Derived.Test.YtpjfmgifddoppaaDoorGlyL
import Derived.Lib.MinMax
import Derived.Deep.RegionWith
import Derived.Deep.RegionHeld3
namespace Go.Proofs.YtpjfmgifddoppaaDoor
set_option linter.unusedVariables false
set_option linter.unusedSimpArgs false
open Go.RowKit Go.Lib

theorem str_to (x : ByteArray) (k : Nat) (hk : k ≤ x.size) (w : World) : (Instr.slice 9 (.string x) none (some (.int .i64 (k : Int))) none).run Tryd.prog w = .ok (.string (x.extract 0 k)) w := by
  have h1 : (0 : Int) ≤ (k : Int) ∧ (k : Int) ≤ (x.size : Int) := by omega
  simp [Instr.slice, run_underlying Tryd.underlying9, Instr.sliceBounds, Instr.sliceBound, asIntOf, h1, hk]
/-- The region's end: the same act whatever the order. -/
def EndsIn (A : Act) (S : World → Prop) : Exit → Act → World → Prop := fun e a' w' => match e with
  | .normal => a' = A ∧ S w'
  | _ => False
theorem endsIn {P : Program} {c : Code} {Q : Exit → Act → World → Prop} {a : Act} {w : World} (A : Act) (S : World → Prop) (h : c.wp P (EndsIn A S) a w) (k : ∀ w', S w' → Q .normal A w') : c.wp P Q a w :=
  Code.wp_mono (fun e a' w' hq => by
    cases e with
    | normal => obtain ⟨rfl, h2⟩ := hq; exact k _ h2
    | _ => exact hq.elim) h
set_option maxRecDepth 100000 in
set_option maxHeartbeats 4000000 in
theorem walk_glyphCuts (W : World) (gv : GV W) {H : Type} {enc : TypeId × Value → H} {v0 v1 : Value} (a0 : Arg enc Tryd.prog W 9 v0) (a1 : Arg enc Tryd.prog W 3 v1) :
    Calls Tryd.prog 8 #[v0, v1] W fun e w' => e = .returned (.bool true) ∧ Below W.heap.size W w' := by
  obtain ⟨a, rfl, ha⟩ := a0.text Tryd.underlying9
  obtain ⟨n, rfl, hn⟩ := a1.int Tryd.underlying3
  obtain ⟨n0, n1⟩ := wf_i64 hn
  have t := TB.start gv.tabs
  have ht : roCell (fun b => W.heap[b]?) ⟨13, 15, none⟩ = some (.int .u8 4) := gv.b64
  have h0 := St.start W
  have kA := glyph_alive t ht gv.ev h0
  have KA := Lib.hid kA; have T := Lib.hid t; have HT := Lib.hid ht
  clear kA t ht gv a0 a1 h0 hn
  go_enter Tryd.func8, Tryd.ntmps8
  go_wp2_with fail
  refine KA.out.mono ?_
  rintro e w1 ⟨rfl, h1⟩
  have H1 := Lib.hid h1
  have HF : Hid (Below W.heap.size W w1) := Lib.hid (h1.below (Le.refl _))
  clear KA h1
  by_cases g1 : 500 < a.size
  · have g1' : (500 : Int) < (a.size : Int) := by omega
    clear g1
    go_wp2_with fail
    go_ret
    exact ⟨rfl, HF.out⟩
  have g1' : ¬ ((500 : Int) < (a.size : Int)) := by omega
  have kC := fun (v : World) (F : List (Nat × Obj)) (hv : St W v (fun b => W.heap[b]?) F) => glyph_cut a (by omega) n n0 n1 hv
  obtain ⟨c1, c2⟩ := cut_counts a n
  have c3 := cut_shows a n.toNat
  have hle := cutAt_le a n.toNat
  have hsz : (cutOf a n).size = cutAt a n.toNat := head_size a _ hle
  have hsh : a.extract 0 (cutAt a n.toNat) = cutOf a n := rfl
  have htl : a.extract (cutAt a n.toNat) a.size = tailOf a (cutOf a n).size := by rw [hsz]; rfl
  rw [show tailOf a (cutAt a n.toNat) = tailOf a (cutOf a n).size by rw [hsz], hsh] at c3
  have hpl := shown_plain a
  have hsl := showOf_len a
  have hrl := runesOf_len a
  have s1 := fun v => str_to a (cutAt a n.toNat) hle v
  have s2 := fun v => str_from a (cutAt a n.toNat) hle v
  rw [hsh, ← hsz] at s1
  rw [htl, ← hsz] at s2
  rw [← hsz] at hle
  have hts : (tailOf a (cutOf a n).size).size ≤ 1000 := by rw [tailOf_size]; omega
  generalize tailOf a (cutOf a n).size = r at *
  clear hsh htl hsz
  generalize cutOf a n = hd at *
  have kLh := fun (v : World) (F : List (Nat × Obj)) (hv : St W v (fun b => W.heap[b]?) F) => glyph_len hd (by omega) hv
  have kLs := fun (v : World) (F : List (Nat × Obj)) (hv : St W v (fun b => W.heap[b]?) F) => glyph_len a (by omega) hv
  have kLr := fun (v : World) (F : List (Nat × Obj)) (hv : St W v (fun b => W.heap[b]?) F) => glyph_len r (by omega) hv
  have kSs := fun (v : World) (F : List (Nat × Obj)) (hv : St W v (fun b => W.heap[b]?) F) => show_any T.out HT.out a (by omega) hv
  have kSh := fun (v : World) (F : List (Nat × Obj)) (hv : St W v (fun b => W.heap[b]?) F) => show_any T.out HT.out hd (by omega) hv
  have kSr := fun (v : World) (F : List (Nat × Obj)) (hv : St W v (fun b => W.heap[b]?) F) => show_any T.out HT.out r (by omega) hv
  have hap : (⟨(showOf hd).toArray⟩ : ByteArray) ++ ⟨(showOf r).toArray⟩ = ⟨(showOf a).toArray⟩ := by
    rw [← c3]
    apply ByteArray.ext
    rw [ByteArray.data_append]
    simp
  have hpl2 : ∀ (k : Nat) (h : k < (⟨(showOf a).toArray⟩ : ByteArray).size), 32 ≤ ((⟨(showOf a).toArray⟩ : ByteArray)[k]'h).toNat ∧ ((⟨(showOf a).toArray⟩ : ByteArray)[k]'h).toNat ≤ 126 ∧ ((⟨(showOf a).toArray⟩ : ByteArray)[k]'h) ≠ 34 := by
    intro k h
    refine hpl _ ?_
    show ((showOf a).toArray)[k]'h ∈ showOf a
    simp
  have htz : (⟨(showOf a).toArray⟩ : ByteArray).size ≤ 100000 := by
    have : (⟨(showOf a).toArray⟩ : ByteArray).size = (showOf a).length := by simp [ByteArray.size]
    omega
  generalize (⟨(showOf a).toArray⟩ : ByteArray) = ta at *
  generalize (⟨(showOf hd).toArray⟩ : ByteArray) = th at *
  generalize (⟨(showOf r).toArray⟩ : ByteArray) = tr at *
  generalize (runesOf hd).length = lh at *
  generalize (runesOf a).length = ls at *
  generalize (runesOf r).length = lr at *
  obtain ⟨lz, hlz⟩ : ∃ x : Int, (lh : Int) = x := ⟨_, rfl⟩
  obtain ⟨sz, hsz⟩ : ∃ x : Int, (ls : Int) = x := ⟨_, rfl⟩
  obtain ⟨rz, hrz⟩ : ∃ x : Int, (lr : Int) = x := ⟨_, rfl⟩
  rw [hlz] at kLh c1
  rw [hsz] at kLs c1
  rw [hrz] at kLr
  have c2' : IntKind.i64.wrap (lz + rz) = sz := by
    rw [IntWalk.i64_in _ (by omega)]
    omega
  have KC := Lib.hid kC; have KLH := Lib.hid kLh; have KLS := Lib.hid kLs; have KLR := Lib.hid kLr; have KSS := Lib.hid kSs; have KSH := Lib.hid kSh; have KSR := Lib.hid kSr
  have q0 : ¬ ((a.size : Int) < (hd.size : Int)) := by omega
  have q1 : (!(hd.toList == hd.toList)) = false := by simp
  have q2 : max (0 : Int) (min n sz) = lz := c1.symm
  have q3 : (lz != lz) = false := by simp
  have q4 : (sz != sz) = false := by simp
  have q5 : (ta.toList == ta.toList) = true := beq_self_eq_true _
  have HPL := Lib.hid hpl2
  have F0 : Hid (decide (a.size < hd.size) = false) := Lib.hid (decide_eq_false (by omega))
  have F1 : Hid ((!(hd.toList == hd.toList)) = false) := Lib.hid q1
  have F2 : Hid (max (0 : Int) (min n sz) = lz) := Lib.hid q2
  have F3 : Hid (IntKind.i64.wrap (lz + rz) = sz) := Lib.hid c2'
  have F4 : Hid ((lz != lz) = false) := Lib.hid q3
  have F5 : Hid ((sz != sz) = false) := Lib.hid q4
  clear kC kLh kLs kLr kSs kSh kSr c1 c2 c3 hpl hpl2 hsl hrl hlz hsz hrz T HT ha n0 n1 g1 hle hts
  go_wp2_with fail
  refine (KC.out _ _ H1.out).mono ?_
  rintro e w2 ⟨rfl, h2⟩
  have HDW : Hid (St W w2.drew (fun b => W.heap[b]?) []) := Lib.hid (h2.drew 1)
  clear h2 H1 KC HF
  go_wp2_with fail
  apply endsIn (S := fun w' => St W w' (fun b => W.heap[b]?) [])
  case h =>
    refine wp_region_held_drew (S := fun w' => St W w' (fun b => W.heap[b]?) []) (by kernel_rfl) HDW.out (fun hHeld => ?_)
    refine wpAnyH_take (i := 0) (oi := ?_) (v := ?_) ?_ ?_ ?_ ?_ ?_ ?_ ?_ ?_
    rotate_left 2
    · (simp only [List.getElem?_toArray, List.getElem?_cons_succ, List.getElem?_cons_zero]; exact rfl)
    · kernel_rfl
    · kernel_rfl
    · kernel_rfl
    · exact fun _ _ _ h => h
    · first | (refine Or.inl ⟨by rfl, ?_⟩; intro w hSw; (try dsimp only at hSw); go_simp; try with_reducible rfl) | (refine Or.inr ⟨by rfl, ?_⟩; rfl)
    · assumption
    try simp only [Act.put, List.setIfInBounds_toArray, List.set_cons_zero, List.set_cons_succ]
    try simp only [F0.out, F1.out, F2.out, F3.out, F4.out, F5.out]
    refine wpAnyH_take (i := 1) (oi := ?_) (v := ?_) ?_ ?_ ?_ ?_ ?_ ?_ ?_ ?_
    rotate_left 2
    · (simp only [List.getElem?_toArray, List.getElem?_cons_succ, List.getElem?_cons_zero]; exact rfl)
    · kernel_rfl
    · kernel_rfl
    · kernel_rfl
    · exact fun _ _ _ h => h
    · first | (refine Or.inl ⟨by rfl, ?_⟩; intro w hSw; (try dsimp only at hSw); go_simp; try with_reducible rfl) | (refine Or.inr ⟨by rfl, ?_⟩; rfl)
    · assumption
    try simp only [Act.put, List.setIfInBounds_toArray, List.set_cons_zero, List.set_cons_succ]
    try simp only [F0.out, F1.out, F2.out, F3.out, F4.out, F5.out]
    refine wpAnyH_take (i := 2) (oi := ?_) (v := ?_) ?_ ?_ ?_ ?_ ?_ ?_ ?_ ?_
    rotate_left 2
    · (simp only [List.getElem?_toArray, List.getElem?_cons_succ, List.getElem?_cons_zero]; exact rfl)
    · kernel_rfl
    · kernel_rfl
    · kernel_rfl
    · exact fun _ _ _ h => h
    · first | (refine Or.inl ⟨by rfl, ?_⟩; intro w hSw; (try dsimp only at hSw); go_simp; try with_reducible rfl) | (refine Or.inr ⟨by rfl, ?_⟩; rfl)
    · assumption
    try simp only [Act.put, List.setIfInBounds_toArray, List.set_cons_zero, List.set_cons_succ]
    try simp only [F0.out, F1.out, F2.out, F3.out, F4.out, F5.out]
    refine wpAnyH_take (i := 3) (oi := ?_) (v := ?_) ?_ ?_ ?_ ?_ ?_ ?_ ?_ ?_
    rotate_left 2
    · (simp only [List.getElem?_toArray, List.getElem?_cons_succ, List.getElem?_cons_zero]; exact rfl)
    · kernel_rfl
    · kernel_rfl
    · kernel_rfl
    · exact fun _ _ _ h => h
    · first | (refine Or.inl ⟨by rfl, ?_⟩; intro w hSw; (try dsimp only at hSw); go_simp; try with_reducible rfl) | (refine Or.inr ⟨by rfl, ?_⟩; rfl)
    · assumption
    try simp only [Act.put, List.setIfInBounds_toArray, List.set_cons_zero, List.set_cons_succ]
    try simp only [F0.out, F1.out, F2.out, F3.out, F4.out, F5.out]
    refine wpAnyH_take (i := 4) (oi := ?_) (v := ?_) ?_ ?_ ?_ ?_ ?_ ?_ ?_ ?_
    rotate_left 2
    · (simp only [List.getElem?_toArray, List.getElem?_cons_succ, List.getElem?_cons_zero]; exact rfl)
    · kernel_rfl
    · kernel_rfl
    · kernel_rfl
    · exact fun _ _ _ h => h
    · first | (refine Or.inl ⟨by rfl, ?_⟩; intro w hSw; (try dsimp only at hSw); go_simp; try with_reducible rfl) | (refine Or.inr ⟨by rfl, ?_⟩; rfl)
    · assumption
    try simp only [Act.put, List.setIfInBounds_toArray, List.set_cons_zero, List.set_cons_succ]
    try simp only [F0.out, F1.out, F2.out, F3.out, F4.out, F5.out]
    refine wpAnyH_take (i := 5) (oi := ?_) (v := ?_) ?_ ?_ ?_ ?_ ?_ ?_ ?_ ?_
    rotate_left 2
    · (simp only [List.getElem?_toArray, List.getElem?_cons_succ, List.getElem?_cons_zero]; exact rfl)
    · kernel_rfl
    · kernel_rfl
    · kernel_rfl
    · exact fun _ _ _ h => h
    · first | (refine Or.inl ⟨by rfl, ?_⟩; intro w hSw; (try dsimp only at hSw); go_simp; try with_reducible rfl) | (refine Or.inr ⟨by rfl, ?_⟩; rfl)
    · assumption
    try simp only [Act.put, List.setIfInBounds_toArray, List.set_cons_zero, List.set_cons_succ]
    try simp only [F0.out, F1.out, F2.out, F3.out, F4.out, F5.out]
    refine wpAnyH_take (i := 6) (oi := ?_) (v := ?_) ?_ ?_ ?_ ?_ ?_ ?_ ?_ ?_
    rotate_left 2
    · (simp only [List.getElem?_toArray, List.getElem?_cons_succ, List.getElem?_cons_zero]; exact rfl)
    · kernel_rfl
    · kernel_rfl
    · kernel_rfl
    · exact fun _ _ _ h => h
    · first | (refine Or.inl ⟨by rfl, ?_⟩; intro w hSw; (try dsimp only at hSw); go_simp; try with_reducible rfl) | (refine Or.inr ⟨by rfl, ?_⟩; rfl)
    · assumption
    try simp only [Act.put, List.setIfInBounds_toArray, List.set_cons_zero, List.set_cons_succ]
    try simp only [F0.out, F1.out, F2.out, F3.out, F4.out, F5.out]
    refine wpAnyH_take (i := 7) (oi := ?_) (v := ?_) ?_ ?_ ?_ ?_ ?_ ?_ ?_ ?_
    rotate_left 2
    · (simp only [List.getElem?_toArray, List.getElem?_cons_succ, List.getElem?_cons_zero]; exact rfl)
    · kernel_rfl
    · kernel_rfl
    · kernel_rfl
    · exact fun _ _ _ h => h
    · first | (refine Or.inl ⟨by rfl, ?_⟩; intro w hSw; (try dsimp only at hSw); go_simp; try with_reducible rfl) | (refine Or.inr ⟨by rfl, ?_⟩; rfl)
    · assumption
    try simp only [Act.put, List.setIfInBounds_toArray, List.set_cons_zero, List.set_cons_succ]
    try simp only [F0.out, F1.out, F2.out, F3.out, F4.out, F5.out]
    refine wpAnyH_take (i := 8) (oi := ?_) (v := ?_) ?_ ?_ ?_ ?_ ?_ ?_ ?_ ?_
    rotate_left 2
    · (simp only [List.getElem?_toArray, List.getElem?_cons_succ, List.getElem?_cons_zero]; exact rfl)
    · kernel_rfl
    · kernel_rfl
    · kernel_rfl
    · exact fun _ _ _ h => h
    · first | (refine Or.inl ⟨by rfl, ?_⟩; intro w hSw; (try dsimp only at hSw); go_simp; try with_reducible rfl) | (refine Or.inr ⟨by rfl, ?_⟩; rfl)
    · assumption
    try simp only [Act.put, List.setIfInBounds_toArray, List.set_cons_zero, List.set_cons_succ]
    try simp only [F0.out, F1.out, F2.out, F3.out, F4.out, F5.out]
    refine wpAnyH_take (i := 9) (oi := ?_) (v := ?_) ?_ ?_ ?_ ?_ ?_ ?_ ?_ ?_
    rotate_left 2
    · (simp only [List.getElem?_toArray, List.getElem?_cons_succ, List.getElem?_cons_zero]; exact rfl)
    · kernel_rfl
    · kernel_rfl
    · kernel_rfl
    · exact fun _ _ _ h => h
    · first | (refine Or.inl ⟨by rfl, ?_⟩; intro w hSw; (try dsimp only at hSw); go_simp; try with_reducible rfl) | (refine Or.inr ⟨by rfl, ?_⟩; rfl)
    · assumption
    try simp only [Act.put, List.setIfInBounds_toArray, List.set_cons_zero, List.set_cons_succ]
    try simp only [F0.out, F1.out, F2.out, F3.out, F4.out, F5.out]
    refine wpAnyH_take (i := 10) (oi := ?_) (v := ?_) ?_ ?_ ?_ ?_ ?_ ?_ ?_ ?_
    rotate_left 2
    · (simp only [List.getElem?_toArray, List.getElem?_cons_succ, List.getElem?_cons_zero]; exact rfl)
    · kernel_rfl
    · kernel_rfl
    · kernel_rfl
    · exact fun _ _ _ h => h
    · first | (refine Or.inl ⟨by rfl, ?_⟩; intro w hSw; (try dsimp only at hSw); go_simp; try with_reducible rfl) | (refine Or.inr ⟨by rfl, ?_⟩; rfl)
    · assumption
    try simp only [Act.put, List.setIfInBounds_toArray, List.set_cons_zero, List.set_cons_succ]
    try simp only [F0.out, F1.out, F2.out, F3.out, F4.out, F5.out]
    refine wpAnyH_take (i := 11) (oi := ?_) (v := ?_) ?_ ?_ ?_ ?_ ?_ ?_ ?_ ?_
    rotate_left 2
    · (simp only [List.getElem?_toArray, List.getElem?_cons_succ, List.getElem?_cons_zero]; exact rfl)
    · kernel_rfl
    · kernel_rfl
    · kernel_rfl
    · exact fun _ _ _ h => h
    · first | (refine Or.inl ⟨by rfl, ?_⟩; intro w hSw; (try dsimp only at hSw); go_simp; try with_reducible rfl) | (refine Or.inr ⟨by rfl, ?_⟩; rfl)
    · assumption
    try simp only [Act.put, List.setIfInBounds_toArray, List.set_cons_zero, List.set_cons_succ]
    try simp only [F0.out, F1.out, F2.out, F3.out, F4.out, F5.out]
    refine wpAnyH_take (i := 12) (oi := ?_) (v := ?_) ?_ ?_ ?_ ?_ ?_ ?_ ?_ ?_
    rotate_left 2
    · (simp only [List.getElem?_toArray, List.getElem?_cons_succ, List.getElem?_cons_zero]; exact rfl)
    · kernel_rfl
    · kernel_rfl
    · kernel_rfl
    · exact fun _ _ _ h => h
    · first | (refine Or.inl ⟨by rfl, ?_⟩; intro w hSw; (try dsimp only at hSw); go_simp; try with_reducible rfl) | (refine Or.inr ⟨by rfl, ?_⟩; rfl)
    · assumption
    try simp only [Act.put, List.setIfInBounds_toArray, List.set_cons_zero, List.set_cons_succ]
    try simp only [F0.out, F1.out, F2.out, F3.out, F4.out, F5.out]
    refine wpAnyH_take (i := 13) (oi := ?_) (v := ?_) ?_ ?_ ?_ ?_ ?_ ?_ ?_ ?_
    rotate_left 2
    · (simp only [List.getElem?_toArray, List.getElem?_cons_succ, List.getElem?_cons_zero]; exact rfl)
    · kernel_rfl
    · kernel_rfl
    · kernel_rfl
    · exact fun _ _ _ h => h
    · first | (refine Or.inl ⟨by rfl, ?_⟩; intro w hSw; (try dsimp only at hSw); go_simp; try with_reducible rfl) | (refine Or.inr ⟨by rfl, ?_⟩; rfl)
    · assumption
    try simp only [Act.put, List.setIfInBounds_toArray, List.set_cons_zero, List.set_cons_succ]
    try simp only [F0.out, F1.out, F2.out, F3.out, F4.out, F5.out]
    refine wpAnyH_take (i := 14) (oi := ?_) (v := ?_) ?_ ?_ ?_ ?_ ?_ ?_ ?_ ?_
    rotate_left 2
    · (simp only [List.getElem?_toArray, List.getElem?_cons_succ, List.getElem?_cons_zero]; exact rfl)
    · kernel_rfl
    · kernel_rfl
    · kernel_rfl
    · exact fun _ _ _ h => h
    · first | (refine Or.inl ⟨by rfl, ?_⟩; intro w hSw; (try dsimp only at hSw); go_simp; try with_reducible rfl) | (refine Or.inr ⟨by rfl, ?_⟩; rfl)
    · assumption
    try simp only [Act.put, List.setIfInBounds_toArray, List.set_cons_zero, List.set_cons_succ]
    try simp only [F0.out, F1.out, F2.out, F3.out, F4.out, F5.out]
    refine wpAnyH_take (i := 16) (oi := ?_) (v := ?_) ?_ ?_ ?_ ?_ ?_ ?_ ?_ ?_
    rotate_left 2
    · (simp only [List.getElem?_toArray, List.getElem?_cons_succ, List.getElem?_cons_zero]; exact rfl)
    · kernel_rfl
    · kernel_rfl
    · kernel_rfl
    · exact fun _ _ _ h => h
    · first | (refine Or.inl ⟨by rfl, ?_⟩; intro w hSw; (try dsimp only at hSw); go_simp; try with_reducible rfl) | (refine Or.inr ⟨by rfl, ?_⟩; rfl)
    · assumption
    try simp only [Act.put, List.setIfInBounds_toArray, List.set_cons_zero, List.set_cons_succ]
    try simp only [F0.out, F1.out, F2.out, F3.out, F4.out, F5.out]
    refine wpAnyH_take (i := 17) (oi := ?_) (v := ?_) ?_ ?_ ?_ ?_ ?_ ?_ ?_ ?_
    rotate_left 2
    · (simp only [List.getElem?_toArray, List.getElem?_cons_succ, List.getElem?_cons_zero]; exact rfl)
    · kernel_rfl
    · kernel_rfl
    · kernel_rfl
    · exact fun _ _ _ h => h
    · first | (refine Or.inl ⟨by rfl, ?_⟩; intro w hSw; (try dsimp only at hSw); go_simp; try with_reducible rfl) | (refine Or.inr ⟨by rfl, ?_⟩; rfl)
    · assumption
    try simp only [Act.put, List.setIfInBounds_toArray, List.set_cons_zero, List.set_cons_succ]
    try simp only [F0.out, F1.out, F2.out, F3.out, F4.out, F5.out]
    refine wpAnyH_ready (rs := [15]) (by kernel_rfl) (by simp) ?_
    refine AllReadyH.cons (o := ?_) ?_ (fun K hK => ?_) ?_
    rotate_left 1
    · (simp only [List.getElem?_toArray, List.getElem?_cons_succ, List.getElem?_cons_zero]; exact rfl)
    · go_simp
      (go_at_call 35; (with_reducible refine (KLH.out _ _ (by first | exact hx | exact HDW.out)).mono ?_); rintro e wx ⟨rfl, hx⟩; dsimp only)
      refine hK.out _ _ ?_ (fun hHeld => ?_)
      · (try dsimp only) <;> (exact hx)
      clear hK K
      try simp only [Act.put, List.setIfInBounds_toArray, List.set_cons_zero, List.set_cons_succ]
      try simp only [F0.out, F1.out, F2.out, F3.out, F4.out, F5.out]
      refine wpAnyH_ready (rs := [18]) (by kernel_rfl) (by simp) ?_
      refine AllReadyH.cons (o := ?_) ?_ (fun K hK => ?_) ?_
      rotate_left 1
      · (simp only [List.getElem?_toArray, List.getElem?_cons_succ, List.getElem?_cons_zero]; exact rfl)
      · go_simp
        (go_at_call 35; (with_reducible refine (KLS.out _ _ (by first | exact hx | exact HDW.out)).mono ?_); rintro e wx ⟨rfl, hx⟩; dsimp only)
        refine hK.out _ _ ?_ (fun hHeld => ?_)
        · (try dsimp only) <;> (exact hx)
        clear hK K
        try simp only [Act.put, List.setIfInBounds_toArray, List.set_cons_zero, List.set_cons_succ]
        try simp only [F0.out, F1.out, F2.out, F3.out, F4.out, F5.out]
        refine wpAnyH_ready (rs := [19]) (by kernel_rfl) (by simp) ?_
        refine AllReadyH.cons (o := ?_) ?_ (fun K hK => ?_) ?_
        rotate_left 1
        · (simp only [List.getElem?_toArray, List.getElem?_cons_succ, List.getElem?_cons_zero]; exact rfl)
        · go_simp
          refine hK.out _ _ ?_ (fun hHeld => ?_)
          · (try dsimp only) <;> (exact hx)
          clear hK K
          try simp only [Act.put, List.setIfInBounds_toArray, List.set_cons_zero, List.set_cons_succ]
          try simp only [F0.out, F1.out, F2.out, F3.out, F4.out, F5.out]
          refine wpAnyH_ready (rs := [20]) (by kernel_rfl) (by simp) ?_
          refine AllReadyH.cons (o := ?_) ?_ (fun K hK => ?_) ?_
          rotate_left 1
          · (simp only [List.getElem?_toArray, List.getElem?_cons_succ, List.getElem?_cons_zero]; exact rfl)
          · go_simp
            refine hK.out _ _ ?_ (fun hHeld => ?_)
            · (try dsimp only) <;> (exact hx)
            clear hK K
            try simp only [Act.put, List.setIfInBounds_toArray, List.set_cons_zero, List.set_cons_succ]
            try simp only [F0.out, F1.out, F2.out, F3.out, F4.out, F5.out]
            refine wpAnyH_take (i := 21) (oi := ?_) (v := ?_) ?_ ?_ ?_ ?_ ?_ ?_ ?_ ?_
            rotate_left 2
            · (simp only [List.getElem?_toArray, List.getElem?_cons_succ, List.getElem?_cons_zero]; exact rfl)
            · kernel_rfl
            · kernel_rfl
            · kernel_rfl
            · exact fun _ _ _ h => h
            · first | (refine Or.inl ⟨by rfl, ?_⟩; intro w hSw; (try dsimp only at hSw); go_simp; try with_reducible rfl) | (refine Or.inr ⟨by rfl, ?_⟩; rfl)
            · assumption
            try simp only [Act.put, List.setIfInBounds_toArray, List.set_cons_zero, List.set_cons_succ]
            try simp only [F0.out, F1.out, F2.out, F3.out, F4.out, F5.out]
            refine wpAnyH_take (i := 22) (oi := ?_) (v := ?_) ?_ ?_ ?_ ?_ ?_ ?_ ?_ ?_
            rotate_left 2
            · (simp only [List.getElem?_toArray, List.getElem?_cons_succ, List.getElem?_cons_zero]; exact rfl)
            · kernel_rfl
            · kernel_rfl
            · kernel_rfl
            · exact fun _ _ _ h => h
            · first | (refine Or.inl ⟨by rfl, ?_⟩; intro w hSw; (try dsimp only at hSw); go_simp; try with_reducible rfl) | (refine Or.inr ⟨by rfl, ?_⟩; rfl)
            · assumption
            try simp only [Act.put, List.setIfInBounds_toArray, List.set_cons_zero, List.set_cons_succ]
            try simp only [F0.out, F1.out, F2.out, F3.out, F4.out, F5.out]
            refine wpAnyH_take (i := 23) (oi := ?_) (v := ?_) ?_ ?_ ?_ ?_ ?_ ?_ ?_ ?_
            rotate_left 2
            · (simp only [List.getElem?_toArray, List.getElem?_cons_succ, List.getElem?_cons_zero]; exact rfl)
            · kernel_rfl
            · kernel_rfl
            · kernel_rfl
            · exact fun _ _ _ h => h
            · first | (refine Or.inl ⟨by rfl, ?_⟩; intro w hSw; (try dsimp only at hSw); go_simp; try with_reducible rfl) | (refine Or.inr ⟨by rfl, ?_⟩; rfl)
            · assumption
            try simp only [Act.put, List.setIfInBounds_toArray, List.set_cons_zero, List.set_cons_succ]
            try simp only [F0.out, F1.out, F2.out, F3.out, F4.out, F5.out]
            refine wpAnyH_take (i := 24) (oi := ?_) (v := ?_) ?_ ?_ ?_ ?_ ?_ ?_ ?_ ?_
            rotate_left 2
            · (simp only [List.getElem?_toArray, List.getElem?_cons_succ, List.getElem?_cons_zero]; exact rfl)
            · kernel_rfl
            · kernel_rfl
            · kernel_rfl
            · exact fun _ _ _ h => h
            · first | (refine Or.inl ⟨by rfl, ?_⟩; intro w hSw; (try dsimp only at hSw); go_simp; try with_reducible rfl) | (refine Or.inr ⟨by rfl, ?_⟩; rfl)
            · assumption
            try simp only [Act.put, List.setIfInBounds_toArray, List.set_cons_zero, List.set_cons_succ]
            try simp only [F0.out, F1.out, F2.out, F3.out, F4.out, F5.out]
            refine wpAnyH_take (i := 26) (oi := ?_) (v := ?_) ?_ ?_ ?_ ?_ ?_ ?_ ?_ ?_
            rotate_left 2
            · (simp only [List.getElem?_toArray, List.getElem?_cons_succ, List.getElem?_cons_zero]; exact rfl)
            · kernel_rfl
            · kernel_rfl
            · kernel_rfl
            · exact fun _ _ _ h => h
            · first | (refine Or.inl ⟨by rfl, ?_⟩; intro w hSw; (try dsimp only at hSw); go_simp; try with_reducible rfl) | (refine Or.inr ⟨by rfl, ?_⟩; rfl)
            · assumption
            try simp only [Act.put, List.setIfInBounds_toArray, List.set_cons_zero, List.set_cons_succ]
            try simp only [F0.out, F1.out, F2.out, F3.out, F4.out, F5.out]
            refine wpAnyH_take (i := 27) (oi := ?_) (v := ?_) ?_ ?_ ?_ ?_ ?_ ?_ ?_ ?_
            rotate_left 2
            · (simp only [List.getElem?_toArray, List.getElem?_cons_succ, List.getElem?_cons_zero]; exact rfl)
            · kernel_rfl
            · kernel_rfl
            · kernel_rfl
            · exact fun _ _ _ h => h
            · first | (refine Or.inl ⟨by rfl, ?_⟩; intro w hSw; (try dsimp only at hSw); go_simp; try with_reducible rfl) | (refine Or.inr ⟨by rfl, ?_⟩; rfl)
            · assumption
            try simp only [Act.put, List.setIfInBounds_toArray, List.set_cons_zero, List.set_cons_succ]
            try simp only [F0.out, F1.out, F2.out, F3.out, F4.out, F5.out]
            refine wpAnyH_take (i := 28) (oi := ?_) (v := ?_) ?_ ?_ ?_ ?_ ?_ ?_ ?_ ?_
            rotate_left 2
            · (simp only [List.getElem?_toArray, List.getElem?_cons_succ, List.getElem?_cons_zero]; exact rfl)
            · kernel_rfl
            · kernel_rfl
            · kernel_rfl
            · exact fun _ _ _ h => h
            · first | (refine Or.inl ⟨by rfl, ?_⟩; intro w hSw; (try dsimp only at hSw); go_simp; try with_reducible rfl) | (refine Or.inr ⟨by rfl, ?_⟩; rfl)
            · assumption
            try simp only [Act.put, List.setIfInBounds_toArray, List.set_cons_zero, List.set_cons_succ]
            try simp only [F0.out, F1.out, F2.out, F3.out, F4.out, F5.out]
            refine wpAnyH_take (i := 29) (oi := ?_) (v := ?_) ?_ ?_ ?_ ?_ ?_ ?_ ?_ ?_
            rotate_left 2
            · (simp only [List.getElem?_toArray, List.getElem?_cons_succ, List.getElem?_cons_zero]; exact rfl)
            · kernel_rfl
            · kernel_rfl
            · kernel_rfl
            · exact fun _ _ _ h => h
            · first | (refine Or.inl ⟨by rfl, ?_⟩; intro w hSw; (try dsimp only at hSw); go_simp; try with_reducible rfl) | (refine Or.inr ⟨by rfl, ?_⟩; rfl)
            · assumption
            try simp only [Act.put, List.setIfInBounds_toArray, List.set_cons_zero, List.set_cons_succ]
            try simp only [F0.out, F1.out, F2.out, F3.out, F4.out, F5.out]
            refine wpAnyH_take (i := 32) (oi := ?_) (v := ?_) ?_ ?_ ?_ ?_ ?_ ?_ ?_ ?_
            rotate_left 2
            · (simp only [List.getElem?_toArray, List.getElem?_cons_succ, List.getElem?_cons_zero]; exact rfl)
            · kernel_rfl
            · kernel_rfl
            · kernel_rfl
            · exact fun _ _ _ h => h
            · first | (refine Or.inl ⟨by rfl, ?_⟩; intro w hSw; (try dsimp only at hSw); go_simp; try with_reducible rfl) | (refine Or.inr ⟨by rfl, ?_⟩; rfl)
            · assumption
            try simp only [Act.put, List.setIfInBounds_toArray, List.set_cons_zero, List.set_cons_succ]
            try simp only [F0.out, F1.out, F2.out, F3.out, F4.out, F5.out]
            refine wpAnyH_ready (rs := [25]) (by kernel_rfl) (by simp) ?_
            refine AllReadyH.cons (o := ?_) ?_ (fun K hK => ?_) ?_
            rotate_left 1
            · (simp only [List.getElem?_toArray, List.getElem?_cons_succ, List.getElem?_cons_zero]; exact rfl)
            · go_simp
              (go_at_call 35; (with_reducible refine (KLH.out _ _ (by first | exact hx | exact HDW.out)).mono ?_); rintro e wx ⟨rfl, hx⟩; dsimp only)
              refine hK.out _ _ ?_ (fun hHeld => ?_)
              · (try dsimp only) <;> (exact hx)
              clear hK K
              try simp only [Act.put, List.setIfInBounds_toArray, List.set_cons_zero, List.set_cons_succ]
              try simp only [F0.out, F1.out, F2.out, F3.out, F4.out, F5.out]
              refine wpAnyH_ready (rs := [30]) (by kernel_rfl) (by simp) ?_
              refine AllReadyH.cons (o := ?_) ?_ (fun K hK => ?_) ?_
              rotate_left 1
              · (simp only [List.getElem?_toArray, List.getElem?_cons_succ, List.getElem?_cons_zero]; exact rfl)
              · go_simp
                (go_at_call 35; (with_reducible refine (KLR.out _ _ (by first | exact hx | exact HDW.out)).mono ?_); rintro e wx ⟨rfl, hx⟩; dsimp only)
                refine hK.out _ _ ?_ (fun hHeld => ?_)
                · (try dsimp only) <;> (exact hx)
                clear hK K
                try simp only [Act.put, List.setIfInBounds_toArray, List.set_cons_zero, List.set_cons_succ]
                try simp only [F0.out, F1.out, F2.out, F3.out, F4.out, F5.out]
                refine wpAnyH_take (i := 31) (oi := ?_) (v := ?_) ?_ ?_ ?_ ?_ ?_ ?_ ?_ ?_
                rotate_left 2
                · (simp only [List.getElem?_toArray, List.getElem?_cons_succ, List.getElem?_cons_zero]; exact rfl)
                · kernel_rfl
                · kernel_rfl
                · kernel_rfl
                · exact fun _ _ _ h => h
                · first | (refine Or.inl ⟨by rfl, ?_⟩; intro w hSw; (try dsimp only at hSw); go_simp; try with_reducible rfl) | (refine Or.inr ⟨by rfl, ?_⟩; rfl)
                · assumption
                try simp only [Act.put, List.setIfInBounds_toArray, List.set_cons_zero, List.set_cons_succ]
                try simp only [F0.out, F1.out, F2.out, F3.out, F4.out, F5.out]
                refine wpAnyH_ready (rs := [33]) (by kernel_rfl) (by simp) ?_
                refine AllReadyH.cons (o := ?_) ?_ (fun K hK => ?_) ?_
                rotate_left 1
                · (simp only [List.getElem?_toArray, List.getElem?_cons_succ, List.getElem?_cons_zero]; exact rfl)
                · go_simp
                  (go_at_call 35; (with_reducible refine (KLS.out _ _ (by first | exact hx | exact HDW.out)).mono ?_); rintro e wx ⟨rfl, hx⟩; dsimp only)
                  refine hK.out _ _ ?_ (fun hHeld => ?_)
                  · (try dsimp only) <;> (exact hx)
                  clear hK K
                  try simp only [Act.put, List.setIfInBounds_toArray, List.set_cons_zero, List.set_cons_succ]
                  try simp only [F0.out, F1.out, F2.out, F3.out, F4.out, F5.out]
                  refine wpAnyH_take (i := 34) (oi := ?_) (v := ?_) ?_ ?_ ?_ ?_ ?_ ?_ ?_ ?_
                  rotate_left 2
                  · (simp only [List.getElem?_toArray, List.getElem?_cons_succ, List.getElem?_cons_zero]; exact rfl)
                  · kernel_rfl
                  · kernel_rfl
                  · kernel_rfl
                  · exact fun _ _ _ h => h
                  · first | (refine Or.inl ⟨by rfl, ?_⟩; intro w hSw; (try dsimp only at hSw); go_simp; try with_reducible rfl) | (refine Or.inr ⟨by rfl, ?_⟩; rfl)
                  · assumption
                  try simp only [Act.put, List.setIfInBounds_toArray, List.set_cons_zero, List.set_cons_succ]
                  try simp only [F0.out, F1.out, F2.out, F3.out, F4.out, F5.out]
                  refine wpAnyH_take (i := 35) (oi := ?_) (v := ?_) ?_ ?_ ?_ ?_ ?_ ?_ ?_ ?_
                  rotate_left 2
                  · (simp only [List.getElem?_toArray, List.getElem?_cons_succ, List.getElem?_cons_zero]; exact rfl)
                  · kernel_rfl
                  · kernel_rfl
                  · kernel_rfl
                  · exact fun _ _ _ h => h
                  · first | (refine Or.inl ⟨by rfl, ?_⟩; intro w hSw; (try dsimp only at hSw); go_simp; try with_reducible rfl) | (refine Or.inr ⟨by rfl, ?_⟩; rfl)
                  · assumption
                  try simp only [Act.put, List.setIfInBounds_toArray, List.set_cons_zero, List.set_cons_succ]
                  try simp only [F0.out, F1.out, F2.out, F3.out, F4.out, F5.out]
                  refine wpAnyH_done (by kernel_rfl) ?_ _
                  exact ⟨rfl, by assumption⟩
                exact AllReadyH.nil
              exact AllReadyH.nil
            exact AllReadyH.nil
          exact AllReadyH.nil
        exact AllReadyH.nil
      exact AllReadyH.nil
    exact AllReadyH.nil
  case k =>
    intro w3 h3
    have H3 := Lib.hid h3
    clear h3
    have F6 : Hid (th ++ tr = ta) := Lib.hid hap
    have F7 : Hid ((ta.toList == ta.toList) = true) := Lib.hid q5
    clear KLH KLS KLR
    go_wp2_with fail
    refine (KSS.out _ _ H3.out).mono ?_
    rintro e w4 ⟨rfl, h4⟩
    have H4 := Lib.hid h4
    clear h4 H3 KSS
    go_wp2_with fail
    go_loopw [7] (fun v wr => ∃ k : Nat, v = .int .i64 (k : Int) ∧ k ≤ ta.size ∧ St W wr (fun b => W.heap[b]?) []) (fun v _ => ta.size - (intOf v).toNat)
    case atStart => exact ⟨0, rfl, by omega, H4.out⟩
    case round =>
      obtain ⟨k, rfl, hk, hst⟩ := hrel
      clear H4
      by_cases hp : k < ta.size
      · obtain ⟨b1, b2, b3⟩ := HPL.out k hp
        have hkI : (k : Int) < (ta.size : Int) := by omega
        have x1 : ¬ (((ta[k]'hp).toNat : Int) < 32) := by omega
        have x2 : ¬ ((126 : Int) < ((ta[k]'hp).toNat : Int)) := by omega
        have x3 : (((ta[k]'hp).toNat : Int) == 34) = false := by
          apply beq_eq_false_iff_ne.2
          intro h
          apply b3
          apply UInt8.toNat_inj.1
          show _ = 34
          omega
        have H5 := Lib.hid hst
        clear hst b1 b2 b3
        go_wp2_with fail
        go_roundw
        case rel => exact ⟨k + 1, by go_num, by omega, H5.out⟩
        case measure => simp [intOf]; omega
      · obtain rfl : k = ta.size := by omega
        have zz : ¬ (9223372036854775807 < th.size + tr.size) := by
          have : th.size + tr.size = ta.size := by rw [← hap]; exact ByteArray.size_append.symm
          omega
        have HDW : Hid (St W wr.drew (fun b => W.heap[b]?) []) := Lib.hid (hst.drew 1)
        clear hst
        go_wp2_with fail
        apply endsIn (S := fun w' => St W w' (fun b => W.heap[b]?) [])
        case h =>
          refine wp_region_held_drew (S := fun w' => St W w' (fun b => W.heap[b]?) []) (by kernel_rfl) HDW.out (fun hHeld => ?_)
          refine wpAnyH_take (i := 0) (oi := ?_) (v := ?_) ?_ ?_ ?_ ?_ ?_ ?_ ?_ ?_
          rotate_left 2
          · (simp only [List.getElem?_toArray, List.getElem?_cons_succ, List.getElem?_cons_zero]; exact rfl)
          · kernel_rfl
          · kernel_rfl
          · kernel_rfl
          · exact fun _ _ _ h => h
          · first | (refine Or.inl ⟨by rfl, ?_⟩; intro w hSw; (try dsimp only at hSw); go_simp; try with_reducible rfl) | (refine Or.inr ⟨by rfl, ?_⟩; rfl)
          · assumption
          try simp only [Act.put, List.setIfInBounds_toArray, List.set_cons_zero, List.set_cons_succ]
          try simp only [F6.out, F7.out]
          refine wpAnyH_take (i := 2) (oi := ?_) (v := ?_) ?_ ?_ ?_ ?_ ?_ ?_ ?_ ?_
          rotate_left 2
          · (simp only [List.getElem?_toArray, List.getElem?_cons_succ, List.getElem?_cons_zero]; exact rfl)
          · kernel_rfl
          · kernel_rfl
          · kernel_rfl
          · exact fun _ _ _ h => h
          · first | (refine Or.inl ⟨by rfl, ?_⟩; intro w hSw; (try dsimp only at hSw); go_simp; try with_reducible rfl) | (refine Or.inr ⟨by rfl, ?_⟩; rfl)
          · assumption
          try simp only [Act.put, List.setIfInBounds_toArray, List.set_cons_zero, List.set_cons_succ]
          try simp only [F6.out, F7.out]
          refine wpAnyH_take (i := 3) (oi := ?_) (v := ?_) ?_ ?_ ?_ ?_ ?_ ?_ ?_ ?_
          rotate_left 2
          · (simp only [List.getElem?_toArray, List.getElem?_cons_succ, List.getElem?_cons_zero]; exact rfl)
          · kernel_rfl
          · kernel_rfl
          · kernel_rfl
          · exact fun _ _ _ h => h
          · first | (refine Or.inl ⟨by rfl, ?_⟩; intro w hSw; (try dsimp only at hSw); go_simp; try with_reducible rfl) | (refine Or.inr ⟨by rfl, ?_⟩; rfl)
          · assumption
          try simp only [Act.put, List.setIfInBounds_toArray, List.set_cons_zero, List.set_cons_succ]
          try simp only [F6.out, F7.out]
          refine wpAnyH_take (i := 4) (oi := ?_) (v := ?_) ?_ ?_ ?_ ?_ ?_ ?_ ?_ ?_
          rotate_left 2
          · (simp only [List.getElem?_toArray, List.getElem?_cons_succ, List.getElem?_cons_zero]; exact rfl)
          · kernel_rfl
          · kernel_rfl
          · kernel_rfl
          · exact fun _ _ _ h => h
          · first | (refine Or.inl ⟨by rfl, ?_⟩; intro w hSw; (try dsimp only at hSw); go_simp; try with_reducible rfl) | (refine Or.inr ⟨by rfl, ?_⟩; rfl)
          · assumption
          try simp only [Act.put, List.setIfInBounds_toArray, List.set_cons_zero, List.set_cons_succ]
          try simp only [F6.out, F7.out]
          refine wpAnyH_take (i := 5) (oi := ?_) (v := ?_) ?_ ?_ ?_ ?_ ?_ ?_ ?_ ?_
          rotate_left 2
          · (simp only [List.getElem?_toArray, List.getElem?_cons_succ, List.getElem?_cons_zero]; exact rfl)
          · kernel_rfl
          · kernel_rfl
          · kernel_rfl
          · exact fun _ _ _ h => h
          · first | (refine Or.inl ⟨by rfl, ?_⟩; intro w hSw; (try dsimp only at hSw); go_simp; try with_reducible rfl) | (refine Or.inr ⟨by rfl, ?_⟩; rfl)
          · assumption
          try simp only [Act.put, List.setIfInBounds_toArray, List.set_cons_zero, List.set_cons_succ]
          try simp only [F6.out, F7.out]
          refine wpAnyH_take (i := 8) (oi := ?_) (v := ?_) ?_ ?_ ?_ ?_ ?_ ?_ ?_ ?_
          rotate_left 2
          · (simp only [List.getElem?_toArray, List.getElem?_cons_succ, List.getElem?_cons_zero]; exact rfl)
          · kernel_rfl
          · kernel_rfl
          · kernel_rfl
          · exact fun _ _ _ h => h
          · first | (refine Or.inl ⟨by rfl, ?_⟩; intro w hSw; (try dsimp only at hSw); go_simp; try with_reducible rfl) | (refine Or.inr ⟨by rfl, ?_⟩; rfl)
          · assumption
          try simp only [Act.put, List.setIfInBounds_toArray, List.set_cons_zero, List.set_cons_succ]
          try simp only [F6.out, F7.out]
          refine wpAnyH_ready (rs := [1]) (by kernel_rfl) (by simp) ?_
          refine AllReadyH.cons (o := ?_) ?_ (fun K hK => ?_) ?_
          rotate_left 1
          · (simp only [List.getElem?_toArray, List.getElem?_cons_succ, List.getElem?_cons_zero]; exact rfl)
          · go_simp
            (go_at_call 26; (with_reducible refine (KSH.out _ _ (by first | exact hx | exact HDW.out)).mono ?_); rintro e wx ⟨rfl, hx⟩; dsimp only)
            refine hK.out _ _ ?_ (fun hHeld => ?_)
            · (try dsimp only) <;> (exact hx)
            clear hK K
            try simp only [Act.put, List.setIfInBounds_toArray, List.set_cons_zero, List.set_cons_succ]
            try simp only [F6.out, F7.out]
            refine wpAnyH_ready (rs := [6]) (by kernel_rfl) (by simp) ?_
            refine AllReadyH.cons (o := ?_) ?_ (fun K hK => ?_) ?_
            rotate_left 1
            · (simp only [List.getElem?_toArray, List.getElem?_cons_succ, List.getElem?_cons_zero]; exact rfl)
            · go_simp
              (go_at_call 26; (with_reducible refine (KSR.out _ _ (by first | exact hx | exact HDW.out)).mono ?_); rintro e wx ⟨rfl, hx⟩; dsimp only)
              refine hK.out _ _ ?_ (fun hHeld => ?_)
              · (try dsimp only) <;> (exact hx)
              clear hK K
              try simp only [Act.put, List.setIfInBounds_toArray, List.set_cons_zero, List.set_cons_succ]
              try simp only [F6.out, F7.out]
              refine wpAnyH_take (i := 7) (oi := ?_) (v := ?_) ?_ ?_ ?_ ?_ ?_ ?_ ?_ ?_
              rotate_left 2
              · (simp only [List.getElem?_toArray, List.getElem?_cons_succ, List.getElem?_cons_zero]; exact rfl)
              · kernel_rfl
              · kernel_rfl
              · kernel_rfl
              · exact fun _ _ _ h => h
              · first | (refine Or.inl ⟨by rfl, ?_⟩; intro w hSw; (try dsimp only at hSw); go_simp; try with_reducible rfl) | (refine Or.inr ⟨by rfl, ?_⟩; rfl)
              · assumption
              try simp only [Act.put, List.setIfInBounds_toArray, List.set_cons_zero, List.set_cons_succ]
              try simp only [F6.out, F7.out]
              refine wpAnyH_take (i := 9) (oi := ?_) (v := ?_) ?_ ?_ ?_ ?_ ?_ ?_ ?_ ?_
              rotate_left 2
              · (simp only [List.getElem?_toArray, List.getElem?_cons_succ, List.getElem?_cons_zero]; exact rfl)
              · kernel_rfl
              · kernel_rfl
              · kernel_rfl
              · exact fun _ _ _ h => h
              · first | (refine Or.inl ⟨by rfl, ?_⟩; intro w hSw; (try dsimp only at hSw); go_simp; try with_reducible rfl) | (refine Or.inr ⟨by rfl, ?_⟩; rfl)
              · assumption
              try simp only [Act.put, List.setIfInBounds_toArray, List.set_cons_zero, List.set_cons_succ]
              try simp only [F6.out, F7.out]
              refine wpAnyH_take (i := 10) (oi := ?_) (v := ?_) ?_ ?_ ?_ ?_ ?_ ?_ ?_ ?_
              rotate_left 2
              · (simp only [List.getElem?_toArray, List.getElem?_cons_succ, List.getElem?_cons_zero]; exact rfl)
              · kernel_rfl
              · kernel_rfl
              · kernel_rfl
              · exact fun _ _ _ h => h
              · first | (refine Or.inl ⟨by rfl, ?_⟩; intro w hSw; (try dsimp only at hSw); go_simp; try with_reducible rfl) | (refine Or.inr ⟨by rfl, ?_⟩; rfl)
              · assumption
              try simp only [Act.put, List.setIfInBounds_toArray, List.set_cons_zero, List.set_cons_succ]
              try simp only [F6.out, F7.out]
              refine wpAnyH_done (by kernel_rfl) ?_ _
              exact ⟨rfl, by assumption⟩
            exact AllReadyH.nil
          exact AllReadyH.nil
        case k =>
          intro w6 h6
          have HF : Hid (Below W.heap.size W w6) := Lib.hid (h6.below (Le.refl _))
          clear h6
          go_wp2_with fail
          go_ret
          exact ⟨rfl, HF.out⟩
end Go.Proofs.YtpjfmgifddoppaaDoor
