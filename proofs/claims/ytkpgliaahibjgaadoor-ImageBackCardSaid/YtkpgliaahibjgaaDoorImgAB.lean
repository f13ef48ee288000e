/- image: hashes in memory that turns no more; clones. image: a stream; New: walk. -/
import Derived.Test.YtkpgliaahibjgaaDoorRmake
import Derived.Test.YtkpgliaahibjgaaDoorManAB
import Derived.Test.YtkpgliaahibjgaaDoorDigs
import Derived.Deep.RegionHeld3
import Derived.Deep.RegionWith
namespace Go.Proofs.YtkpgliaahibjgaaDoor
section
set_option linter.unusedVariables false
set_option linter.unusedSimpArgs false
open Go.RowKit Go.Lib

theorem Part.In.mono {p : Part} {W : World} {I J : Nat → Option Obj} (h : p.In W I) (hle : Le I J) : p.In W J := fun w L hst => h w L (hst.less hle)
theorem Part.In.nil_of_none {p : Part} {W w : World} {I : Nat → Option Obj} {F : List (Nat × Obj)} (h : p.In W I) (hst : St W w I F) (hA : p.A = none) : p.bs = [] := by
  cases hb : p.bs with
  | nil => rfl
  | cons x l =>
    obtain ⟨ad, h1, _⟩ := (h w F hst).2 0 (bval x) (by rw [hb]; rfl)
    rw [hA] at h1
    cases h1

theorem run_eql_slice_nil' {P : Program} (t : TypeId) {e : TypeId} (h : P.underlying t = some (.slice e)) (a : Option Addr) (l c : Nat) (w : World) : (binOp .eql t (.slice a l c) (.slice none 0 0)).run P w = .ok (.bool a.isNone) w := by
  simp [binOp, Sem.run_bind, run_equal_slice_nil w t e a l c h, Result.andThen]

/-- Hashes in memory that turns no more. -/
structure HsIn (A : Option Addr) (hs : List (List UInt8)) (W : World) (I : Nat → Option Obj) : Prop where
  len : ∀ h ∈ hs, h.length = 32
  at_ : ∀ w L, St W w I L → ∀ j u, (hcells hs)[j]? = some u → ∃ b off, A = some ⟨b, off, none⟩ ∧ w.cell? ⟨b, off + j, none⟩ = some u
theorem HsIn.mono {A : Option Addr} {hs : List (List UInt8)} {W : World} {I J : Nat → Option Obj} (h : HsIn A hs W I) (hle : Le I J) : HsIn A hs W J := ⟨h.len, fun w L hst => h.at_ w L (hst.less hle)⟩
theorem hcells_one (hs : List (List UInt8)) : ∀ u ∈ hcells hs, u.oneCell' = true := by
  intro u hu
  obtain ⟨l, _, hl⟩ := List.mem_flatMap.1 hu
  obtain ⟨b, _, rfl⟩ := List.mem_map.1 hl
  rfl
theorem hcells_length : ∀ (hs : List (List UInt8)), (∀ h ∈ hs, h.length = 32) → (hcells hs).length = hs.length * 32
  | [], _ => rfl
  | h :: hs, hl => by
    have h1 := hcells_length hs (fun x hx => hl x (by simp [hx]))
    have h2 := hl h (by simp)
    unfold hcells at *
    rw [List.flatMap_cons, List.length_append, List.length_map, h1, h2, List.length_cons]
    omega
theorem hcells_get : ∀ (hs : List (List UInt8)) (k j : Nat) (h : List UInt8), (∀ h ∈ hs, h.length = 32) → hs[k]? = some h → j < 32 → (hcells hs)[k * 32 + j]? = (h.map bval)[j]?
  | [], k, j, h, _, hk, _ => by simp at hk
  | q :: l, 0, j, h, hl, hk, hj => by
    simp at hk
    subst hk
    have := hl q (by simp)
    simp only [hcells, List.flatMap_cons, Nat.zero_mul, Nat.zero_add]
    rw [List.getElem?_append_left (by rw [List.length_map]; omega)]
  | q :: l, k + 1, j, h, hl, hk, hj => by
    have := hl q (by simp)
    simp only [hcells, List.flatMap_cons]
    rw [List.getElem?_append_right (by rw [List.length_map]; omega), show (k + 1) * 32 + j - (q.map bval).length = k * 32 + j by rw [List.length_map]; omega]
    exact hcells_get l k j h (fun x hx => hl x (by simp [hx])) (by simpa using hk) hj
theorem HsIn.nil {A : Option Addr} {W : World} {I : Nat → Option Obj} : HsIn A [] W I := ⟨by simp, fun w L _ j u hj => by simp [hcells] at hj⟩

section
variable {W w : World} {I : Nat → Option Obj} {F : List (Nat × Obj)}
theorem HsIn.src {A : Option Addr} {hs : List (List UInt8)} (h : HsIn A hs W I) (hst : St W w I F) : Src w 32 A hs.length (hcells hs) :=
  ⟨hcells_length hs h.len, fun j u hj => by
    obtain ⟨b, off, rfl, hc⟩ := h.at_ w F hst j u hj
    exact ⟨_, rfl, by rw [show (⟨b, off, none⟩ : Addr).add j = ⟨b, off + j, none⟩ by unfold Addr.add; split <;> simp_all]; exact hc⟩⟩
/-- The k-th hash, where it lies. -/
theorem HsIn.range {A : Option Addr} {hs : List (List UInt8)} (h : HsIn A hs W I) (hst : St W w I F) {k : Nat} {x : List UInt8} (hk : hs[k]? = some x) : ∃ b off, A = some ⟨b, off, none⟩ ∧ ∀ v L, St W v I L → v.rangeAt b (off + k * 32) (x.map bval) := by
  have hx := h.len x (List.mem_of_getElem? hk)
  have key : ∀ v L, St W v I L → ∀ j, j < 32 → ∃ b off, A = some (⟨b, off, none⟩ : Addr) ∧ v.cell? ⟨b, off + (k * 32 + j), none⟩ = (x.map bval)[j]? := fun v L hv j hj => by
    have h1 := hcells_get hs k j x h.len hk hj
    have hjl : j < (x.map bval).length := by rw [List.length_map]; omega
    rw [List.getElem?_eq_getElem hjl] at h1
    obtain ⟨b, off, hA, h2⟩ := h.at_ v L hv _ _ h1
    exact ⟨b, off, hA, by rw [h2, List.getElem?_eq_getElem hjl]⟩
  obtain ⟨b, off, hA, _⟩ := key w F hst 0 (by omega)
  refine ⟨b, off, hA, fun v L hv j u hu => ?_⟩
  have hjl : j < 32 := by have := (List.getElem?_eq_some_iff.1 hu).1; rw [List.length_map] at this; omega
  obtain ⟨b', off', hA', h3⟩ := key v L hv j hjl
  rw [hA] at hA'
  injection hA' with hA'
  injection hA' with e1 e2
  subst e1; subst e2
  rw [Nat.add_assoc, h3, hu]
/-- Blocks of ours turn no more. -/
theorem St.freezes : ∀ (L0 : List (Nat × Obj)) {I : Nat → Option Obj} {F : List (Nat × Obj)}, St W w I (L0 ++ F) → ∃ J, Le I J ∧ (∀ p ∈ L0, J p.1 = some p.2) ∧ St W w J F
  | [], I, F, h => ⟨I, Le.refl I, by simp, h⟩
  | p :: L0, I, F, h => by
    obtain ⟨J, h1, h2, h3⟩ := St.freeze (g := p.1) (o := p.2) (L := L0 ++ F) h
    obtain ⟨K, h4, h5, h6⟩ := St.freezes L0 h3
    refine ⟨K, h1.trans h4, fun q hq => ?_, h6⟩
    rcases List.mem_cons.1 hq with rfl | hq
    · exact h4 _ _ h2
    · exact h5 q hq
theorem hs_freeze {A : Option Addr} {c : Nat} {hs : List (List UInt8)} {L0 : List (Nat × Obj)} (hl : ∀ h ∈ hs, h.length = 32) (hr : Row 31 32 (.slice A hs.length c) hs.length (hcells hs) L0) (h : St W w I (L0 ++ F)) : ∃ J, Le I J ∧ HsIn A hs W J ∧ St W w J F := by
  obtain ⟨J, h1, h2, h3⟩ := St.freezes L0 h
  refine ⟨J, h1, ⟨hl, fun v L hv j u hj => ?_⟩, h3⟩
  obtain ⟨g, off, cap, cur, hA, rfl, hc⟩ := hr.cells hj
  injection hA with e1 e2 e3
  refine ⟨g, off, e1, ?_⟩
  rw [cell_of_row v g (off + j) cur 31 (0, 0) (hv.imm _ _ (h2 (g, .cells cur 31) (by simp)))]
  exact hc
theorem part_freeze {A : Option Addr} {c : Nat} {xs : List UInt8} {L0 : List (Nat × Obj)} (hr : Row 5 1 (.slice A xs.length c) xs.length (xs.map bval) L0) (h : St W w I (L0 ++ F)) : ∃ J, Le I J ∧ Part.In ⟨A, c, xs⟩ W J ∧ St W w J F := by
  obtain ⟨J, h1, h2, h3⟩ := St.freezes L0 h
  exact ⟨J, h1, fun v L hv => hr.src (fun p hp => hv.imm _ _ (h2 p hp)), h3⟩

/-- Bytes of the call's own. -/
def FreshB (W w : World) (I : Nat → Option Obj) (F : List (Nat × Obj)) (bs : List UInt8) (v : Value) : Prop :=
  ∃ A c L', v = .slice A bs.length c ∧ Row 5 1 (.slice A bs.length c) bs.length (bs.map bval) L' ∧ St W w I (L' ++ F)
theorem FreshB.nil (h : St W w I F) : FreshB W w I F [] (.slice none 0 0) := ⟨none, 0, [], rfl, Row.nil _ _, h⟩

set_option maxRecDepth 100000 in
set_option maxHeartbeats 1000000 in
theorem clone_bytes (p : Part) (hp : p.In W I) (hlen : p.bs.length ≤ 140737488355328) (h : St W w I F) :
    Calls Tryd.prog 43 #[p.val] w fun e w' => ∃ v, e = .returned v ∧ FreshB W w' I F p.bs v := by
  unfold Part.val
  cases hA : p.A with
  | none =>
    have hb := hp.nil_of_none h hA
    rw [hb]
    have H := Lib.hid h
    clear h hp hb hlen
    have hq := fun c => run_eql_slice_nil' (P := Tryd.prog) 22 Tryd.underlying22 none 0 c
    go_enter Tryd.func43, Tryd.ntmps43
    go_wp2_with fail
    go_ret
    exact ⟨_, rfl, FreshB.nil H.out⟩
  | some ad =>
    have h2 := h.alloc (.cells #[] 5)
    have hsrc := hp _ _ h2
    rw [hA] at hsrc
    have hr := Row.empty 5 1 w.heap.size
    have hone : ∀ u ∈ p.bs.map bval, u.oneCell' = true := by intro u hu; obtain ⟨b, _, rfl⟩ := List.mem_map.1 hu; rfl
    have hq := fun l c => run_eql_slice_nil' (P := Tryd.prog) 22 Tryd.underlying22 (some ad) l c
    clear hp h
    go_enter Tryd.func43, Tryd.ntmps43
    go_wp2_with (at_builtin; refine Hid.out ?_)
    refine Lib.hid ?_
    refine wpList_append_row0 (F := F) rfl (.tmp 5) (.tmp 6) 22 rfl 5 (.int .u8 0) 1 1 Tryd.underlying22 (by kernel_rfl) rfl (by omega) rfl hr (by exact h2) rfl (by exact hsrc) hone p.bs.length (by omega) (p.bs.map bval) rfl (by unfold maxLen; omega) (by omega) ?_
    intro A1 c1 w2 L1 hr1 h3 ho
    have H3 := Lib.hid h3; have HR := Lib.hid hr1
    clear h3 hr1 ho h2 hsrc hr hone
    go_wp2_with fail
    go_ret
    exact ⟨_, rfl, _, _, _, rfl, HR.out, H3.out⟩

set_option maxRecDepth 100000 in
set_option maxHeartbeats 1000000 in
theorem clone_hashes (A : Option Addr) (c : Nat) (hs : List (List UInt8)) (hp : HsIn A hs W I) (hlen : hs.length ≤ 1000000) (h : St W w I F) :
    Calls Tryd.prog 30 #[.slice A hs.length c] w fun e w' => ∃ A' c' L', e = .returned (.slice A' hs.length c') ∧ Row 31 32 (.slice A' hs.length c') hs.length (hcells hs) L' ∧ St W w' I (L' ++ F) := by
  cases hA : A with
  | none =>
    have hb : hs = [] := by
      cases hb : hs with
      | nil => rfl
      | cons x l =>
        have hx := hp.len x (by rw [hb]; simp)
        obtain ⟨b, off, h1, _⟩ := hp.at_ w F h 0 _ (List.getElem?_eq_getElem (by rw [hcells_length hs hp.len, hb]; simp))
        rw [hA] at h1; cases h1
    subst hb
    have H := Lib.hid h
    have hq := fun c => run_eql_slice_nil' (P := Tryd.prog) 32 Tryd.underlying32 none 0 c
    clear h hp hlen
    go_enter Tryd.func30, Tryd.ntmps30
    go_wp2_with fail
    go_ret
    exact ⟨none, 0, [], rfl, Row.nil _ _, H.out⟩
  | some ad =>
    have h2 := h.alloc (.cells #[] 31)
    have hsrc := hp.src h2
    rw [hA] at hsrc
    have hr := Row.empty 31 32 w.heap.size
    have hone := hcells_one hs
    have hq := fun l c => run_eql_slice_nil' (P := Tryd.prog) 32 Tryd.underlying32 (some ad) l c
    clear hp h
    go_enter Tryd.func30, Tryd.ntmps30
    go_wp2_with (at_builtin; refine Hid.out ?_)
    refine Lib.hid ?_
    refine wpList_append_row0 (F := F) rfl (.tmp 5) (.tmp 6) 32 rfl 31 (.agg #[.int .u8 0, .int .u8 0, .int .u8 0, .int .u8 0, .int .u8 0, .int .u8 0, .int .u8 0, .int .u8 0, .int .u8 0, .int .u8 0, .int .u8 0, .int .u8 0, .int .u8 0, .int .u8 0, .int .u8 0, .int .u8 0, .int .u8 0, .int .u8 0, .int .u8 0, .int .u8 0, .int .u8 0, .int .u8 0, .int .u8 0, .int .u8 0, .int .u8 0, .int .u8 0, .int .u8 0, .int .u8 0, .int .u8 0, .int .u8 0, .int .u8 0, .int .u8 0]) 32 32 Tryd.underlying32 (by kernel_rfl) rfl (by omega) rfl hr (by exact h2) rfl (by exact hsrc) hone hs.length (by omega) (hcells hs) rfl (by unfold maxLen; omega) (by omega) ?_
    intro A1 c1 w2 L1 hr1 h3 ho
    have H3 := Lib.hid h3; have HR := Lib.hid hr1
    clear h3 hr1 ho h2 hsrc hr hone
    go_wp2_with fail
    go_ret
    exact ⟨_, _, _, rfl, HR.out, H3.out⟩
end
end

section
set_option linter.unusedVariables false
set_option linter.unusedSimpArgs false
open Go.RowKit Go.Lib

theorem range_old {w : World} {o : Obj} {b off : Nat} {ls : List Value} (h : w.rangeAt b off ls) : (w.alloc o).rangeAt b off ls := fun j v hv => cell_old (h j v hv)
/-- A stream as it lies in memory. -/
def sCells (m : Man) (g want : Nat) : Array Value := (m.cells.toList ++ [Value.pointer (some ⟨g, 0, none⟩), .int .i64 want]).toArray
theorem sCells_lo {m : Man} (ok : m.Ok) (g want : Nat) {j : Nat} (h : j < 37) : (sCells m g want)[j]? = m.cells[j]? := by
  have h1 := Man.cells_size ok
  unfold sCells
  rw [List.getElem?_toArray, List.getElem?_append_left (by rw [Array.length_toList]; omega), Array.getElem?_toList]
theorem sCells_37 {m : Man} (ok : m.Ok) (g want : Nat) : (sCells m g want)[37]? = some (.pointer (some ⟨g, 0, none⟩)) := by
  have h1 := Man.cells_size ok
  unfold sCells
  rw [List.getElem?_toArray, List.getElem?_append_right (by rw [Array.length_toList]; omega), Array.length_toList, h1]
  rfl
theorem sCells_38 {m : Man} (ok : m.Ok) (g want : Nat) : (sCells m g want)[38]? = some (.int .i64 want) := by
  have h1 := Man.cells_size ok
  unfold sCells
  rw [List.getElem?_toArray, List.getElem?_append_right (by rw [Array.length_toList]; omega), Array.length_toList, h1]
  rfl
theorem sCells_set {m : Man} (ok : m.Ok) (g want k : Nat) : (sCells m g want).setIfInBounds 38 (.int .i64 k) = sCells m g k := by
  have h1 := Man.cells_size ok
  unfold sCells
  apply Array.toList_inj.1
  rw [Array.toList_setIfInBounds]
  simp only
  rw [List.set_append_right _ _ (by rw [Array.length_toList]; omega), Array.length_toList, h1]
  rfl
theorem fold_fill (X Z : Array Value) (n : Nat) (h : X.size = n) (hz : n ≤ Z.size) : Array.foldl (fun cs (x : Value × Nat) => cs.setIfInBounds x.snd x.fst) Z X.zipIdx 0 n = (X.toList ++ Z.toList.drop n).toArray := by
  have e : Array.foldl (fun cs (x : Value × Nat) => cs.setIfInBounds x.snd x.fst) Z X.zipIdx 0 n = Array.foldl (fun cs (x : Value × Nat) => cs.setIfInBounds x.snd x.fst) Z X.zipIdx 0 X.zipIdx.size := by rw [Array.size_zipIdx, h]
  rw [e, ← Array.foldl_toList, Array.toList_zipIdx, fold_set]
  apply Array.ext_getElem?
  intro j
  rw [setMany_get _ _ _ _ (by rw [Array.length_toList]; omega), Array.length_toList, h]
  by_cases hj : j < n
  · rw [if_pos (by omega), Nat.sub_zero, List.getElem?_toArray]
    exact (List.getElem?_append_left (by rw [Array.length_toList]; omega)).symm
  · rw [if_neg (by omega), List.getElem?_toArray]
    have := List.getElem?_append_right (l₁ := X.toList) (l₂ := Z.toList.drop n) (i := j) (by rw [Array.length_toList]; omega)
    rw [List.getElem?_toArray, this, Array.length_toList, h, List.getElem?_drop, show n + (j - n) = j by omega, Array.getElem?_toList]

section
variable {W w : World} {I : Nat → Option Obj} {F : List (Nat × Obj)}
theorem Digs.alloc {ds : List (Nat × List UInt8)} (h : Digs W w I ds F) (o : Obj) : Digs W (w.alloc o) I ds ((w.heap.size, o) :: F) := by
  obtain ⟨G, hb, hst⟩ := h
  exact ⟨G, hb, (hst.alloc o).perm List.perm_middle.symm⟩
theorem Digs.mid {ds : List (Nat × List UInt8)} {A B : List (Nat × Obj)} (h : Digs W w I ds (A ++ (B ++ F))) : Digs W w I ds (A ++ F) := by
  obtain ⟨G, hb, hst⟩ := h
  refine ⟨G, hb, ?_⟩
  rw [← List.append_assoc] at hst ⊢
  exact St.mid hst
/-- A stream: where, its manifest, what it has taken, how many. -/
def Strm (W w : World) (I : Nat → Option Obj) (s g : Nat) (m : Man) (bs : List UInt8) (want : Nat) (F : List (Nat × Obj)) : Prop := Digs W w I [(g, bs)] ((s, .cells (sCells m g want) 71 (0, 0)) :: F)
def NewPost (W : World) (I : Nat → Option Obj) (F : List (Nat × Obj)) (m : Man) (hs : List (List UInt8)) (e : Ending) (w' : World) : Prop :=
  (rightM m = true → ∃ J A' c' s g, Le I J ∧ e = .returned (.tuple #[.pointer (some ⟨s, 0, none⟩), .int .i64 0]) ∧ HsIn A' hs W J ∧ Strm W w' J s g { m with A := A', n := hs.length, c := c' } [] 0 F) ∧
  (rightM m = false → e = .returned (.tuple #[.pointer none, .int .i64 131]) ∧ St W w' I F)

set_option maxRecDepth 100000 in
set_option maxHeartbeats 4000000 in
theorem inew (t : TB W I) (m : Man) (ok : m.Ok) (hs : List (List UInt8)) (hn : m.n = hs.length) (hh : HsIn m.A hs W I) (hps : m.prod.size ≤ 140737488355328) (hsl : hs.length ≤ 1000000) (h : St W w I F) :
    Calls Tryd.prog 13 #[m.val] w (NewPost W I F m hs) := by
  have h1 := h.alloc (.cells m.cells 34)
  have cR := right_own t m ok hps h1
  have hsz := Man.cells_size ok
  have hmi : (Tryd.prog.info? 34).map (·.size) = some m.cells.size := by rw [hsz]; kernel_rfl
  obtain ⟨R, hR⟩ : ∃ R, rightM m = R := ⟨_, rfl⟩
  rw [hR] at cR
  obtain ⟨mk, hmk⟩ : ∃ mk, mk = m.cells := ⟨_, rfl⟩
  have hval : m.val = .agg mk := by rw [hmk]; rfl
  rw [hval] at cR ⊢
  rw [← hmk] at hmi h1 cR hsz
  have H1 := Lib.hid h1; have CR := Lib.hid cR; have HMI := Lib.hid hmi; have HMK := Lib.hid hmk; have HR := Lib.hid hR; have HH := Lib.hid hh; have HSZ := Lib.hid hsz; have HVAL := Lib.hid hval
  clear h h1 cR hmi hmk hR hh hsz hval t
  go_enter Tryd.func13, Tryd.ntmps13
  go_wp2_with (with_reducible refine wpList_load_st rfl 34 (.tmp 1) rfl (g := w.heap.size) (off := 0) rfl H1.out (List.mem_cons_self ..) mk (fun j hj => by rw [Nat.zero_add]) _ Tryd.underlying34 rfl HMI.out ?_)
  refine CR.out.mono ?_
  rintro e w1 ⟨rfl, h2⟩
  have H2 := Lib.hid h2
  clear H1 CR h2
  generalize w.heap.size = b1 at *
  cases R with
  | false =>
    go_wp2_with fail
    go_ret2
    exact ⟨fun h => absurd (HR.out.symm.trans h) (by simp), fun _ => ⟨rfl, St.weaken (A := [_]) H2.out⟩⟩
  | true =>
    have d36 : w1.cell? ⟨b1, 36, none⟩ = some (.slice m.A m.n m.c) := (H2.out.cell (g := b1) (List.mem_cons_self ..) 36).trans (by rw [HMK.out]; exact Man.g36 ok)
    rw [hn] at d36
    go_wp2_with fail
    refine (clone_hashes m.A m.c hs HH.out hsl H2.out).mono ?_
    rintro e w2 ⟨A', c', L', rfl, hr, h3⟩
    obtain ⟨J, hle, hh', h4⟩ := hs_freeze HH.out.len hr h3
    have z36 : (w2.cell? ⟨b1, 36, none⟩) = some (.slice m.A m.n m.c) := (h4.cell (g := b1) (List.mem_cons_self ..) 36).trans (by rw [HMK.out]; exact Man.g36 ok)
    have f36 : w2.frozen? ⟨b1, 36, none⟩ = false := h4.frozen (g := b1) (List.mem_cons_self ..) 36
    have h5 := St.set (A := []) h4 36 (.slice A' hs.length c')
    rw [HMK.out, man_set36 m ok] at h5
    obtain ⟨mk', hmk'⟩ : ∃ mk', mk' = Man.cells { m with A := A', n := hs.length, c := c' } := ⟨_, rfl⟩
    rw [← hmk'] at h5
    have ok' : ({ m with A := A', n := hs.length, c := c' } : Man).Ok := ⟨ok.dig, ok.v0, ok.v1, ok.s0, ok.s1, ok.c0, ok.c1, by simp only; omega⟩
    have hms' : mk'.size = 37 := by rw [hmk']; exact Man.cells_size ok'
    have hmi' : (Tryd.prog.info? 34).map (·.size) = some mk'.toList.length := by rw [Array.length_toList, hms']; kernel_rfl
    have RG : Hid (∀ v L, St W v J ((b1, .cells mk' 34 (0, 0)) :: L) → v.rangeAt b1 0 mk'.toList) := Lib.hid (fun v L hv => hv.rangeAt (g := b1) (List.mem_cons_self ..) (fun j hj => by rw [Nat.zero_add, Array.getElem?_toList]))
    have cN := fun (v : World) (hv : St W v J ((b1, .cells mk' 34 (0, 0)) :: F)) => ds_new (Digs.nil hv)
    obtain ⟨Y, hY⟩ : ∃ Y, Array.foldl (fun cs (x : Value × Nat) => cs.setIfInBounds x.snd x.fst) (Value.string ⟨#[]⟩ :: .int .u64 0 :: .int .i64 0 :: .int .i64 0 :: .int .u8 0 :: .int .u8 0 :: .int .u8 0 :: .int .u8 0 :: .int .u8 0 :: .int .u8 0 :: .int .u8 0 :: .int .u8 0 :: .int .u8 0 :: .int .u8 0 :: .int .u8 0 :: .int .u8 0 :: .int .u8 0 :: .int .u8 0 :: .int .u8 0 :: .int .u8 0 :: .int .u8 0 :: .int .u8 0 :: .int .u8 0 :: .int .u8 0 :: .int .u8 0 :: .int .u8 0 :: .int .u8 0 :: .int .u8 0 :: .int .u8 0 :: .int .u8 0 :: .int .u8 0 :: .int .u8 0 :: .int .u8 0 :: .int .u8 0 :: .int .u8 0 :: .int .u8 0 :: .slice none 0 0 :: .pointer none :: .int .i64 0 :: []).toArray mk'.zipIdx 0 37 = Y := ⟨_, rfl⟩
    have hYv : Y = (mk'.toList ++ [Value.pointer none, .int .i64 0]).toArray := by rw [← hY]; exact fold_fill mk' _ 37 hms' (by decide)
    have hYs : Y.size = 39 := by rw [hYv, List.size_toArray, List.length_append, Array.length_toList, hms']; rfl
    have hYset : ∀ g : Nat, Y.setIfInBounds 37 (.pointer (some ⟨g, 0, none⟩)) = sCells { m with A := A', n := hs.length, c := c' } g 0 := fun g => by
      rw [hYv]
      apply Array.toList_inj.1
      rw [Array.toList_setIfInBounds]
      unfold sCells
      simp only
      rw [List.set_append_right _ _ (by rw [Array.length_toList]; omega), Array.length_toList, hms', hmk']
      rfl
    have HYV := Lib.hid hYset
    clear hYv hYset
    have H5 := Lib.hid h5; have HMI2 := Lib.hid hmi'; have CN := Lib.hid cN; have HMK2 := Lib.hid hmk'; have HH2 := Lib.hid hh'
    have HUL := Lib.hid Tryd.underlying34
    clear h5 hmi' cN hmk' hh' h4 h3 hr H2 d36 HMI HSZ
    go_wp2_with fail
    have HDW := Lib.hid H5.out.drew1
    clear z36 f36
    refine wp_region_held_drew (S := fun w' => w'.rangeAt b1 0 mk'.toList) (by kernel_rfl) (RG.out _ _ HDW.out) (fun hHeld => ?_)
    refine wpAnyH_take (i := 0) (oi := ?_) (v := ?_) ?_ ?_ ?_ ?_ ?_ ?_ ?_ ?_
    rotate_left 2
    · (simp only [List.getElem?_toArray, List.getElem?_cons_succ, List.getElem?_cons_zero]; exact rfl)
    · kernel_rfl
    · kernel_rfl
    · kernel_rfl
    · exact fun _ _ _ h => h
    · ((refine yieldsIf_load_mid ?_ 34 (.tmp 1) ?_ b1 0 ?_ mk'.toList _ ?_ HUL.out ?_ HMI2.out) <;> first | rfl | exact fun w h => h)
    · assumption
    try simp only [Act.put, List.setIfInBounds_toArray, List.set_cons_zero, List.set_cons_succ]
    refine wpAnyH_ready (rs := [1]) (by kernel_rfl) (by simp) ?_
    refine AllReadyH.cons (o := ?_) ?_ (fun K hK => ?_) ?_
    rotate_left 1
    · (simp only [List.getElem?_toArray, List.getElem?_cons_succ, List.getElem?_cons_zero]; exact rfl)
    · go_simp
      (first | (go_at_call 31; (with_reducible refine (CN.out _ HDW.out).mono ?_); rintro e wx ⟨g, rfl, hx⟩; dsimp only))
      refine hK.out _ _ ?_ (fun hHeld => ?_)
      · (try dsimp only) <;> (first | exact RG.out _ _ hx.frame | exact range_old (RG.out _ _ hx.frame))
      clear hK K
      try simp only [Act.put, List.setIfInBounds_toArray, List.set_cons_zero, List.set_cons_succ]
      refine wpAnyH_take (i := 2) (oi := ?_) (v := ?_) ?_ ?_ ?_ ?_ ?_ ?_ ?_ ?_
      rotate_left 2
      · (simp only [List.getElem?_toArray, List.getElem?_cons_succ, List.getElem?_cons_zero]; exact rfl)
      · kernel_rfl
      · kernel_rfl
      · kernel_rfl
      · exact fun _ _ _ h => h
      · (refine Or.inl ⟨by rfl, ?_⟩; intro w hSw; (try dsimp only at hSw); go_simp; try with_reducible rfl)
      · assumption
      try simp only [Act.put, List.setIfInBounds_toArray, List.set_cons_zero, List.set_cons_succ]
      refine wpAnyH_ready (rs := [3]) (by kernel_rfl) (by simp) ?_
      refine AllReadyH.cons (o := ?_) ?_ (fun K hK => ?_) ?_
      rotate_left 1
      · (simp only [List.getElem?_toArray, List.getElem?_cons_succ, List.getElem?_cons_zero]; exact rfl)
      · go_simp
        refine hK.out _ _ ?_ (fun hHeld => ?_)
        · (try dsimp only) <;> (first | exact RG.out _ _ hx.frame | exact range_old (RG.out _ _ hx.frame))
        clear hK K
        try simp only [Act.put, List.setIfInBounds_toArray, List.set_cons_zero, List.set_cons_succ]
        refine wpAnyH_take (i := 4) (oi := ?_) (v := ?_) ?_ ?_ ?_ ?_ ?_ ?_ ?_ ?_
        rotate_left 2
        · (simp only [List.getElem?_toArray, List.getElem?_cons_succ, List.getElem?_cons_zero]; exact rfl)
        · kernel_rfl
        · kernel_rfl
        · kernel_rfl
        · exact fun _ _ _ h => h
        · (refine Or.inl ⟨by rfl, ?_⟩; intro w hSw; (try dsimp only at hSw); go_simp; try with_reducible rfl)
        · assumption
        try simp only [Act.put, List.setIfInBounds_toArray, List.set_cons_zero, List.set_cons_succ]
        refine wpAnyH_take (i := 5) (oi := ?_) (v := ?_) ?_ ?_ ?_ ?_ ?_ ?_ ?_ ?_
        rotate_left 2
        · (simp only [List.getElem?_toArray, List.getElem?_cons_succ, List.getElem?_cons_zero]; exact rfl)
        · kernel_rfl
        · kernel_rfl
        · kernel_rfl
        · exact fun _ _ _ h => h
        · (refine Or.inl ⟨by rfl, ?_⟩; intro w hSw; (try dsimp only at hSw); go_simp; try with_reducible rfl)
        · assumption
        try simp only [Act.put, List.setIfInBounds_toArray, List.set_cons_zero, List.set_cons_succ]
        refine wpAnyH_done (by kernel_rfl) ?_ _
        have e9 := HYV.out g
        have h9 := hx.alloc (.cells (Y.setIfInBounds 37 (.pointer (some ⟨g, 0, none⟩))) 71)
        rw [e9] at h9 ⊢
        have h10 := Digs.mid (A := [_]) (B := [_]) h9
        have H10 := Lib.hid h10
        clear h9 h10 hx
        go_wp2_with fail
        go_ret2
        exact ⟨fun _ => ⟨J, A', c', _, g, hle, rfl, HH2.out, H10.out⟩, fun h => absurd (HR.out.symm.trans h) (by simp)⟩
      exact AllReadyH.nil
    exact AllReadyH.nil
end
end
end Go.Proofs.YtkpgliaahibjgaaDoor
