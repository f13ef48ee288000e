/- image: hashes in memory that turns no more; clones. -/
import Derived.Test.YtkpgliaahibjgaaDoorRmake
namespace Go.Proofs.YtkpgliaahibjgaaDoor
set_option linter.unusedVariables false
set_option linter.unusedSimpArgs false
open Go.RowKit Go.Lib

theorem Part.In.mono {p : Part} {W : World} {I J : Nat → Option Obj} (h : p.In W I) (hle : Le I J) : p.In W J := fun w L hst => h w L (hst.less hle)
theorem Part.In.nil_of_none {p : Part} {W w : World} {I : Nat → Option Obj} {F : List (Nat × Obj)} (h : p.In W I) (hst : St W w I F) (hA : p.A = none) : p.bs = [] := by
  cases hb : p.bs with
  | nil => rfl
  | cons x l =>
    obtain ⟨ad, h1, _⟩ := (h w F hst).2 0 (bval x) (by rw [hb]; rfl)
    rw [hA] at h1
    cases h1

theorem run_eql_slice_nil' {P : Program} (t : TypeId) {e : TypeId} (h : P.underlying t = some (.slice e)) (a : Option Addr) (l c : Nat) (w : World) : (binOp .eql t (.slice a l c) (.slice none 0 0)).run P w = .ok (.bool a.isNone) w := by
  simp [binOp, Sem.run_bind, run_equal_slice_nil w t e a l c h, Result.andThen]

/-- Hashes in memory that turns no more. -/
structure HsIn (A : Option Addr) (hs : List (List UInt8)) (W : World) (I : Nat → Option Obj) : Prop where
  len : ∀ h ∈ hs, h.length = 32
  at_ : ∀ w L, St W w I L → ∀ j u, (hcells hs)[j]? = some u → ∃ b off, A = some ⟨b, off, none⟩ ∧ w.cell? ⟨b, off + j, none⟩ = some u
theorem HsIn.mono {A : Option Addr} {hs : List (List UInt8)} {W : World} {I J : Nat → Option Obj} (h : HsIn A hs W I) (hle : Le I J) : HsIn A hs W J := ⟨h.len, fun w L hst => h.at_ w L (hst.less hle)⟩
theorem hcells_one (hs : List (List UInt8)) : ∀ u ∈ hcells hs, u.oneCell' = true := by
  intro u hu
  obtain ⟨l, _, hl⟩ := List.mem_flatMap.1 hu
  obtain ⟨b, _, rfl⟩ := List.mem_map.1 hl
  rfl
theorem hcells_length : ∀ (hs : List (List UInt8)), (∀ h ∈ hs, h.length = 32) → (hcells hs).length = hs.length * 32
  | [], _ => rfl
  | h :: hs, hl => by
    have h1 := hcells_length hs (fun x hx => hl x (by simp [hx]))
    have h2 := hl h (by simp)
    unfold hcells at *
    rw [List.flatMap_cons, List.length_append, List.length_map, h1, h2, List.length_cons]
    omega
theorem hcells_get : ∀ (hs : List (List UInt8)) (k j : Nat) (h : List UInt8), (∀ h ∈ hs, h.length = 32) → hs[k]? = some h → j < 32 → (hcells hs)[k * 32 + j]? = (h.map bval)[j]?
  | [], k, j, h, _, hk, _ => by simp at hk
  | q :: l, 0, j, h, hl, hk, hj => by
    simp at hk
    subst hk
    have := hl q (by simp)
    simp only [hcells, List.flatMap_cons, Nat.zero_mul, Nat.zero_add]
    rw [List.getElem?_append_left (by rw [List.length_map]; omega)]
  | q :: l, k + 1, j, h, hl, hk, hj => by
    have := hl q (by simp)
    simp only [hcells, List.flatMap_cons]
    rw [List.getElem?_append_right (by rw [List.length_map]; omega), show (k + 1) * 32 + j - (q.map bval).length = k * 32 + j by rw [List.length_map]; omega]
    exact hcells_get l k j h (fun x hx => hl x (by simp [hx])) (by simpa using hk) hj
theorem HsIn.nil {A : Option Addr} {W : World} {I : Nat → Option Obj} : HsIn A [] W I := ⟨by simp, fun w L _ j u hj => by simp [hcells] at hj⟩

section
variable {W w : World} {I : Nat → Option Obj} {F : List (Nat × Obj)}
theorem HsIn.src {A : Option Addr} {hs : List (List UInt8)} (h : HsIn A hs W I) (hst : St W w I F) : Src w 32 A hs.length (hcells hs) :=
  ⟨hcells_length hs h.len, fun j u hj => by
    obtain ⟨b, off, rfl, hc⟩ := h.at_ w F hst j u hj
    exact ⟨_, rfl, by rw [show (⟨b, off, none⟩ : Addr).add j = ⟨b, off + j, none⟩ by unfold Addr.add; split <;> simp_all]; exact hc⟩⟩
/-- The k-th hash, where it lies. -/
theorem HsIn.range {A : Option Addr} {hs : List (List UInt8)} (h : HsIn A hs W I) (hst : St W w I F) {k : Nat} {x : List UInt8} (hk : hs[k]? = some x) : ∃ b off, A = some ⟨b, off, none⟩ ∧ ∀ v L, St W v I L → v.rangeAt b (off + k * 32) (x.map bval) := by
  have hx := h.len x (List.mem_of_getElem? hk)
  have key : ∀ v L, St W v I L → ∀ j, j < 32 → ∃ b off, A = some (⟨b, off, none⟩ : Addr) ∧ v.cell? ⟨b, off + (k * 32 + j), none⟩ = (x.map bval)[j]? := fun v L hv j hj => by
    have h1 := hcells_get hs k j x h.len hk hj
    have hjl : j < (x.map bval).length := by rw [List.length_map]; omega
    rw [List.getElem?_eq_getElem hjl] at h1
    obtain ⟨b, off, hA, h2⟩ := h.at_ v L hv _ _ h1
    exact ⟨b, off, hA, by rw [h2, List.getElem?_eq_getElem hjl]⟩
  obtain ⟨b, off, hA, _⟩ := key w F hst 0 (by omega)
  refine ⟨b, off, hA, fun v L hv j u hu => ?_⟩
  have hjl : j < 32 := by have := (List.getElem?_eq_some_iff.1 hu).1; rw [List.length_map] at this; omega
  obtain ⟨b', off', hA', h3⟩ := key v L hv j hjl
  rw [hA] at hA'
  injection hA' with hA'
  injection hA' with e1 e2
  subst e1; subst e2
  rw [Nat.add_assoc, h3, hu]
/-- Blocks of ours turn no more. -/
theorem St.freezes : ∀ (L0 : List (Nat × Obj)) {I : Nat → Option Obj} {F : List (Nat × Obj)}, St W w I (L0 ++ F) → ∃ J, Le I J ∧ (∀ p ∈ L0, J p.1 = some p.2) ∧ St W w J F
  | [], I, F, h => ⟨I, Le.refl I, by simp, h⟩
  | p :: L0, I, F, h => by
    obtain ⟨J, h1, h2, h3⟩ := St.freeze (g := p.1) (o := p.2) (L := L0 ++ F) h
    obtain ⟨K, h4, h5, h6⟩ := St.freezes L0 h3
    refine ⟨K, h1.trans h4, fun q hq => ?_, h6⟩
    rcases List.mem_cons.1 hq with rfl | hq
    · exact h4 _ _ h2
    · exact h5 q hq
theorem hs_freeze {A : Option Addr} {c : Nat} {hs : List (List UInt8)} {L0 : List (Nat × Obj)} (hl : ∀ h ∈ hs, h.length = 32) (hr : Row 31 32 (.slice A hs.length c) hs.length (hcells hs) L0) (h : St W w I (L0 ++ F)) : ∃ J, Le I J ∧ HsIn A hs W J ∧ St W w J F := by
  obtain ⟨J, h1, h2, h3⟩ := St.freezes L0 h
  refine ⟨J, h1, ⟨hl, fun v L hv j u hj => ?_⟩, h3⟩
  obtain ⟨g, off, cap, cur, hA, rfl, hc⟩ := hr.cells hj
  injection hA with e1 e2 e3
  refine ⟨g, off, e1, ?_⟩
  rw [cell_of_row v g (off + j) cur 31 (0, 0) (hv.imm _ _ (h2 (g, .cells cur 31) (by simp)))]
  exact hc
theorem part_freeze {A : Option Addr} {c : Nat} {xs : List UInt8} {L0 : List (Nat × Obj)} (hr : Row 5 1 (.slice A xs.length c) xs.length (xs.map bval) L0) (h : St W w I (L0 ++ F)) : ∃ J, Le I J ∧ Part.In ⟨A, c, xs⟩ W J ∧ St W w J F := by
  obtain ⟨J, h1, h2, h3⟩ := St.freezes L0 h
  exact ⟨J, h1, fun v L hv => hr.src (fun p hp => hv.imm _ _ (h2 p hp)), h3⟩

/-- Bytes of the call's own. -/
def FreshB (W w : World) (I : Nat → Option Obj) (F : List (Nat × Obj)) (bs : List UInt8) (v : Value) : Prop :=
  ∃ A c L', v = .slice A bs.length c ∧ Row 5 1 (.slice A bs.length c) bs.length (bs.map bval) L' ∧ St W w I (L' ++ F)
theorem FreshB.nil (h : St W w I F) : FreshB W w I F [] (.slice none 0 0) := ⟨none, 0, [], rfl, Row.nil _ _, h⟩

set_option maxRecDepth 100000 in
set_option maxHeartbeats 1000000 in
theorem clone_bytes (p : Part) (hp : p.In W I) (hlen : p.bs.length ≤ 140737488355328) (h : St W w I F) :
    Calls Tryd.prog 43 #[p.val] w fun e w' => ∃ v, e = .returned v ∧ FreshB W w' I F p.bs v := by
  unfold Part.val
  cases hA : p.A with
  | none =>
    have hb := hp.nil_of_none h hA
    rw [hb]
    have H := Lib.hid h
    clear h hp hb hlen
    have hq := fun c => run_eql_slice_nil' (P := Tryd.prog) 22 Tryd.underlying22 none 0 c
    go_enter Tryd.func43, Tryd.ntmps43
    go_wp2_with fail
    go_ret
    exact ⟨_, rfl, FreshB.nil H.out⟩
  | some ad =>
    have h2 := h.alloc (.cells #[] 5)
    have hsrc := hp _ _ h2
    rw [hA] at hsrc
    have hr := Row.empty 5 1 w.heap.size
    have hone : ∀ u ∈ p.bs.map bval, u.oneCell' = true := by intro u hu; obtain ⟨b, _, rfl⟩ := List.mem_map.1 hu; rfl
    have hq := fun l c => run_eql_slice_nil' (P := Tryd.prog) 22 Tryd.underlying22 (some ad) l c
    clear hp h
    go_enter Tryd.func43, Tryd.ntmps43
    go_wp2_with (at_builtin; refine Hid.out ?_)
    refine Lib.hid ?_
    refine wpList_append_row0 (F := F) rfl (.tmp 5) (.tmp 6) 22 rfl 5 (.int .u8 0) 1 1 Tryd.underlying22 (by kernel_rfl) rfl (by omega) rfl hr (by exact h2) rfl (by exact hsrc) hone p.bs.length (by omega) (p.bs.map bval) rfl (by unfold maxLen; omega) (by omega) ?_
    intro A1 c1 w2 L1 hr1 h3 ho
    have H3 := Lib.hid h3; have HR := Lib.hid hr1
    clear h3 hr1 ho h2 hsrc hr hone
    go_wp2_with fail
    go_ret
    exact ⟨_, rfl, _, _, _, rfl, HR.out, H3.out⟩

set_option maxRecDepth 100000 in
set_option maxHeartbeats 1000000 in
theorem clone_hashes (A : Option Addr) (c : Nat) (hs : List (List UInt8)) (hp : HsIn A hs W I) (hlen : hs.length ≤ 1000000) (h : St W w I F) :
    Calls Tryd.prog 30 #[.slice A hs.length c] w fun e w' => ∃ A' c' L', e = .returned (.slice A' hs.length c') ∧ Row 31 32 (.slice A' hs.length c') hs.length (hcells hs) L' ∧ St W w' I (L' ++ F) := by
  cases hA : A with
  | none =>
    have hb : hs = [] := by
      cases hb : hs with
      | nil => rfl
      | cons x l =>
        have hx := hp.len x (by rw [hb]; simp)
        obtain ⟨b, off, h1, _⟩ := hp.at_ w F h 0 _ (List.getElem?_eq_getElem (by rw [hcells_length hs hp.len, hb]; simp))
        rw [hA] at h1; cases h1
    subst hb
    have H := Lib.hid h
    have hq := fun c => run_eql_slice_nil' (P := Tryd.prog) 32 Tryd.underlying32 none 0 c
    clear h hp hlen
    go_enter Tryd.func30, Tryd.ntmps30
    go_wp2_with fail
    go_ret
    exact ⟨none, 0, [], rfl, Row.nil _ _, H.out⟩
  | some ad =>
    have h2 := h.alloc (.cells #[] 31)
    have hsrc := hp.src h2
    rw [hA] at hsrc
    have hr := Row.empty 31 32 w.heap.size
    have hone := hcells_one hs
    have hq := fun l c => run_eql_slice_nil' (P := Tryd.prog) 32 Tryd.underlying32 (some ad) l c
    clear hp h
    go_enter Tryd.func30, Tryd.ntmps30
    go_wp2_with (at_builtin; refine Hid.out ?_)
    refine Lib.hid ?_
    refine wpList_append_row0 (F := F) rfl (.tmp 5) (.tmp 6) 32 rfl 31 (.agg #[.int .u8 0, .int .u8 0, .int .u8 0, .int .u8 0, .int .u8 0, .int .u8 0, .int .u8 0, .int .u8 0, .int .u8 0, .int .u8 0, .int .u8 0, .int .u8 0, .int .u8 0, .int .u8 0, .int .u8 0, .int .u8 0, .int .u8 0, .int .u8 0, .int .u8 0, .int .u8 0, .int .u8 0, .int .u8 0, .int .u8 0, .int .u8 0, .int .u8 0, .int .u8 0, .int .u8 0, .int .u8 0, .int .u8 0, .int .u8 0, .int .u8 0, .int .u8 0]) 32 32 Tryd.underlying32 (by kernel_rfl) rfl (by omega) rfl hr (by exact h2) rfl (by exact hsrc) hone hs.length (by omega) (hcells hs) rfl (by unfold maxLen; omega) (by omega) ?_
    intro A1 c1 w2 L1 hr1 h3 ho
    have H3 := Lib.hid h3; have HR := Lib.hid hr1
    clear h3 hr1 ho h2 hsrc hr hone
    go_wp2_with fail
    go_ret
    exact ⟨_, _, _, rfl, HR.out, H3.out⟩
end
end Go.Proofs.YtkpgliaahibjgaaDoor
