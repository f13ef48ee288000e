/- digest: New, Len. digest: Write. -/
import Derived.Test.YtfbffmckmchbbaaDoorMix
import Derived.Test.YtfbffmckmchbbaaDoorDigPure
namespace Go.Proofs.YtfbffmckmchbbaaDoor
section
set_option linter.unusedVariables false
set_option linter.unusedSimpArgs false
open Go.RowKit

/-- A digest's cells. -/
def dcells (l : List Wd) (rv : Value) (m : Int) : Array Value := (l.map wval ++ [rv, .int .u64 m]).toArray

/-- The blocks of a digest that has taken bs. -/
def Dig (g : Nat) (bs : List UInt8) (L : List (Nat × Obj)) : Prop :=
  ∃ rv Lr, Row 5 1 rv (took bs).2.length ((took bs).2.map bval) Lr ∧ L = (g, .cells (dcells (took bs).1 rv bs.length) 132 (0, 0)) :: Lr

theorem dcells_zero : dcells hTab (.slice none 0 0) 0 = #[.int .u32 1779033703, .int .u32 3144134277, .int .u32 1013904242, .int .u32 2773480762, .int .u32 1359893119, .int .u32 2600822924, .int .u32 528734635, .int .u32 1541459225, .slice none 0 0, .int .u64 0] := by kernel_rfl

theorem new_any {W w : World} {I : Nat → Option Obj} {F : List (Nat × Obj)} (hst : St W w I F) :
    Calls Tryd.prog 70 #[] w fun e w' => ∃ g L, e = .returned (.pointer (some ⟨g, 0, none⟩)) ∧ Dig g [] L ∧ St W w' I (L ++ F) := by
  go_enter Tryd.func70, Tryd.ntmps70
  go_wp2_with fail
  refine (begin_any hst).mono ?_
  rintro e w1 ⟨rfl, h1⟩
  have h2 := h1.alloc (.cells (dcells hTab (.slice none 0 0) 0) 132)
  rw [dcells_zero] at h2
  rw [begin_cells]
  go_wp2_with fail
  go_ret
  refine ⟨w1.heap.size, _, rfl, ⟨.slice none 0 0, [], Row.nil 5 1, rfl⟩, ?_⟩
  rw [show dcells (took []).1 (.slice none 0 0) (([] : List UInt8).length : Int) = _ from dcells_zero]
  exact h2
end

section
set_option linter.unusedVariables false
set_option linter.unusedSimpArgs false
open Go.RowKit

/-- A digest that has taken bs lies at g. -/
def DigSt (W w : World) (I : Nat → Option Obj) (g : Nat) (bs : List UInt8) (F : List (Nat × Obj)) : Prop := ∃ L, Dig g bs L ∧ St W w I (L ++ F)

/-- In the midst of Write: a state, and bytes not yet taken. -/
def MidSt (W w : World) (I : Nat → Option Obj) (g : Nat) (l : List Wd) (r : List UInt8) (m : Int) (F : List (Nat × Obj)) : Prop :=
  ∃ A c Lr, Row 5 1 (.slice A r.length c) r.length (r.map bval) Lr ∧ St W w I ((g, .cells (dcells l (.slice A r.length c) m) 132 (0, 0)) :: (Lr ++ F))

theorem DigSt.mid {W w : World} {I : Nat → Option Obj} {g : Nat} {bs : List UInt8} {F : List (Nat × Obj)} (h : DigSt W w I g bs F) : MidSt W w I g (took bs).1 (took bs).2 bs.length F := by
  obtain ⟨L, ⟨rv, Lr, hr, rfl⟩, hst⟩ := h
  obtain ⟨A, c, rfl⟩ := hr.shape
  exact ⟨A, c, Lr, hr, hst⟩

theorem MidSt.dig {W w : World} {I : Nat → Option Obj} {g : Nat} {l : List Wd} {r : List UInt8} {bs : List UInt8} {F : List (Nat × Obj)} {m : Int} (h : MidSt W w I g l r m F) (ht : took bs = (l, r)) (hm : m = bs.length) : DigSt W w I g bs F := by
  obtain ⟨A, c, Lr, hr, hst⟩ := h
  subst hm
  refine ⟨_, ⟨.slice A r.length c, Lr, ?_, rfl⟩, ?_⟩
  · rw [ht]; exact hr
  · rw [ht]; exact hst

/-- How much lies in the rest. -/
def restLen (g : Nat) (w : World) : Nat := match w.cell? ⟨g, 8, none⟩ with | some (.slice _ n _) => n | _ => 0

theorem dfacts {W w : World} {I : Nat → Option Obj} {F : List (Nat × Obj)} {g : Nat} {s0 s1 s2 s3 s4 s5 s6 s7 : Wd} {rv : Value} {m : Int} (h : St W w I ((g, .cells (dcells [s0, s1, s2, s3, s4, s5, s6, s7] rv m) 132 (0, 0)) :: F)) :
    (w.cell? ⟨g, 0, none⟩ = some (.int .u32 (wv s0)) ∧ w.cell? ⟨g, 1, none⟩ = some (.int .u32 (wv s1)) ∧ w.cell? ⟨g, 2, none⟩ = some (.int .u32 (wv s2)) ∧ w.cell? ⟨g, 3, none⟩ = some (.int .u32 (wv s3)) ∧ w.cell? ⟨g, 4, none⟩ = some (.int .u32 (wv s4)) ∧ w.cell? ⟨g, 5, none⟩ = some (.int .u32 (wv s5)) ∧ w.cell? ⟨g, 6, none⟩ = some (.int .u32 (wv s6)) ∧ w.cell? ⟨g, 7, none⟩ = some (.int .u32 (wv s7))) ∧ (w.frozen? ⟨g, 0, none⟩ = false ∧ w.frozen? ⟨g, 1, none⟩ = false ∧ w.frozen? ⟨g, 2, none⟩ = false ∧ w.frozen? ⟨g, 3, none⟩ = false ∧ w.frozen? ⟨g, 4, none⟩ = false ∧ w.frozen? ⟨g, 5, none⟩ = false ∧ w.frozen? ⟨g, 6, none⟩ = false ∧ w.frozen? ⟨g, 7, none⟩ = false) := by
  have hc := h.cell (g := g) (cs := dcells [s0, s1, s2, s3, s4, s5, s6, s7] rv m) (t := 132) (fr := (0, 0)) (by simp)
  have hf := h.frozen (g := g) (cs := dcells [s0, s1, s2, s3, s4, s5, s6, s7] rv m) (t := 132) (by simp)
  exact ⟨⟨hc 0, hc 1, hc 2, hc 3, hc 4, hc 5, hc 6, hc 7⟩, ⟨hf 0, hf 1, hf 2, hf 3, hf 4, hf 5, hf 6, hf 7⟩⟩

theorem dset8 {W w : World} {I : Nat → Option Obj} {F : List (Nat × Obj)} {g : Nat} {s0 s1 s2 s3 s4 s5 s6 s7 y0 y1 y2 y3 y4 y5 y6 y7 : Wd} {rv : Value} {m : Int} (h : St W w I ((g, .cells (dcells [s0, s1, s2, s3, s4, s5, s6, s7] rv m) 132 (0, 0)) :: F)) :
    St W (((((((((w).setCell ⟨g, 0, none⟩ (.int .u32 (wv y0))).setCell ⟨g, 1, none⟩ (.int .u32 (wv y1))).setCell ⟨g, 2, none⟩ (.int .u32 (wv y2))).setCell ⟨g, 3, none⟩ (.int .u32 (wv y3))).setCell ⟨g, 4, none⟩ (.int .u32 (wv y4))).setCell ⟨g, 5, none⟩ (.int .u32 (wv y5))).setCell ⟨g, 6, none⟩ (.int .u32 (wv y6))).setCell ⟨g, 7, none⟩ (.int .u32 (wv y7))) I ((g, .cells (dcells [y0, y1, y2, y3, y4, y5, y6, y7] rv m) 132 (0, 0)) :: F) := by
  have h0 : St W ((w).setCell ⟨g, 0, none⟩ (.int .u32 (wv y0))) I ((g, .cells (dcells [y0, s1, s2, s3, s4, s5, s6, s7] rv m) 132 (0, 0)) :: F) := St.set (A := []) (B := F) (cs := dcells [s0, s1, s2, s3, s4, s5, s6, s7] rv m) h 0 (.int .u32 (wv y0))
  have h1 : St W (((w).setCell ⟨g, 0, none⟩ (.int .u32 (wv y0))).setCell ⟨g, 1, none⟩ (.int .u32 (wv y1))) I ((g, .cells (dcells [y0, y1, s2, s3, s4, s5, s6, s7] rv m) 132 (0, 0)) :: F) := St.set (A := []) (B := F) (cs := dcells [y0, s1, s2, s3, s4, s5, s6, s7] rv m) h0 1 (.int .u32 (wv y1))
  have h2 : St W ((((w).setCell ⟨g, 0, none⟩ (.int .u32 (wv y0))).setCell ⟨g, 1, none⟩ (.int .u32 (wv y1))).setCell ⟨g, 2, none⟩ (.int .u32 (wv y2))) I ((g, .cells (dcells [y0, y1, y2, s3, s4, s5, s6, s7] rv m) 132 (0, 0)) :: F) := St.set (A := []) (B := F) (cs := dcells [y0, y1, s2, s3, s4, s5, s6, s7] rv m) h1 2 (.int .u32 (wv y2))
  have h3 : St W (((((w).setCell ⟨g, 0, none⟩ (.int .u32 (wv y0))).setCell ⟨g, 1, none⟩ (.int .u32 (wv y1))).setCell ⟨g, 2, none⟩ (.int .u32 (wv y2))).setCell ⟨g, 3, none⟩ (.int .u32 (wv y3))) I ((g, .cells (dcells [y0, y1, y2, y3, s4, s5, s6, s7] rv m) 132 (0, 0)) :: F) := St.set (A := []) (B := F) (cs := dcells [y0, y1, y2, s3, s4, s5, s6, s7] rv m) h2 3 (.int .u32 (wv y3))
  have h4 : St W ((((((w).setCell ⟨g, 0, none⟩ (.int .u32 (wv y0))).setCell ⟨g, 1, none⟩ (.int .u32 (wv y1))).setCell ⟨g, 2, none⟩ (.int .u32 (wv y2))).setCell ⟨g, 3, none⟩ (.int .u32 (wv y3))).setCell ⟨g, 4, none⟩ (.int .u32 (wv y4))) I ((g, .cells (dcells [y0, y1, y2, y3, y4, s5, s6, s7] rv m) 132 (0, 0)) :: F) := St.set (A := []) (B := F) (cs := dcells [y0, y1, y2, y3, s4, s5, s6, s7] rv m) h3 4 (.int .u32 (wv y4))
  have h5 : St W (((((((w).setCell ⟨g, 0, none⟩ (.int .u32 (wv y0))).setCell ⟨g, 1, none⟩ (.int .u32 (wv y1))).setCell ⟨g, 2, none⟩ (.int .u32 (wv y2))).setCell ⟨g, 3, none⟩ (.int .u32 (wv y3))).setCell ⟨g, 4, none⟩ (.int .u32 (wv y4))).setCell ⟨g, 5, none⟩ (.int .u32 (wv y5))) I ((g, .cells (dcells [y0, y1, y2, y3, y4, y5, s6, s7] rv m) 132 (0, 0)) :: F) := St.set (A := []) (B := F) (cs := dcells [y0, y1, y2, y3, y4, s5, s6, s7] rv m) h4 5 (.int .u32 (wv y5))
  have h6 : St W ((((((((w).setCell ⟨g, 0, none⟩ (.int .u32 (wv y0))).setCell ⟨g, 1, none⟩ (.int .u32 (wv y1))).setCell ⟨g, 2, none⟩ (.int .u32 (wv y2))).setCell ⟨g, 3, none⟩ (.int .u32 (wv y3))).setCell ⟨g, 4, none⟩ (.int .u32 (wv y4))).setCell ⟨g, 5, none⟩ (.int .u32 (wv y5))).setCell ⟨g, 6, none⟩ (.int .u32 (wv y6))) I ((g, .cells (dcells [y0, y1, y2, y3, y4, y5, y6, s7] rv m) 132 (0, 0)) :: F) := St.set (A := []) (B := F) (cs := dcells [y0, y1, y2, y3, y4, y5, s6, s7] rv m) h5 6 (.int .u32 (wv y6))
  have h7 : St W (((((((((w).setCell ⟨g, 0, none⟩ (.int .u32 (wv y0))).setCell ⟨g, 1, none⟩ (.int .u32 (wv y1))).setCell ⟨g, 2, none⟩ (.int .u32 (wv y2))).setCell ⟨g, 3, none⟩ (.int .u32 (wv y3))).setCell ⟨g, 4, none⟩ (.int .u32 (wv y4))).setCell ⟨g, 5, none⟩ (.int .u32 (wv y5))).setCell ⟨g, 6, none⟩ (.int .u32 (wv y6))).setCell ⟨g, 7, none⟩ (.int .u32 (wv y7))) I ((g, .cells (dcells [y0, y1, y2, y3, y4, y5, y6, y7] rv m) 132 (0, 0)) :: F) := St.set (A := []) (B := F) (cs := dcells [y0, y1, y2, y3, y4, y5, y6, s7] rv m) h6 7 (.int .u32 (wv y7))
  exact h7

theorem row_drop {n c gb off : Nat} {cur : Array Value} {r : List UInt8} (h : Row 5 1 (.slice (some ⟨gb, off, none⟩) n c) n (r.map bval) [(gb, .cells cur 5 (0, 0))]) (hn : 64 ≤ n) :
    Row 5 1 (.slice (some ⟨gb, off + 64, none⟩) (n - 64) (c - 64)) (n - 64) ((r.drop 64).map bval) [(gb, .cells cur 5 (0, 0))] := by
  obtain ⟨hl, ⟨h0, _, _⟩ | ⟨g', off', cap', cur', hv, hL, h1, h2, h3, h4⟩⟩ := h
  · cases h0
  · injection hv with hA _ hc
    injection hA with hA
    injection hA with e1 e2
    injection hL with hL _
    injection hL with _ hL
    injection hL with hL
    subst e1 e2 hc hL
    refine ⟨by rw [List.length_map] at hl ⊢; rw [List.length_drop]; omega, .inr ⟨gb, off + 64, c - 64, cur, rfl, rfl, by omega, by omega, by omega, ?_⟩⟩
    rw [List.map_drop, ← h4, List.drop_take, List.drop_drop]
    simp only [Nat.mul_one]

theorem row_drop_all {c gb off : Nat} {cur : Array Value} {r : List UInt8} (h : Row 5 1 (.slice (some ⟨gb, off, none⟩) r.length c) r.length (r.map bval) [(gb, .cells cur 5 (0, 0))]) (hn : r.length = 64) :
    Row 5 1 (.slice (some ⟨gb, off, none⟩) 0 0) 0 ((r.drop 64).map bval) [(gb, .cells cur 5 (0, 0))] := by
  have hd : r.drop 64 = [] := List.drop_eq_nil_of_le (by omega)
  rw [hd]
  obtain ⟨hl, ⟨h0, _, _⟩ | ⟨g', off', cap', cur', hv, hL, h1, h2, h3, h4⟩⟩ := h
  · cases h0
  · injection hv with hA _ hc
    injection hA with hA
    injection hA with e1 e2
    injection hL with hL _
    injection hL with _ hL
    injection hL with hL
    subst e1 e2 hc hL
    exact ⟨rfl, .inr ⟨gb, off, 0, cur, rfl, rfl, by omega, by omega, by omega, by simp⟩⟩

theorem MidSt.restLen {W w : World} {I : Nat → Option Obj} {g : Nat} {l : List Wd} {r : List UInt8} {F : List (Nat × Obj)} {m : Int} (h : MidSt W w I g l r m F) (hl : l.length = 8) : restLen g w = r.length := by
  obtain ⟨A, c, Lr, hr, hst⟩ := h
  obtain ⟨s0, s1, s2, s3, s4, s5, s6, s7, rfl⟩ := eight l hl
  have q : w.cell? ⟨g, 8, none⟩ = some (.slice A r.length c) := by
    rw [hst.cell (g := g) (cs := dcells [s0, s1, s2, s3, s4, s5, s6, s7] (.slice A r.length c) m) (t := 132) (fr := (0, 0)) (by simp)]
    rfl
  unfold Go.Proofs.YtfbffmckmchbbaaDoor.restLen
  rw [q]

theorem mid_next {W w : World} {I : Nat → Option Obj} {g gb : Nat} {y0 y1 y2 y3 y4 y5 y6 y7 : Wd} {r' : List UInt8} {rv : Value} {cur : Array Value} {F : List (Nat × Obj)} {m : Int} (A' : Option Addr) (n' c' : Nat)
    (hs : St W w I ((g, .cells (dcells [y0, y1, y2, y3, y4, y5, y6, y7] rv m) 132 (0, 0)) :: ([(gb, .cells cur 5 (0, 0))] ++ F)))
    (hrow : Row 5 1 (.slice A' n' c') n' (r'.map bval) [(gb, .cells cur 5 (0, 0))]) (hn : n' = r'.length) : MidSt W (w.setCell ⟨g, 8, none⟩ (.slice A' n' c')) I g [y0, y1, y2, y3, y4, y5, y6, y7] r' m F := by
  subst hn
  exact ⟨A', c', _, hrow, St.set (A := []) (cs := dcells [y0, y1, y2, y3, y4, y5, y6, y7] rv m) hs 8 (.slice A' r'.length c')⟩

theorem eat_next {l l' : List Wd} {r : List UInt8} {X : List Wd × List UInt8} (h : eat r.length l r = X) (h64 : 64 ≤ r.length) (hy : mixW l (r.take 64) = l') : eat (r.drop 64).length l' (r.drop 64) = X := by
  rw [← h, ← hy, show r.length = (r.length - 1) + 1 by omega, eat, if_pos h64]
  exact eat_any _ _ (by omega) (by rw [List.length_drop]; omega)

set_option maxRecDepth 10000 in
set_option maxHeartbeats 1000000 in
theorem write_any {W w : World} {I : Nat → Option Obj} {F : List (Nat × Obj)} {g : Nat} {bs : List UInt8} (cs : List UInt8) (A : Option Addr) (c : Nat) (hd : DigSt W w I g bs F)
    (hsrc : ∀ w' L', St W w' I (L' ++ F) → Src w' 1 A cs.length (cs.map bval)) (hlen : bs.length + cs.length ≤ 1099511627776) :
    Calls Tryd.prog 71 #[.pointer (some ⟨g, 0, none⟩), .slice A cs.length c] w fun e w' => e = .returned (.tuple #[]) ∧ DigSt W w' I g (bs ++ cs) F := by
  have htr := took_rest bs
  have hts := took_state bs
  have hap := fun k h => took_append bs cs k h
  obtain ⟨A0, c0, Lr, hr, hst⟩ := hd.mid
  clear hd
  generalize (took bs).1 = l at *
  generalize (took bs).2 = r at *
  obtain ⟨s0, s1, s2, s3, s4, s5, s6, s7, rfl⟩ := eight l hts
  have e1 : ((cs.length : Int)) % 18446744073709551616 = cs.length := Int.emod_eq_of_lt (by omega) (by omega)
  have e2 : ((bs.length : Int) + cs.length) % 18446744073709551616 = bs.length + cs.length := Int.emod_eq_of_lt (by omega) (by omega)
  have hq := hst.cell (g := g) (cs := dcells [s0, s1, s2, s3, s4, s5, s6, s7] (.slice A0 r.length c0) bs.length) (t := 132) (fr := (0, 0)) (by simp)
  have q8 : w.cell? ⟨g, 8, none⟩ = some (.slice A0 r.length c0) := hq 8
  have q9 : w.cell? ⟨g, 9, none⟩ = some (.int .u64 (bs.length : Int)) := hq 9
  have f9 := hst.frozen (g := g) (cs := dcells [s0, s1, s2, s3, s4, s5, s6, s7] (.slice A0 r.length c0) bs.length) (t := 132) (by simp) 9
  have hst1 : St W (w.setCell ⟨g, 9, none⟩ (.int .u64 (bs.length + cs.length : Int))) I ((g, .cells (dcells [s0, s1, s2, s3, s4, s5, s6, s7] (.slice A0 r.length c0) (bs.length + cs.length)) 132 (0, 0)) :: (Lr ++ F)) := hst.set (A := []) 9 (.int .u64 (bs.length + cs.length : Int))
  have hst2 : St W (w.setCell ⟨g, 9, none⟩ (.int .u64 (bs.length + cs.length : Int))) I (Lr ++ ((g, .cells (dcells [s0, s1, s2, s3, s4, s5, s6, s7] (.slice A0 r.length c0) (bs.length + cs.length)) 132 (0, 0)) :: F)) := St.swap (A := [(g, _)]) hst1
  have hsrc2 := hsrc _ _ (show St W _ I (((g, _) :: Lr) ++ F) from hst1)
  have q8' : (w.setCell ⟨g, 9, none⟩ (.int .u64 (bs.length + cs.length : Int))).cell? ⟨g, 8, none⟩ = some (.slice A0 r.length c0) := by
    rw [hst1.cell (g := g) (cs := dcells [s0, s1, s2, s3, s4, s5, s6, s7] (.slice A0 r.length c0) (bs.length + cs.length)) (t := 132) (fr := (0, 0)) (by simp)]
    rfl
  have hone : ∀ u ∈ cs.map bval, u.oneCell' = true := by
    intro u hu
    obtain ⟨b, _, rfl⟩ := List.mem_map.1 hu
    rfl
  clear hq hst hst1
  have HL := Lib.hid hlen; have HAP := Lib.hid hap
  clear hap
  go_enter Tryd.func71, Tryd.ntmps71
  go_wp2_with (at_builtin; refine Hid.out ?_)
  refine Lib.hid ?_
  refine wpList_append_row (F := (g, .cells (dcells [s0, s1, s2, s3, s4, s5, s6, s7] (.slice A0 r.length c0) (bs.length + cs.length)) 132 (0, 0)) :: F) rfl (.tmp 18) (.tmp 19) _ rfl 5 (.int .u8 0) 1 1 Tryd.underlying22 (by kernel_rfl) rfl (by omega) rfl hr (by exact hst2) rfl (by exact hsrc2) hone (r ++ cs).length (by rw [List.length_append]) ((r ++ cs).map bval) (by rw [List.map_append]) (by rw [List.length_append]; unfold maxLen; omega) (by rw [List.length_append]; omega) ?_
  intro A1 c1 w2 L1 hr1 h2
  have HL2 := Lib.hid (HAP.out (r ++ cs).length (by omega))
  have HR := Lib.hid (show (r ++ cs).length ≤ 1099511628000 by rw [List.length_append]; omega)
  generalize r ++ cs = rr at *
  have f8 := h2.frozen (g := g) (cs := dcells [s0, s1, s2, s3, s4, s5, s6, s7] (.slice A0 r.length c0) (bs.length + cs.length)) (t := 132) (by simp) 8
  have g8 : w2.cell? ⟨g, 8, none⟩ = some (.slice A0 r.length c0) := by
    rw [h2.cell (g := g) (cs := dcells [s0, s1, s2, s3, s4, s5, s6, s7] (.slice A0 r.length c0) (bs.length + cs.length)) (t := 132) (fr := (0, 0)) (by simp)]
    rfl
  have h3 : St W (w2.setCell ⟨g, 8, none⟩ (.slice A1 rr.length c1)) I ((g, .cells (dcells [s0, s1, s2, s3, s4, s5, s6, s7] (.slice A1 rr.length c1) (bs.length + cs.length)) 132 (0, 0)) :: (L1 ++ F)) := St.set (A := []) (St.swap (B := [(g, _)]) h2) 8 (.slice A1 rr.length c1)
  clear h2 hst2 hsrc2 hone e1 e2 q8 q9 q8' f9 hr
  go_wp2_with fail
  generalize hm0 : (bs.length : Int) + cs.length = m at *
  have HM0 := Lib.hid hm0; clear hm0
  go_loopw [] (fun wr => ∃ l r, l.length = 8 ∧ r.length ≤ 1099511628000 ∧ eat r.length l r = took (bs ++ cs) ∧ MidSt W wr I g l r m F) (fun wr => restLen g wr)
  case atStart => exact ⟨[s0, s1, s2, s3, s4, s5, s6, s7], rr, rfl, HR.out, HL2.out.symm, _, _, _, hr1, h3⟩
  case round =>
    obtain ⟨l, r, hl8, hr40, heat, A, c, Lr, hr, hs⟩ := hrel
    clear hr1 h3
    obtain ⟨s0, s1, s2, s3, s4, s5, s6, s7, rfl⟩ := eight l hl8
    have hq := hs.cell (g := g) (cs := dcells [s0, s1, s2, s3, s4, s5, s6, s7] (.slice A r.length c) m) (t := 132) (fr := (0, 0)) (by simp)
    have q8 : wr.cell? ⟨g, 8, none⟩ = some (.slice A r.length c) := hq 8
    by_cases h64 : 64 ≤ r.length
    · have ih64 : ¬ ((r.length : Int) < 64) := by omega
      have ih65 : (64 : Int) ≤ r.length := by omega
      have q0 : wr.cell? ⟨g, 0, none⟩ = some (.int .u32 (wv s0)) := hq 0
      have q1 : wr.cell? ⟨g, 1, none⟩ = some (.int .u32 (wv s1)) := hq 1
      have q2 : wr.cell? ⟨g, 2, none⟩ = some (.int .u32 (wv s2)) := hq 2
      have q3 : wr.cell? ⟨g, 3, none⟩ = some (.int .u32 (wv s3)) := hq 3
      have q4 : wr.cell? ⟨g, 4, none⟩ = some (.int .u32 (wv s4)) := hq 4
      have q5 : wr.cell? ⟨g, 5, none⟩ = some (.int .u32 (wv s5)) := hq 5
      have q6 : wr.cell? ⟨g, 6, none⟩ = some (.int .u32 (wv s6)) := hq 6
      have q7 : wr.cell? ⟨g, 7, none⟩ = some (.int .u32 (wv s7)) := hq 7
      clear hq
      obtain ⟨hrl, ⟨_, h0, _⟩ | ⟨gb, off, cap, cur, hv, rfl, hcap1, hcap2, hcap3, hxs⟩⟩ := id hr
      · omega
      injection hv with hA _ hc
      subst hA; subst hc
      have hmix : ∀ w0, St W w0 I ((g, .cells (dcells [s0, s1, s2, s3, s4, s5, s6, s7] (.slice (some ⟨gb, off, none⟩) r.length c) m) 132 (0, 0)) :: ([(gb, .cells cur 5 (0, 0))] ++ F)) →
          Calls Tryd.prog 89 #[.agg #[.int .u32 (wv s0), .int .u32 (wv s1), .int .u32 (wv s2), .int .u32 (wv s3), .int .u32 (wv s4), .int .u32 (wv s5), .int .u32 (wv s6), .int .u32 (wv s7)], .slice (some ⟨gb, off, none⟩) 64 c] w0
            fun e w' => e = .returned (.agg (part 8 (mixW [s0, s1, s2, s3, s4, s5, s6, s7] (r.take 64)))) ∧ St W w' I ((g, .cells (dcells [s0, s1, s2, s3, s4, s5, s6, s7] (.slice (some ⟨gb, off, none⟩) r.length c) m) 132 (0, 0)) :: ([(gb, .cells cur 5 (0, 0))] ++ F)) := by
        intro w0 h0
        refine mix_any [s0, s1, s2, s3, s4, s5, s6, s7] rfl (r.take 64) (by rw [List.length_take]; omega) gb off c h0 ?_ (by omega)
        intro k hk w' h'
        rw [h'.cell (g := gb) (cs := cur) (t := 5) (fr := (0, 0)) (by simp)]
        have h1 : (r.map bval)[k]? = some (bval (r.getD k 0)) := by
          rw [List.getElem?_map, List.getElem?_eq_getElem (by omega), List.getD_eq_getElem?_getD, List.getElem?_eq_getElem (by omega)]
          rfl
        rw [← hxs, List.getElem?_take, if_pos (by omega), List.getElem?_drop, Array.getElem?_toList] at h1
        rw [h1, List.getD_eq_getElem?_getD, List.getD_eq_getElem?_getD, List.getElem?_take, if_pos hk]
        rfl
      obtain ⟨y0, y1, y2, y3, y4, y5, y6, y7, hy⟩ := eight _ (mixW_len [s0, s1, s2, s3, s4, s5, s6, s7] (r.take 64) rfl)
      rw [hy] at hmix
      have ep : part 8 [y0, y1, y2, y3, y4, y5, y6, y7] = #[.int .u32 (wv y0), .int .u32 (wv y1), .int .u32 (wv y2), .int .u32 (wv y3), .int .u32 (wv y4), .int .u32 (wv y5), .int .u32 (wv y6), .int .u32 (wv y7)] := rfl
      rw [ep] at hmix
      have HY := Lib.hid hy; have HM := Lib.hid hmix; have HS := Lib.hid hs; have HX := Lib.hid hxs; have HRr := Lib.hid hr
      clear hy hmix ep hs hxs hr hl8
      go_wp2_with fail
      go_region_with (first
        | (go_at_call 89; (with_reducible refine (HM.out _ ?_).mono ?_); (first | exact HS.out.drew1 | exact HS.out.drew _); rintro e w5 ⟨rfl, h5⟩; have H5 := Lib.hid h5; obtain ⟨⟨z0, z1, z2, z3, z4, z5, z6, z7⟩, ⟨y0', y1', y2', y3', y4', y5', y6', y7'⟩⟩ := dfacts h5; clear h5; dsimp only))
      all_goals
        have h6 : St W (((((((((w5).setCell ⟨g, 0, none⟩ (.int .u32 (wv y0))).setCell ⟨g, 1, none⟩ (.int .u32 (wv y1))).setCell ⟨g, 2, none⟩ (.int .u32 (wv y2))).setCell ⟨g, 3, none⟩ (.int .u32 (wv y3))).setCell ⟨g, 4, none⟩ (.int .u32 (wv y4))).setCell ⟨g, 5, none⟩ (.int .u32 (wv y5))).setCell ⟨g, 6, none⟩ (.int .u32 (wv y6))).setCell ⟨g, 7, none⟩ (.int .u32 (wv y7))) I ((g, .cells (dcells [y0, y1, y2, y3, y4, y5, y6, y7] (.slice (some ⟨gb, off, none⟩) r.length c) m) 132 (0, 0)) :: ([(gb, .cells cur 5 (0, 0))] ++ F)) := dset8 H5.out
        generalize World.setCell _ _ _ = w6 at *
        have x8 : w6.cell? ⟨g, 8, none⟩ = some (.slice (some ⟨gb, off, none⟩) r.length c) := by
          rw [h6.cell (g := g) (cs := dcells [y0, y1, y2, y3, y4, y5, y6, y7] (.slice (some ⟨gb, off, none⟩) r.length c) m) (t := 132) (fr := (0, 0)) (by simp)]
          rfl
        have xf8 := h6.frozen (g := g) (cs := dcells [y0, y1, y2, y3, y4, y5, y6, y7] (.slice (some ⟨gb, off, none⟩) r.length c) m) (t := 132) (by simp) 8
        clear H5 HM HS z0 z1 z2 z3 z4 z5 z6 z7 y0' y1' y2' y3' y4' y5' y6' y7' q0 q1 q2 q3 q4 q5 q6 q7
        by_cases hc64 : c = 64
        · subst hc64
          have hrl64 : r.length = 64 := by omega
          go_wp2_with fail
          have hm := mid_next (some ⟨gb, off, none⟩) 0 0 h6 (row_drop_all HRr.out hrl64) (by rw [List.length_drop]; omega)
          go_roundw
          case rel => exact ⟨_, r.drop 64, rfl, by rw [List.length_drop]; omega, eat_next heat h64 HY.out, hm⟩
          case measure =>
            rw [hm.restLen rfl, restLen, q8, List.length_drop]
            simp only []
            omega
        · have hc65 : (64 : Int) < c := by omega
          go_wp2_with fail
          have hm := mid_next (some ⟨gb, off + 64, none⟩) (r.length - 64) (c - 64) h6 (row_drop HRr.out h64) (by rw [List.length_drop])
          go_roundw
          case rel => exact ⟨_, r.drop 64, rfl, by rw [List.length_drop]; omega, eat_next heat h64 HY.out, hm⟩
          case measure =>
            rw [hm.restLen rfl, restLen, q8, List.length_drop]
            simp only []
            omega
    · have hlt : (r.length : Int) < 64 := by omega
      have hd : DigSt W wr I g (bs ++ cs) F := MidSt.dig (l := [s0, s1, s2, s3, s4, s5, s6, s7]) (r := r) (m := m) ⟨A, c, Lr, hr, hs⟩ (by rw [← heat, eat_short _ _ (by omega)]) (by have := HM0.out; rw [List.length_append]; omega)
      clear hs hr hq
      go_wp2_with fail
      exact ⟨rfl, .tuple #[], by simp [results, Tryd.f71], rfl, hd⟩
end
end Go.Proofs.YtfbffmckmchbbaaDoor
