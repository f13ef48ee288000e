/- digest: Copy. -/
import Derived.Test.YtkpgliaahibjgaaDoorDigWrite
namespace Go.Proofs.YtkpgliaahibjgaaDoor
set_option linter.unusedVariables false
set_option linter.unusedSimpArgs false
open Go.RowKit

/-- AS ONE STEP of a region that draws its order. -/
theorem step_append_row {P : Program} {W w : World} {I : Nat → Option Obj} {F L : List (Nat × Obj)} {ops : Array Oper} {o : Oper} {a : Act} {K : Act → World → Prop} {Q : Exit → Act → World → Prop} {E : Prop} (hgd : o.guard = none) (s x : Operand) (t : TypeId)
    (ho : o.op = .call { callee := .builtin .append, args := #[s, x], argTypes := #[t, t] })
    (e : TypeId) (z : Value) (size bytes : Nat) (ht : P.underlying t = some (.slice e)) (hi : (P.info? e).map (fun i => (i.zero, i.size, i.bytes)) = some (some z, size, bytes)) (hzs : z.cells.size = size) (hsz : 0 < size)
    {v : Value} {n : Nat} {xs : List Value} (hs : a.eval s = v) (hrow : Row e size v n xs L) (hst : St W w I (L ++ F)) {A : Option Addr} {m c : Nat} {news : List Value} (hx : a.eval x = .slice A m c) (hsrc : Src w size A m news) (h1 : ∀ u ∈ news, u.oneCell' = true)
    (k : Nat) (hk : n + m = k) (ys : List Value) (hys : xs ++ news = ys) (h63 : k ≤ maxLen) (hbytes : k * bytes ≤ 140737488355328)
    (h : ∀ A' c' w' L', Row e size (.slice A' k c') k ys L' → St W w' I (L' ++ F) → K (a.put o.dst (.slice A' k c')) w') :
    if Region.wanted o (yielded ops a.tmps) = true then Oper.wp P o a w K Q else E := by
  have hw : Region.wanted o (yielded ops a.tmps) = true := by simp [Region.wanted, hgd]
  rw [if_pos hw]
  subst hk
  subst hys
  obtain ⟨v', w', L', hr, h2, h3⟩ := run_append_row (P := P) t o.type e z size bytes ht hi hzs hsz hrow hst (c := c) hsrc h1 h63 hbytes
  unfold Oper.wp execOp
  simp only [ho, resolve, invoke, builtin, Sem.run_bind, Sem.run_pure, Result.andThen_ok, List.map_toArray, List.map_cons, List.map_nil, hs, hx, hr]
  obtain ⟨A', c', rfl⟩ := h2.shape
  exact h A' c' w' L' h2 h3

theorem dall {W w : World} {I : Nat → Option Obj} {F : List (Nat × Obj)} {g : Nat} {s0 s1 s2 s3 s4 s5 s6 s7 : Wd} {rv : Value} {m : Int} (h : St W w I ((g, .cells (dcells [s0, s1, s2, s3, s4, s5, s6, s7] rv m) 94 (0, 0)) :: F)) :
    w.cell? ⟨g, 0, none⟩ = some (.int .u32 (wv s0)) ∧ w.cell? ⟨g, 1, none⟩ = some (.int .u32 (wv s1)) ∧ w.cell? ⟨g, 2, none⟩ = some (.int .u32 (wv s2)) ∧ w.cell? ⟨g, 3, none⟩ = some (.int .u32 (wv s3)) ∧ w.cell? ⟨g, 4, none⟩ = some (.int .u32 (wv s4)) ∧ w.cell? ⟨g, 5, none⟩ = some (.int .u32 (wv s5)) ∧ w.cell? ⟨g, 6, none⟩ = some (.int .u32 (wv s6)) ∧ w.cell? ⟨g, 7, none⟩ = some (.int .u32 (wv s7)) ∧ w.cell? ⟨g, 8, none⟩ = some rv ∧ w.cell? ⟨g, 9, none⟩ = some (.int .u64 m) := by
  have hc := h.cell (g := g) (cs := dcells [s0, s1, s2, s3, s4, s5, s6, s7] rv m) (t := 94) (fr := (0, 0)) (by simp)
  exact ⟨hc 0, hc 1, hc 2, hc 3, hc 4, hc 5, hc 6, hc 7, hc 8, hc 9⟩

/-- What Copy leaves. -/
def CopyPost (W : World) (I : Nat → Option Obj) (bs : List UInt8) (F : List (Nat × Obj)) (e : Ending) (w' : World) : Prop :=
  ∃ g', e = .returned (.pointer (some ⟨g', 0, none⟩)) ∧ DigSt W w' I g' bs F

set_option maxRecDepth 10000 in
set_option maxHeartbeats 1000000 in
theorem copy_any {W w : World} {I : Nat → Option Obj} {F L : List (Nat × Obj)} {g : Nat} {bs : List UInt8} (hd : Dig g bs L) (hst : St W w I (L ++ F)) :
    Calls Tryd.prog 52 #[.pointer (some ⟨g, 0, none⟩)] w (CopyPost W I bs (L ++ F)) := by
  have htr := took_rest bs
  have hts := took_state bs
  obtain ⟨rv, Lr, hr, rfl⟩ := hd
  obtain ⟨A, c, rfl⟩ := hr.shape
  have hfin : ∀ g' A' c' w' L', Row 5 1 (.slice A' (took bs).2.length c') (took bs).2.length ((took bs).2.map bval) L' → St W w' I ((g', .cells (dcells (took bs).1 (.slice A' (took bs).2.length c') bs.length) 94 (0, 0)) :: (L' ++ (((g, .cells (dcells (took bs).1 (.slice A (took bs).2.length c) bs.length) 94 (0, 0)) :: Lr) ++ F))) →
      DigSt W w' I g' bs (((g, .cells (dcells (took bs).1 (.slice A (took bs).2.length c) bs.length) 94 (0, 0)) :: Lr) ++ F) := fun g' A' c' w' L' h1 h2 => ⟨_, ⟨_, L', h1, rfl⟩, h2⟩
  generalize (took bs).1 = l at *
  generalize (took bs).2 = r at *
  obtain ⟨s0, s1, s2, s3, s4, s5, s6, s7, rfl⟩ := eight l hts
  have hsrc : ∀ w', St W w' I (((g, .cells (dcells [s0, s1, s2, s3, s4, s5, s6, s7] (.slice A r.length c) bs.length) 94 (0, 0)) :: Lr) ++ F) → Src w' 1 A r.length (r.map bval) := fun w' h' => hr.src (fun p hp => h'.own p (by simp [hp]))
  have hone : ∀ u ∈ r.map bval, u.oneCell' = true := by
    intro u hu
    obtain ⟨b, _, rfl⟩ := List.mem_map.1 hu
    rfl
  have HF := Lib.hid hfin; have HS := Lib.hid hst
  clear hfin hst
  go_enter Tryd.func52, Tryd.ntmps52
  go_wp2_with fail
  go_region_held3 (fun w' => w'.cell? ⟨g, 0, none⟩ = some (.int .u32 (wv s0)) ∧ w'.cell? ⟨g, 1, none⟩ = some (.int .u32 (wv s1)) ∧ w'.cell? ⟨g, 2, none⟩ = some (.int .u32 (wv s2)) ∧ w'.cell? ⟨g, 3, none⟩ = some (.int .u32 (wv s3)) ∧ w'.cell? ⟨g, 4, none⟩ = some (.int .u32 (wv s4)) ∧ w'.cell? ⟨g, 5, none⟩ = some (.int .u32 (wv s5)) ∧ w'.cell? ⟨g, 6, none⟩ = some (.int .u32 (wv s6)) ∧ w'.cell? ⟨g, 7, none⟩ = some (.int .u32 (wv s7)) ∧ w'.cell? ⟨g, 8, none⟩ = some (.slice A r.length c) ∧ w'.cell? ⟨g, 9, none⟩ = some (.int .u64 (bs.length : Int)))
    (first | exact dall HS.out.drew1 | exact dall (St.swap (B := [(g, _)]) h5) | exact dall (St.alloc_ (St.swap (B := [(g, _)]) h5) _))
    (first
    | (refine step_append_row (F := ((g, .cells (dcells [s0, s1, s2, s3, s4, s5, s6, s7] (.slice A r.length c) bs.length) 94 (0, 0)) :: Lr) ++ F) rfl (.const (.slice none 0 0)) (.tmp 10) _ rfl 5 (.int .u8 0) 1 1 Tryd.underlying22 (by kernel_rfl) rfl (by omega) rfl (Row.nil 5 1) (by exact HS.out.drew1) rfl (by exact hsrc _ HS.out.drew1) hone r.length (by omega) (r.map bval) rfl (by unfold maxLen; omega) (by omega) ?_; intro A5 c5 w5 L5 hr5 h5))
  go_wp2_with fail
  go_ret
  exact ⟨w5.heap.size, rfl, HF.out _ A5 c5 _ L5 hr5 (h5.alloc _)⟩
end Go.Proofs.YtkpgliaahibjgaaDoor
