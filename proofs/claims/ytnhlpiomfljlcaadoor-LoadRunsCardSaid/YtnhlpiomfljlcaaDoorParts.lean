/- Bytes as arguments and as values: slices of bytes, hashes. -/
import Derived.Test.YtnhlpiomfljlcaaDoorSlices
import Derived.Test.YtnhlpiomfljlcaaDoorRows
import Derived.Stop.BytesEq
import Derived.Laws.BytesArg
namespace Go.Proofs.YtnhlpiomfljlcaaDoor
set_option linter.unusedVariables false
set_option linter.unusedSimpArgs false
open Go.RowKit

/-- A slice of bytes: where, its capacity, its bytes. -/
structure Part where
  A : Option Addr
  c : Nat
  bs : List UInt8
def Part.val (p : Part) : Value := .slice p.A p.bs.length p.c
/-- All bytes of the parts. -/
def cat (ps : List Part) : List UInt8 := ps.flatMap (·.bs)
theorem cat_take (ps : List Part) (k : Nat) (p : Part) (h : ps[k]? = some p) : cat (ps.take (k + 1)) = cat (ps.take k) ++ p.bs := by
  unfold cat
  rw [List.take_add_one, h]
  simp
theorem cat_take_le (ps : List Part) (k : Nat) : (cat (ps.take k)).length ≤ (cat ps).length := by
  have : cat ps = cat (ps.take k) ++ cat (ps.drop k) := by unfold cat; rw [← List.flatMap_append, List.take_append_drop]
  rw [this, List.length_append]; omega

theorem run_index_cells {P : Program} {t e : TypeId} {n : Nat} (ht : P.underlying t = some (.array n e)) (hA : ∀ w, (isAgg e).run P w = .ok false w) (hS : ∀ w, (sizeOf e).run P w = .ok 1 w)
    (cs : Array Value) (i : Nat) (v : Value) (hi : i < n) (hv : cs[i]? = some v) (w : World) : (Instr.index t (.agg cs) (.int .i64 (i : Int))).run P w = .ok v w := by
  have h1 : (0 : Int) ≤ i ∧ (i : Int) < n := by omega
  simp [Instr.index, run_underlying ht, asIntOf, h1, hS, part, hA, hv]
  intro h2
  omega

/-- The cells of bytes. -/
def bcells (bs : List UInt8) : Array Value := (bs.map bval).toArray
theorem bcells_size (bs : List UInt8) : (bcells bs).size = bs.length := by simp [bcells]
theorem bcells_get (bs : List UInt8) (i : Nat) (h : i < bs.length) : (bcells bs)[i]? = some (.int .u8 ((bs.getD i 0).toNat : Int)) := by
  simp [bcells, List.getElem?_eq_getElem h, List.getD_eq_getElem?_getD, bval]

theorem bcells_one (l : List UInt8) : (bcells l).all (·.oneCell') = true := by
  unfold bcells
  apply all_oneCell_toArray
  intro v hv
  obtain ⟨b, _, rfl⟩ := List.mem_map.1 hv
  rfl

section
variable {W : World} {I : Nat → Option Obj}
/-- A part that stands in the memory that turns no more. -/
def Part.In (p : Part) (W : World) (I : Nat → Option Obj) : Prop := ∀ w L, St W w I L → Src w 1 p.A p.bs.length (p.bs.map bval)

theorem in_nil : ∀ p ∈ ([] : List Part), p.In W I := by simp
theorem in_cons {p : Part} {l : List Part} (hp : p.In W I) (h : ∀ q ∈ l, q.In W I) : ∀ q ∈ p :: l, q.In W I := by
  intro q hq
  rcases List.mem_cons.1 hq with rfl | hq
  · exact hp
  · exact h q hq

end

theorem Part.In_nil {W : World} {I : Nat → Option Obj} (A : Option Addr) (c : Nat) : Part.In ⟨A, c, []⟩ W I := fun w L _ => ⟨rfl, fun j u hj => by simp at hj⟩
theorem Part.In_cap {W : World} {I : Nat → Option Obj} {A : Option Addr} {c : Nat} (c' : Nat) {xs : List UInt8} (h : Part.In ⟨A, c, xs⟩ W I) : Part.In ⟨A, c', xs⟩ W I := h
theorem Part.In_take {W : World} {I : Nat → Option Obj} {A : Option Addr} {c : Nat} (c' : Nat) {xs : List UInt8} (k : Nat) (h : Part.In ⟨A, c, xs⟩ W I) : Part.In ⟨A, c', xs.take k⟩ W I := by
  intro w L hst
  refine ⟨by simp, fun j u hj => ?_⟩
  refine (h w L hst).2 j u ?_
  simp only [List.map_take, List.getElem?_take] at hj
  split at hj
  · exact hj
  · cases hj
theorem Part.In_drop {W : World} {I : Nat → Option Obj} {A : Option Addr} {c : Nat} (c' : Nat) {xs : List UInt8} (k : Nat) (hc : xs.length ≤ c) (h : Part.In ⟨A, c, xs⟩ W I) : Part.In ⟨subA A c k, c', xs.drop k⟩ W I := by
  intro w L hst
  refine ⟨by simp, fun j u hj => ?_⟩
  simp only [List.map_drop, List.getElem?_drop] at hj
  obtain ⟨ad, rfl, h2⟩ := (h w L hst).2 (k + j) u hj
  have hlt := (List.getElem?_eq_some_iff.1 hj).1
  rw [List.length_map] at hlt
  refine ⟨ad.add k, ?_, ?_⟩
  · unfold subA
    rw [if_neg (by omega)]
    rfl
  · rw [Go.Deep.add_add]
    exact h2

/-- Bytes that lie in a block that turns no more. -/
theorem part_lit {W : World} {I : Nat → Option Obj} {g c : Nat} {xs : List UInt8} {t : TypeId} {cs : Array Value} {fr : Nat × Nat} (h : I g = some (.cells cs t fr)) (hc : ∀ (j : Nat) (u : Value), (xs.map bval)[j]? = some u → cs[j]? = some u) : Part.In ⟨some ⟨g, 0, none⟩, c, xs⟩ W I := by
  intro w L hst
  refine ⟨by simp, fun j u hj => ⟨_, rfl, ?_⟩⟩
  rw [show (⟨g, 0, none⟩ : Addr).add j = ⟨g, j, none⟩ by unfold Addr.add; split <;> simp_all, cell_of_row w g j cs t fr (hst.imm _ _ h)]
  exact hc j u hj

/-- An argument's slice of bytes. -/
theorem part_of_slc {W : World} {A : Option Addr} {n c : Nat} {xs : List UInt8} (h : Slc (fun b => W.heap[b]?) 1 (fun cs (b : UInt8) => cs = [bval b]) A n c xs) : Part.In ⟨A, c, xs⟩ W (fun b => W.heap[b]?) := by
  intro w L hst
  refine ⟨by simp, fun j u hj => ?_⟩
  rw [List.getElem?_map] at hj
  cases hx : xs[j]? with
  | none => rw [hx] at hj; cases hj
  | some x =>
    rw [hx] at hj
    simp only [Option.map_some, Option.some.injEq] at hj
    subst hj
    obtain ⟨b, off, cs, rfl, h1, h2, rfl⟩ := h.at_ j x hx
    refine ⟨_, rfl, ?_⟩
    rw [show (⟨b, off, none⟩ : Addr).add j = ⟨b, off + j, none⟩ by unfold Addr.add; split <;> simp_all]
    have := h2 0 (by omega)
    rw [Nat.mul_one, Nat.add_zero] at this
    exact hst.ro this
/-- A byte, read. -/
theorem Cel.byte {H : Type} {enc : TypeId × Value → H} {P : Program} {W : World} {t : TypeId} {cs : List Value} (ht : P.underlying t = some (.int .u8)) (h : Cel enc P W t cs) : ∃ b : UInt8, cs = [bval b] := by
  obtain ⟨n, rfl, hw⟩ := h.int ht
  obtain ⟨h1, h2⟩ := wf_u8 hw
  refine ⟨UInt8.ofNat n.toNat, ?_⟩
  unfold bval
  rw [UInt8.toNat_ofNat']
  congr 2
  omega
theorem Arg.bytes {H : Type} {enc : TypeId × Value → H} {P : Program} {W : World} {t e : TypeId} {v : Value} (ht : P.underlying t = some (.slice e)) (he : P.underlying e = some (.int .u8)) (hc : P.cellsOf e = 1) (h : Arg enc P W t v) :
    ∃ A n c xs, v = .slice A n c ∧ xs.length = n ∧ n ≤ c ∧ c ≤ maxLen ∧ Part.In ⟨A, c, xs⟩ W (fun b => W.heap[b]?) := by
  obtain ⟨A, n, c, xs, hv, hs⟩ := h.slice (α := UInt8) (Q := fun cs b => cs = [bval b]) (size := 1) ht hc (by omega) (fun cs hcs => hcs.byte he)
  exact ⟨A, n, c, xs, hv, hs.len, hs.cap, hs.cap', part_of_slc hs⟩

/-- string(b): the bytes. -/
theorem conv_str {P : Program} {w : World} {src dst e : TypeId} (hs : P.underlying src = some (.slice e)) (he : P.underlying e = some (.int .u8)) (hd : P.underlying dst = some .string) {A : Option Addr} {c : Nat} {xs : List UInt8} (h : Src w 1 A xs.length (xs.map bval)) :
    (convert src dst (.slice A xs.length c)).run P w = .ok (.string ⟨xs.toArray⟩) w := by
  rw [run_convert_bytes_string w src dst e A _ c hs he hd]
  cases hx : xs with
  | nil =>
    cases A with
    | none => simp [Conv.bytesToString]; rfl
    | some a =>
      have hl : (loadCells a 0).run P w = .ok (([] : List Int).map (Value.int .u8)).toArray w := by simp [loadCells, loadCellsFrom]
      exact run_bytesToString w a 0 c [] hl
  | cons x l =>
    rw [← hx]
    obtain ⟨ad, rfl, _⟩ := h.2 0 (bval x) (by rw [hx]; rfl)
    have hl : (loadCells ad xs.length).run P w = .ok ((xs.map fun (b : UInt8) => (b.toNat : Int)).map (Value.int .u8)).toArray w := by
      have := run_loadCells_list (P := P) w ad (xs.map bval) (fun j v hj => by
        obtain ⟨ad', e1, h2⟩ := h.2 j v hj
        injection e1 with e1
        rw [e1]
        exact h2)
      rw [List.length_map] at this
      rw [this]
      congr 2
      rw [List.map_map]
      rfl
    rw [run_bytesToString w ad xs.length c _ hl, foldl_push_bytes]
    congr 2
    simp [ByteArray.empty, ByteArray.emptyWithCapacity, List.map_map]
    refine (List.nil_append _).trans ?_
    refine (List.map_congr_left fun b _ => ?_).trans (List.map_id _)
    simp

end Go.Proofs.YtnhlpiomfljlcaaDoor
