/- digest: some digests side by side; the functions as the laws meet them. -/
import Derived.Test.YtjkepnddmpgljaaDigAll
import Derived.Test.YtjkepnddmpgljaaText
import Derived.Stop.BytesEq
namespace Go.Proofs.Ytjkepnddmpgljaa
open Go.RowKit

/-- A hash as a value's cells. -/
def HV (bs : List UInt8) : Array Value := bcells (hashOf bs)
theorem hashOf_len (bs : List UInt8) : (hashOf bs).length = 32 := by simp [hashOf]
theorem bpart_HV (bs : List UInt8) : bpart (hashOf bs) = HV bs := by
  unfold bpart HV bcells
  rw [hashOf_len]
  simp

theorem eq_bcells (xs ys : List UInt8) (hx : xs.length = 32) (hy : ys.length = 32) (w : World) : (Op.equalIn 10000 26 (.agg (bcells xs)) (.agg (bcells ys))).run Try.prog w = .ok (xs == ys) w :=
  run_equalIn_bytes w 9998 26 5 32 Try.underlying26 Try.underlying5 Try.sizeOf5 xs ys hx hy
theorem eq_HV (bs : List UInt8) (w : World) : (Op.equalIn 10000 26 (.agg (HV bs)) (.agg (HV bs))).run Try.prog w = .ok true w := by
  rw [HV, eq_bcells _ _ (hashOf_len _) (hashOf_len _)]
  simp

/-- The blocks of some digests. -/
inductive DigBlocks : List (Nat × List UInt8) → List (Nat × Obj) → Prop
  | nil : DigBlocks [] []
  | cons {g b L ds G} : Dig g b L → DigBlocks ds G → DigBlocks ((g, b) :: ds) (L ++ G)

theorem DigBlocks.perm {ds ds' : List (Nat × List UInt8)} (p : ds.Perm ds') : ∀ {G}, DigBlocks ds G → ∃ G', DigBlocks ds' G' ∧ G.Perm G' := by
  induction p with
  | nil => intro G h; exact ⟨G, h, List.Perm.refl _⟩
  | cons d _ ih =>
    intro G h
    cases h with
    | cons hd hb =>
      obtain ⟨G', h', hp⟩ := ih hb
      exact ⟨_, .cons hd h', List.Perm.append_left _ hp⟩
  | swap a b l =>
    intro G h
    cases h with
    | cons hd hb =>
      cases hb with
      | cons hd2 hb2 =>
        refine ⟨_, .cons hd2 (.cons hd hb2), ?_⟩
        rw [← List.append_assoc, ← List.append_assoc]
        exact List.Perm.append_right _ List.perm_append_comm
  | trans _ _ ih1 ih2 =>
    intro G h
    obtain ⟨G1, h1, p1⟩ := ih1 h
    obtain ⟨G2, h2, p2⟩ := ih2 h1
    exact ⟨G2, h2, p1.trans p2⟩

/-- Some digests, each of which has taken its bytes. -/
def Digs (W w : World) (I : Nat → Option Obj) (ds : List (Nat × List UInt8)) (F : List (Nat × Obj)) : Prop := ∃ G, DigBlocks ds G ∧ St W w I (G ++ F)

section
variable {W w : World} {I : Nat → Option Obj} {F : List (Nat × Obj)} {ds ds' : List (Nat × List UInt8)} {g : Nat} {bs : List UInt8}

theorem Digs.nil (h : St W w I F) : Digs W w I [] F := ⟨[], .nil, h⟩
theorem Digs.frame (h : Digs W w I ds F) : St W w I F := by obtain ⟨G, _, hst⟩ := h; exact hst.weaken
theorem Digs.perm (h : Digs W w I ds F) (p : ds.Perm ds') : Digs W w I ds' F := by
  obtain ⟨G, hb, hst⟩ := h
  obtain ⟨G', hb', hp⟩ := hb.perm p
  exact ⟨G', hb', hst.perm (List.Perm.append_right _ hp)⟩
theorem Digs.focus (h : Digs W w I ((g, bs) :: ds) F) : ∃ G, DigBlocks ds G ∧ DigSt W w I g bs (G ++ F) := by
  obtain ⟨G, hb, hst⟩ := h
  cases hb with
  | cons hd hb => exact ⟨_, hb, _, hd, by rwa [List.append_assoc] at hst⟩
theorem Digs.back {G : List (Nat × Obj)} (hb : DigBlocks ds G) (h : DigSt W w I g bs (G ++ F)) : Digs W w I ((g, bs) :: ds) F := by
  obtain ⟨L, hd, hst⟩ := h
  exact ⟨_, .cons hd hb, by rwa [List.append_assoc]⟩
theorem Digs.alloc_ (h : Digs W w I ds F) (o : Obj) : Digs W (w.alloc o) I ds F := by
  obtain ⟨G, hb, hst⟩ := h
  exact ⟨G, hb, hst.alloc_ o⟩
theorem Digs.drew (h : Digs W w I ds F) (n : Nat) : Digs W (w.drewN n) I ds F := by
  obtain ⟨G, hb, hst⟩ := h
  exact ⟨G, hb, hst.drew n⟩

/-- A part that stands in the memory that turns no more. -/
def Part.In (p : Part) (W : World) (I : Nat → Option Obj) : Prop := ∀ w L, St W w I L → Src w 1 p.A p.bs.length (p.bs.map bval)

theorem in_nil : ∀ p ∈ ([] : List Part), p.In W I := by simp
theorem in_cons {p : Part} {l : List Part} (hp : p.In W I) (h : ∀ q ∈ l, q.In W I) : ∀ q ∈ p :: l, q.In W I := by
  intro q hq
  rcases List.mem_cons.1 hq with rfl | hq
  · exact hp
  · exact h q hq

theorem ds_new (h : Digs W w I ds F) : Calls Try.prog 12 #[] w fun e w' => ∃ g, e = .returned (.pointer (some ⟨g, 0, none⟩)) ∧ Digs W w' I ((g, []) :: ds) F := by
  obtain ⟨G, hb, hst⟩ := h
  exact (new_any hst).mono fun e w' ⟨g, L, he, hd, hs⟩ => ⟨g, he, Digs.back hb ⟨L, hd, hs⟩⟩
theorem ds_write (p : Part) (hp : p.In W I) (h : Digs W w I ((g, bs) :: ds) F) (hlen : bs.length + p.bs.length ≤ 1099511627776) :
    Calls Try.prog 13 #[.pointer (some ⟨g, 0, none⟩), .slice p.A p.bs.length p.c] w fun e w' => e = .returned (.tuple #[]) ∧ Digs W w' I ((g, bs ++ p.bs) :: ds) F := by
  obtain ⟨G, hb, hd⟩ := h.focus
  exact (write_any p.bs p.A p.c hd (fun w' L' h' => hp w' _ h') hlen).mono fun e w' ⟨he, h'⟩ => ⟨he, Digs.back hb h'⟩
theorem ds_sum (h : Digs W w I ((g, bs) :: ds) F) (hlen : bs.length ≤ 549755813888) :
    Calls Try.prog 14 #[.pointer (some ⟨g, 0, none⟩)] w fun e w' => e = .returned (.agg (HV bs)) ∧ Digs W w' I ((g, bs) :: ds) F := by
  obtain ⟨G, hb, L, hd, hst⟩ := h.focus
  rw [← bpart_HV]
  exact (sum_any hd hst hlen).mono fun e w' ⟨he, h'⟩ => ⟨he, Digs.back hb ⟨L, hd, h'⟩⟩
theorem ds_len (h : Digs W w I ((g, bs) :: ds) F) :
    Calls Try.prog 15 #[.pointer (some ⟨g, 0, none⟩)] w fun e w' => e = .returned (.int .u64 bs.length) ∧ w = w' := by
  obtain ⟨G, hb, L, hd, hst⟩ := h.focus
  exact len_any hd hst
theorem ds_copy (h : Digs W w I ((g, bs) :: ds) F) :
    Calls Try.prog 17 #[.pointer (some ⟨g, 0, none⟩)] w fun e w' => ∃ g', e = .returned (.pointer (some ⟨g', 0, none⟩)) ∧ Digs W w' I ((g', bs) :: (g, bs) :: ds) F := by
  obtain ⟨G, hb, L, hd, hst⟩ := h.focus
  refine (copy_any hd hst).mono ?_
  rintro e w' ⟨g', he, hd'⟩
  refine ⟨g', he, ?_⟩
  rw [← List.append_assoc] at hd'
  exact Digs.back (.cons hd hb) hd'
/-- The function Sum, of parts that were laid side by side just now. -/
theorem ds_all (ps : List Part) (hp : ∀ p ∈ ps, p.In W I) (h : Digs W w I ds F) {n0 n : Nat} (hn0 : n0 = w.heap.size) (hn : n = ps.length) (hlen : (cat ps).length ≤ 549755813888) (hpl : n ≤ 9223372036854775806) :
    Calls Try.prog 16 #[.slice (some ⟨n0, 0, none⟩) n n] (w.alloc (.cells (ps.map Part.val).toArray 22)) fun e w' => e = .returned (.agg (HV (cat ps))) ∧ Digs W w' I ds F := by
  subst hn0
  obtain ⟨G, hb, hst⟩ := h
  rw [← bpart_HV]
  refine (all_any ps (hst.alloc (.cells (ps.map Part.val).toArray 22)) hn ?_ ?_ hlen hpl).mono ?_
  · intro w' L' h' i p hi
    rw [h'.cell (g := w.heap.size) (cs := (ps.map Part.val).toArray) (t := 22) (fr := (0, 0)) (by simp), Nat.zero_add, List.getElem?_toArray, List.getElem?_map, hi]
    rfl
  · intro w' L' h' p hm
    exact hp p hm w' _ h'
  · rintro e w' ⟨he, h'⟩
    exact ⟨he, G, hb, St.weaken (A := [_]) h'⟩
end

theorem Part.In_nil {W : World} {I : Nat → Option Obj} (A : Option Addr) (c : Nat) : Part.In ⟨A, c, []⟩ W I := fun w L _ => ⟨rfl, fun j u hj => by simp at hj⟩
theorem Part.In_cap {W : World} {I : Nat → Option Obj} {A : Option Addr} {c : Nat} (c' : Nat) {xs : List UInt8} (h : Part.In ⟨A, c, xs⟩ W I) : Part.In ⟨A, c', xs⟩ W I := h
theorem Part.In_take {W : World} {I : Nat → Option Obj} {A : Option Addr} {c : Nat} (c' : Nat) {xs : List UInt8} (k : Nat) (h : Part.In ⟨A, c, xs⟩ W I) : Part.In ⟨A, c', xs.take k⟩ W I := by
  intro w L hst
  refine ⟨by simp, fun j u hj => ?_⟩
  refine (h w L hst).2 j u ?_
  simp only [List.map_take, List.getElem?_take] at hj
  split at hj
  · exact hj
  · cases hj
theorem Part.In_drop {W : World} {I : Nat → Option Obj} {A : Option Addr} {c : Nat} (c' : Nat) {xs : List UInt8} (k : Nat) (hc : xs.length ≤ c) (h : Part.In ⟨A, c, xs⟩ W I) : Part.In ⟨subA A c k, c', xs.drop k⟩ W I := by
  intro w L hst
  refine ⟨by simp, fun j u hj => ?_⟩
  simp only [List.map_drop, List.getElem?_drop] at hj
  obtain ⟨ad, rfl, h2⟩ := (h w L hst).2 (k + j) u hj
  have hlt := (List.getElem?_eq_some_iff.1 hj).1
  rw [List.length_map] at hlt
  refine ⟨ad.add k, ?_, ?_⟩
  · unfold subA
    rw [if_neg (by omega)]
    rfl
  · rw [Go.Deep.add_add]
    exact h2

/-- Bytes that lie in a block that turns no more. -/
theorem part_lit {W : World} {I : Nat → Option Obj} {g c : Nat} {xs : List UInt8} {t : TypeId} {cs : Array Value} {fr : Nat × Nat} (h : I g = some (.cells cs t fr)) (hc : ∀ (j : Nat) (u : Value), (xs.map bval)[j]? = some u → cs[j]? = some u) : Part.In ⟨some ⟨g, 0, none⟩, c, xs⟩ W I := by
  intro w L hst
  refine ⟨by simp, fun j u hj => ⟨_, rfl, ?_⟩⟩
  rw [show (⟨g, 0, none⟩ : Addr).add j = ⟨g, j, none⟩ by unfold Addr.add; split <;> simp_all, cell_of_row w g j cs t fr (hst.imm _ _ h)]
  exact hc j u hj

/-- An argument's slice of bytes. -/
theorem part_of_slc {W : World} {A : Option Addr} {n c : Nat} {xs : List UInt8} (h : Slc (fun b => W.heap[b]?) 1 (fun cs (b : UInt8) => cs = [bval b]) A n c xs) : Part.In ⟨A, c, xs⟩ W (fun b => W.heap[b]?) := by
  intro w L hst
  refine ⟨by simp, fun j u hj => ?_⟩
  rw [List.getElem?_map] at hj
  cases hx : xs[j]? with
  | none => rw [hx] at hj; cases hj
  | some x =>
    rw [hx] at hj
    simp only [Option.map_some, Option.some.injEq] at hj
    subst hj
    obtain ⟨b, off, cs, rfl, h1, h2, rfl⟩ := h.at_ j x hx
    refine ⟨_, rfl, ?_⟩
    rw [show (⟨b, off, none⟩ : Addr).add j = ⟨b, off + j, none⟩ by unfold Addr.add; split <;> simp_all]
    have := h2 0 (by omega)
    rw [Nat.mul_one, Nat.add_zero] at this
    exact hst.ro this
/-- A byte, read. -/
theorem Cel.byte {H : Type} {enc : TypeId × Value → H} {P : Program} {W : World} {t : TypeId} {cs : List Value} (ht : P.underlying t = some (.int .u8)) (h : Cel enc P W t cs) : ∃ b : UInt8, cs = [bval b] := by
  obtain ⟨n, rfl, hw⟩ := h.int ht
  obtain ⟨h1, h2⟩ := wf_u8 hw
  refine ⟨UInt8.ofNat n.toNat, ?_⟩
  unfold bval
  rw [UInt8.toNat_ofNat']
  congr 2
  omega
theorem Arg.bytes {H : Type} {enc : TypeId × Value → H} {P : Program} {W : World} {t e : TypeId} {v : Value} (ht : P.underlying t = some (.slice e)) (he : P.underlying e = some (.int .u8)) (hc : P.cellsOf e = 1) (h : Arg enc P W t v) :
    ∃ A n c xs, v = .slice A n c ∧ xs.length = n ∧ n ≤ c ∧ c ≤ maxLen ∧ Part.In ⟨A, c, xs⟩ W (fun b => W.heap[b]?) := by
  obtain ⟨A, n, c, xs, hv, hs⟩ := h.slice (α := UInt8) (Q := fun cs b => cs = [bval b]) (size := 1) ht hc (by omega) (fun cs hcs => hcs.byte he)
  exact ⟨A, n, c, xs, hv, hs.len, hs.cap, hs.cap', part_of_slc hs⟩
end Go.Proofs.Ytjkepnddmpgljaa
