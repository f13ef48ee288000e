/- digest: some digests side by side; the functions as the laws meet them. -/
import Derived.Test.YtfbffmckmchbbaaDoorDigCF
import Derived.Test.YtfbffmckmchbbaaDoorParts
import Derived.Test.YtfbffmckmchbbaaDoorHash
namespace Go.Proofs.YtfbffmckmchbbaaDoor
set_option linter.unusedVariables false
set_option linter.unusedSimpArgs false
open Go.RowKit

/-- A hash as a value's cells. -/
def HV (bs : List UInt8) : Array Value := bcells (hashOf bs)
theorem hashOf_len (bs : List UInt8) : (hashOf bs).length = 32 := by simp [hashOf]
theorem bpart_HV (bs : List UInt8) : bpart (hashOf bs) = HV bs := by
  unfold bpart HV bcells
  rw [hashOf_len]
  simp

theorem eq_HV (bs : List UInt8) (w : World) : (Op.equalIn 10000 26 (.agg (HV bs)) (.agg (HV bs))).run Tryd.prog w = .ok true w := by
  rw [HV, eq_bcells _ _ (hashOf_len _) (hashOf_len _)]
  simp

/-- The blocks of some digests. -/
inductive DigBlocks : List (Nat × List UInt8) → List (Nat × Obj) → Prop
  | nil : DigBlocks [] []
  | cons {g b L ds G} : Dig g b L → DigBlocks ds G → DigBlocks ((g, b) :: ds) (L ++ G)

theorem DigBlocks.perm {ds ds' : List (Nat × List UInt8)} (p : ds.Perm ds') : ∀ {G}, DigBlocks ds G → ∃ G', DigBlocks ds' G' ∧ G.Perm G' := by
  induction p with
  | nil => intro G h; exact ⟨G, h, List.Perm.refl _⟩
  | cons d _ ih =>
    intro G h
    cases h with
    | cons hd hb =>
      obtain ⟨G', h', hp⟩ := ih hb
      exact ⟨_, .cons hd h', List.Perm.append_left _ hp⟩
  | swap a b l =>
    intro G h
    cases h with
    | cons hd hb =>
      cases hb with
      | cons hd2 hb2 =>
        refine ⟨_, .cons hd2 (.cons hd hb2), ?_⟩
        rw [← List.append_assoc, ← List.append_assoc]
        exact List.Perm.append_right _ List.perm_append_comm
  | trans _ _ ih1 ih2 =>
    intro G h
    obtain ⟨G1, h1, p1⟩ := ih1 h
    obtain ⟨G2, h2, p2⟩ := ih2 h1
    exact ⟨G2, h2, p1.trans p2⟩

/-- Some digests, each of which has taken its bytes. -/
def Digs (W w : World) (I : Nat → Option Obj) (ds : List (Nat × List UInt8)) (F : List (Nat × Obj)) : Prop := ∃ G, DigBlocks ds G ∧ St W w I (G ++ F)

section
variable {W w : World} {I : Nat → Option Obj} {F : List (Nat × Obj)} {ds ds' : List (Nat × List UInt8)} {g : Nat} {bs : List UInt8}

theorem Digs.nil (h : St W w I F) : Digs W w I [] F := ⟨[], .nil, h⟩
theorem Digs.frame (h : Digs W w I ds F) : St W w I F := by obtain ⟨G, _, hst⟩ := h; exact hst.weaken
theorem Digs.perm (h : Digs W w I ds F) (p : ds.Perm ds') : Digs W w I ds' F := by
  obtain ⟨G, hb, hst⟩ := h
  obtain ⟨G', hb', hp⟩ := hb.perm p
  exact ⟨G', hb', hst.perm (List.Perm.append_right _ hp)⟩
theorem Digs.focus (h : Digs W w I ((g, bs) :: ds) F) : ∃ G, DigBlocks ds G ∧ DigSt W w I g bs (G ++ F) := by
  obtain ⟨G, hb, hst⟩ := h
  cases hb with
  | cons hd hb => exact ⟨_, hb, _, hd, by rwa [List.append_assoc] at hst⟩
theorem Digs.back {G : List (Nat × Obj)} (hb : DigBlocks ds G) (h : DigSt W w I g bs (G ++ F)) : Digs W w I ((g, bs) :: ds) F := by
  obtain ⟨L, hd, hst⟩ := h
  exact ⟨_, .cons hd hb, by rwa [List.append_assoc]⟩
theorem Digs.alloc_ (h : Digs W w I ds F) (o : Obj) : Digs W (w.alloc o) I ds F := by
  obtain ⟨G, hb, hst⟩ := h
  exact ⟨G, hb, hst.alloc_ o⟩
theorem Digs.drew (h : Digs W w I ds F) (n : Nat) : Digs W (w.drewN n) I ds F := by
  obtain ⟨G, hb, hst⟩ := h
  exact ⟨G, hb, hst.drew n⟩

theorem ds_new (h : Digs W w I ds F) : Calls Tryd.prog 70 #[] w fun e w' => ∃ g, e = .returned (.pointer (some ⟨g, 0, none⟩)) ∧ Digs W w' I ((g, []) :: ds) F := by
  obtain ⟨G, hb, hst⟩ := h
  exact (new_any hst).mono fun e w' ⟨g, L, he, hd, hs⟩ => ⟨g, he, Digs.back hb ⟨L, hd, hs⟩⟩
theorem ds_write (p : Part) (hp : p.In W I) (h : Digs W w I ((g, bs) :: ds) F) (hlen : bs.length + p.bs.length ≤ 1099511627776) :
    Calls Tryd.prog 71 #[.pointer (some ⟨g, 0, none⟩), .slice p.A p.bs.length p.c] w fun e w' => e = .returned (.tuple #[]) ∧ Digs W w' I ((g, bs ++ p.bs) :: ds) F := by
  obtain ⟨G, hb, hd⟩ := h.focus
  exact (write_any p.bs p.A p.c hd (fun w' L' h' => hp w' _ h') hlen).mono fun e w' ⟨he, h'⟩ => ⟨he, Digs.back hb h'⟩
theorem ds_sum (h : Digs W w I ((g, bs) :: ds) F) (hlen : bs.length ≤ 549755813888) :
    Calls Tryd.prog 72 #[.pointer (some ⟨g, 0, none⟩)] w fun e w' => e = .returned (.agg (HV bs)) ∧ Digs W w' I ((g, bs) :: ds) F := by
  obtain ⟨G, hb, L, hd, hst⟩ := h.focus
  rw [← bpart_HV]
  exact (sum_any hd hst hlen).mono fun e w' ⟨he, h'⟩ => ⟨he, Digs.back hb ⟨L, hd, h'⟩⟩
theorem ds_copy (h : Digs W w I ((g, bs) :: ds) F) :
    Calls Tryd.prog 90 #[.pointer (some ⟨g, 0, none⟩)] w fun e w' => ∃ g', e = .returned (.pointer (some ⟨g', 0, none⟩)) ∧ Digs W w' I ((g', bs) :: (g, bs) :: ds) F := by
  obtain ⟨G, hb, L, hd, hst⟩ := h.focus
  refine (copy_any hd hst).mono ?_
  rintro e w' ⟨g', he, hd'⟩
  refine ⟨g', he, ?_⟩
  rw [← List.append_assoc] at hd'
  exact Digs.back (.cons hd hb) hd'
/-- The function Sum, of parts that were laid side by side just now. -/
theorem ds_all (ps : List Part) (hp : ∀ p ∈ ps, p.In W I) (h : Digs W w I ds F) {n0 n : Nat} (hn0 : n0 = w.heap.size) (hn : n = ps.length) (hlen : (cat ps).length ≤ 549755813888) (hpl : n ≤ 9223372036854775806) :
    Calls Tryd.prog 43 #[.slice (some ⟨n0, 0, none⟩) n n] (w.alloc (.cells (ps.map Part.val).toArray 22)) fun e w' => e = .returned (.agg (HV (cat ps))) ∧ Digs W w' I ds F := by
  subst hn0
  obtain ⟨G, hb, hst⟩ := h
  rw [← bpart_HV]
  refine (all_any ps (hst.alloc (.cells (ps.map Part.val).toArray 22)) hn ?_ ?_ hlen hpl).mono ?_
  · intro w' L' h' i p hi
    rw [h'.cell (g := w.heap.size) (cs := (ps.map Part.val).toArray) (t := 22) (fr := (0, 0)) (by simp), Nat.zero_add, List.getElem?_toArray, List.getElem?_map, hi]
    rfl
  · intro w' L' h' p hm
    exact hp p hm w' _ h'
  · rintro e w' ⟨he, h'⟩
    exact ⟨he, G, hb, St.weaken (A := [_]) h'⟩
end

end Go.Proofs.YtfbffmckmchbbaaDoor
