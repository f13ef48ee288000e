/- digest: what a digest's cells say; one byte written. -/
import Derived.Test.YtkpgliaahibjgaaDoorDigCopy
namespace Go.Proofs.YtkpgliaahibjgaaDoor
set_option linter.unusedVariables false
set_option linter.unusedSimpArgs false
open Go.RowKit

theorem eat_mod : ∀ (n : Nat) (l : List Wd) (bs : List UInt8), bs.length < 64 * (n + 1) → (eat n l bs).2.length = bs.length % 64
  | 0, l, bs, h => by simp only [eat]; omega
  | n + 1, l, bs, h => by
    rw [eat]
    split
    · rw [eat_mod n _ _ (by rw [List.length_drop]; omega), List.length_drop]; omega
    · simp only []; omega
theorem took_mod (bs : List UInt8) : (took bs).2.length = bs.length % 64 := eat_mod _ _ _ (by omega)

theorem DigSt.many {W w : World} {I : Nat → Option Obj} {g : Nat} {bs : List UInt8} {F : List (Nat × Obj)} (h : DigSt W w I g bs F) : w.cell? ⟨g, 9, none⟩ = some (.int .u64 (bs.length : Int)) := by
  obtain ⟨L, ⟨rv, Lr, hr, rfl⟩, hst⟩ := h
  obtain ⟨s0, s1, s2, s3, s4, s5, s6, s7, e⟩ := eight _ (took_state bs)
  rw [e] at hst
  exact (dall hst).2.2.2.2.2.2.2.2.2

theorem DigSt.rest {W w : World} {I : Nat → Option Obj} {g : Nat} {bs : List UInt8} {F : List (Nat × Obj)} (h : DigSt W w I g bs F) : ∃ A c n, n = bs.length % 64 ∧ w.cell? ⟨g, 8, none⟩ = some (.slice A n c) := by
  obtain ⟨L, ⟨rv, Lr, hr, rfl⟩, hst⟩ := h
  obtain ⟨s0, s1, s2, s3, s4, s5, s6, s7, e⟩ := eight _ (took_state bs)
  rw [e] at hst
  obtain ⟨A, c, rfl⟩ := hr.shape
  exact ⟨A, c, _, took_mod bs, (dall hst).2.2.2.2.2.2.2.2.1⟩

theorem DigSt.state {W w : World} {I : Nat → Option Obj} {g : Nat} {bs : List UInt8} {F : List (Nat × Obj)} (h : DigSt W w I g bs F) {s0 s1 s2 s3 s4 s5 s6 s7 : Wd} (e : (took bs).1 = [s0, s1, s2, s3, s4, s5, s6, s7]) :
    w.cell? ⟨g, 0, none⟩ = some (.int .u32 (wv s0)) ∧ w.cell? ⟨g, 1, none⟩ = some (.int .u32 (wv s1)) ∧ w.cell? ⟨g, 2, none⟩ = some (.int .u32 (wv s2)) ∧ w.cell? ⟨g, 3, none⟩ = some (.int .u32 (wv s3)) ∧ w.cell? ⟨g, 4, none⟩ = some (.int .u32 (wv s4)) ∧ w.cell? ⟨g, 5, none⟩ = some (.int .u32 (wv s5)) ∧ w.cell? ⟨g, 6, none⟩ = some (.int .u32 (wv s6)) ∧ w.cell? ⟨g, 7, none⟩ = some (.int .u32 (wv s7)) := by
  obtain ⟨L, ⟨rv, Lr, hr, rfl⟩, hst⟩ := h
  rw [e] at hst
  have := dall hst
  exact ⟨this.1, this.2.1, this.2.2.1, this.2.2.2.1, this.2.2.2.2.1, this.2.2.2.2.2.1, this.2.2.2.2.2.2.1, this.2.2.2.2.2.2.2.1⟩

theorem DigSt.alloc {W w : World} {I : Nat → Option Obj} {g : Nat} {bs : List UInt8} {F : List (Nat × Obj)} (h : DigSt W w I g bs F) (o : Obj) : DigSt W (w.alloc o) I g bs ((w.heap.size, o) :: F) := by
  obtain ⟨L, hd, hst⟩ := h
  exact ⟨L, hd, St.swap (A := [(w.heap.size, o)]) (B := L) (hst.alloc o)⟩

theorem DigSt.alloc_ {W w : World} {I : Nat → Option Obj} {g : Nat} {bs : List UInt8} {F : List (Nat × Obj)} (h : DigSt W w I g bs F) (o : Obj) : DigSt W (w.alloc o) I g bs F := by
  obtain ⟨L, hd, hst⟩ := h
  exact ⟨L, hd, hst.alloc_ o⟩

theorem DigSt.less {W w : World} {I : Nat → Option Obj} {g : Nat} {bs : List UInt8} {p : Nat × Obj} {F : List (Nat × Obj)} (h : DigSt W w I g bs (p :: F)) : DigSt W w I g bs F := by
  obtain ⟨L, hd, hst⟩ := h
  exact ⟨L, hd, St.mid (A := L) (B := [p]) hst⟩

theorem DigSt.frame {W w : World} {I : Nat → Option Obj} {g : Nat} {bs : List UInt8} {F : List (Nat × Obj)} (h : DigSt W w I g bs F) : St W w I F := by
  obtain ⟨L, hd, hst⟩ := h
  exact hst.weaken

theorem write_one {W w : World} {I : Nat → Option Obj} {F : List (Nat × Obj)} {g n : Nat} {bs : List UInt8} (b : UInt8) (hd : DigSt W w I g bs F) (hlen : bs.length < 1099511627776) (hn : n = w.heap.size) :
    Calls Tryd.prog 36 #[.pointer (some ⟨g, 0, none⟩), .slice (some ⟨n, 0, none⟩) 1 1] (w.alloc (.cells #[.int .u8 (b.toNat : Int)] 5)) fun e w' => e = .returned (.tuple #[]) ∧ DigSt W w' I g (bs ++ [b]) F := by
  subst hn
  refine (write_any [b] (some ⟨w.heap.size, 0, none⟩) 1 (hd.alloc _) ?_ (by simp; omega)).mono ?_
  · intro w' L' h'
    refine ⟨rfl, fun j u hj => ⟨_, rfl, ?_⟩⟩
    have hj0 : j = 0 := by
      have := (List.getElem?_eq_some_iff.1 hj).1
      simp at this
      exact this
    subst hj0
    rw [show (⟨w.heap.size, 0, none⟩ : Addr).add 0 = ⟨w.heap.size, 0, none⟩ from rfl, h'.cell (g := w.heap.size) (cs := #[.int .u8 (b.toNat : Int)]) (t := 5) (fr := (0, 0)) (by simp)]
    exact hj
  · rintro e w' ⟨rfl, h⟩
    exact ⟨rfl, h.less⟩

/-- How many zeros stand behind. -/
def padZ (n : Nat) : Nat := (119 - n % 64) % 64
/-- The last eight bytes: how many bits, modulo 2^64. -/
def lenByte (n i : Nat) : UInt8 := UInt8.ofNat (n * 8 % 18446744073709551616 / 2 ^ (56 - 8 * i))
/-- What the state takes in the end. -/
def endTo (bs : List UInt8) (i : Nat) : List UInt8 := (bs ++ [128] ++ List.replicate (padZ bs.length) 0) ++ (List.range i).map (lenByte bs.length)
/-- The state in the end, and its bytes. -/
def endState (bs : List UInt8) : List Wd := (took (endTo bs 8)).1
def hashByte (l : List Wd) (i : Nat) : UInt8 := UInt8.ofNat ((l.getD (i / 4) 0).toNat / 2 ^ (24 - 8 * (i % 4)))
def hashOf (bs : List UInt8) : List UInt8 := (List.range 32).map (hashByte (endState bs))
end Go.Proofs.YtkpgliaahibjgaaDoor
