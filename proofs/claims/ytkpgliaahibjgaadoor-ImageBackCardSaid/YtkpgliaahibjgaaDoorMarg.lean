/- The laws' arguments: manifests, chunks. -/
import Derived.Test.YtkpgliaahibjgaaDoorImgV
namespace Go.Proofs.YtkpgliaahibjgaaDoor
set_option linter.unusedVariables false
set_option linter.unusedSimpArgs false
open Go.RowKit Go.Lib Go.Deep

structure Chk where
  i : Int
  p : Part
instance : Inhabited Chk := ⟨⟨0, ⟨none, 0, []⟩⟩⟩
def ccell (k : Chk) : List Value := [.int .i64 k.i, .slice k.p.A k.p.bs.length k.p.c]
/-- Bytes, as they were read. -/
def PIn (p : Part) (W : World) : Prop := p.In W (fun b => W.heap[b]?) ∧ p.bs.length ≤ p.c ∧ p.c ≤ maxLen
/-- A manifest, as it was read. -/
structure ManIn (m : Man) (hs : List (List UInt8)) (W : World) : Prop where
  ok : m.Ok
  n : m.n = hs.length
  hs : HsIn m.A hs W (fun b => W.heap[b]?)
  len : m.prod.size ≤ maxLen
section
variable {H : Type} {enc : TypeId × Value → H} {W : World}
theorem cel_hash {cs : List Value} (h : Cel enc Tryd.prog W 31 cs) : ∃ xs : List UInt8, xs.length = 32 ∧ cs = xs.map bval := by
  obtain ⟨hl, hf⟩ := h.array_ Tryd.underlying31
  have hl : cs.length = 32 := by rw [hl]; kernel_rfl
  have c8 : Tryd.prog.cellsOf 5 = 1 := by kernel_rfl
  rw [c8] at hf
  have key : ∀ i, i < 32 → ∃ b : UInt8, cs[i]? = some (bval b) := by
    intro i hi
    have h1 : Cel enc Tryd.prog W 5 ((cs.drop (i * 1)).take 1) := hf i hi
    rw [Nat.mul_one] at h1
    obtain ⟨b, hb⟩ := h1.byte Tryd.underlying5
    have h3 := congrArg (fun l => l[0]?) hb
    exact ⟨b, by simpa [List.getElem?_take, List.getElem?_drop] using h3⟩
  obtain ⟨f, hf'⟩ := choose_lt key
  refine ⟨(List.range 32).map f, by simp, ?_⟩
  apply List.ext_getElem?
  intro i
  by_cases hi : i < 32
  · rw [hf' i hi, List.getElem?_map, List.getElem?_map, List.getElem?_range hi]
    rfl
  · rw [List.getElem?_eq_none (by omega), List.getElem?_eq_none (by simp; omega)]
theorem cel_hashes {cs : List Value} (h : Cel enc Tryd.prog W 32 cs) : ∃ A c hs, cs = [.slice A hs.length c] ∧ HsIn A hs W (fun b => W.heap[b]?) ∧ hs.length ≤ maxLen := by
  obtain ⟨A, n, c, xs, rfl, hs⟩ := h.slice (α := List UInt8) (Q := fun cs x => x.length = 32 ∧ cs = x.map bval) (size := 32) Tryd.underlying32 (by kernel_rfl) (by omega) (fun cs hcs => cel_hash hcs)
  have hn := hs.len
  subst hn
  have h32 : ∀ h ∈ xs, h.length = 32 := by
    intro x hx
    obtain ⟨i, hi⟩ := List.mem_iff_getElem?.1 hx
    obtain ⟨_, _, _, _, _, _, h4⟩ := hs.at_ i x hi
    exact h4.1
  refine ⟨A, c, xs, rfl, ⟨h32, fun w L hst j u hj => ?_⟩, Nat.le_trans hs.cap hs.cap'⟩
  have hj32 : j < xs.length * 32 := by have := (List.getElem?_eq_some_iff.1 hj).1; rw [hcells_length xs h32] at this; exact this
  have hi : j / 32 < xs.length := by omega
  obtain ⟨b, off, cs, h1, h2, h3, h4, h5⟩ := hs.at_ (j / 32) (xs[j / 32]) (List.getElem?_eq_getElem hi)
  subst h5
  refine ⟨b, off, h1, ?_⟩
  have h6 := h3 (j % 32) (by omega)
  have h7 := hcells_get xs (j / 32) (j % 32) _ h32 (List.getElem?_eq_getElem hi) (by omega)
  rw [show j / 32 * 32 + j % 32 = j by omega, hj] at h7
  rw [← h7] at h6
  have h8 := hst.ro h6
  rw [show off + j / 32 * 32 + j % 32 = off + j by omega] at h8
  exact h8
theorem cel_bytes {cs : List Value} (h : Cel enc Tryd.prog W 22 cs) : ∃ p : Part, cs = [.slice p.A p.bs.length p.c] ∧ PIn p W := by
  obtain ⟨A, n, c, xs, rfl, hs⟩ := h.slice (α := UInt8) (Q := fun cs b => cs = [bval b]) (size := 1) Tryd.underlying22 (by kernel_rfl) (by omega) (fun cs hcs => hcs.byte Tryd.underlying5)
  have hn := hs.len
  subst hn
  exact ⟨⟨A, c, xs⟩, rfl, part_of_slc hs, hs.cap, hs.cap'⟩
theorem cel_manifest {cs : List Value} (h : Cel enc Tryd.prog W 34 cs) : ∃ m hs, cs = m.cells.toList ∧ ManIn m hs W := by
  obtain ⟨hl, hf⟩ := h.struct_ Tryd.underlying34
  have hl : cs.length = 37 := by rw [hl]; kernel_rfl
  have f0 : Cel enc Tryd.prog W 9 ((cs.drop 0).take (Tryd.prog.cellsOf 9)) := hf 0 _ rfl
  rw [show Tryd.prog.cellsOf 9 = 1 by kernel_rfl] at f0
  have f1 : Cel enc Tryd.prog W 29 ((cs.drop 1).take (Tryd.prog.cellsOf 29)) := hf 1 _ rfl
  rw [show Tryd.prog.cellsOf 29 = 1 by kernel_rfl] at f1
  have f2 : Cel enc Tryd.prog W 3 ((cs.drop 2).take (Tryd.prog.cellsOf 3)) := hf 2 _ rfl
  rw [show Tryd.prog.cellsOf 3 = 1 by kernel_rfl] at f2
  have f3 : Cel enc Tryd.prog W 3 ((cs.drop 3).take (Tryd.prog.cellsOf 3)) := hf 3 _ rfl
  rw [show Tryd.prog.cellsOf 3 = 1 by kernel_rfl] at f3
  have f4 : Cel enc Tryd.prog W 31 ((cs.drop 4).take (Tryd.prog.cellsOf 31)) := hf 4 _ rfl
  rw [show Tryd.prog.cellsOf 31 = 32 by kernel_rfl] at f4
  have f5 : Cel enc Tryd.prog W 32 ((cs.drop 36).take (Tryd.prog.cellsOf 32)) := hf 5 _ rfl
  rw [show Tryd.prog.cellsOf 32 = 1 by kernel_rfl] at f5
  obtain ⟨s, e0, hs⟩ := f0.string Tryd.underlying9
  obtain ⟨v, e1, hv⟩ := f1.int Tryd.underlying29
  obtain ⟨z, e2, hz⟩ := f2.int Tryd.underlying3
  obtain ⟨k, e3, hk⟩ := f3.int Tryd.underlying3
  obtain ⟨d, hd, e4⟩ := cel_hash f4
  obtain ⟨A, c, hh, e5, hin, hlen⟩ := cel_hashes f5
  obtain ⟨v0, v1⟩ : 0 ≤ v ∧ v ≤ 18446744073709551615 := by
    have := hv
    simp [Lit.wf, IntKind.min, IntKind.max, IntKind.signed, IntKind.bits] at this
    exact this
  obtain ⟨z0, z1⟩ := wf_i64 hz
  obtain ⟨k0, k1⟩ := wf_i64 hk
  refine ⟨⟨s, v, z, k, d, A, hh.length, c⟩, hh, ?_, ⟨⟨hd, v0, v1, z0, z1, k0, k1, by unfold maxLen at hlen; exact hlen⟩, rfl, hin, hs⟩⟩
  have hsplit : cs = (cs.drop 0).take 1 ++ ((cs.drop 1).take 1 ++ ((cs.drop 2).take 1 ++ ((cs.drop 3).take 1 ++ ((cs.drop 4).take 32 ++ (cs.drop 36).take 1)))) := by
    have a5 : (cs.drop 36).take 1 = cs.drop 36 := List.take_of_length_le (by rw [List.length_drop]; omega)
    have st : ∀ n k, (cs.drop n).take k ++ cs.drop (n + k) = cs.drop n := fun n k => by rw [← List.drop_drop, List.take_append_drop]
    rw [a5, st 4 32, st 3 1, st 2 1, st 1 1, st 0 1, List.drop_zero]
  rw [hsplit, e0, e1, e2, e3, e4, e5]
  simp [Man.cells]
theorem Arg.manifest {v : Value} (h : Arg enc Tryd.prog W 34 v) : ∃ m hs, v = m.val ∧ ManIn m hs W := by
  obtain ⟨cs, rfl, hl, _⟩ := h.struct_ Tryd.underlying34
  have h2 : Cel enc Tryd.prog W 34 cs := by simpa [Value.cells] using h.reads
  obtain ⟨m, hs, rfl, hm⟩ := cel_manifest h2
  exact ⟨m, hs, by simp [Man.val], hm⟩
theorem cel_chunk {cs : List Value} (h : Cel enc Tryd.prog W 45 cs) : ∃ k : Chk, cs = ccell k ∧ PIn k.p W ∧ -9223372036854775808 ≤ k.i ∧ k.i ≤ 9223372036854775807 := by
  obtain ⟨hl, hf⟩ := h.ones Tryd.underlying45 (by kernel_rfl) (by kernel_rfl)
  obtain ⟨c0, e0, h0⟩ := hf 0 _ rfl
  obtain ⟨c1, e1, h1⟩ := hf 1 _ rfl
  obtain ⟨i, hi, hw⟩ := Cel.int (t := 3) Tryd.underlying3 h0
  obtain ⟨p, hp, hpi⟩ := cel_bytes h1
  obtain ⟨i0, i1⟩ := wf_i64 hw
  have hl' : cs.length = 2 := hl
  match cs, hl' with
  | [x0, x1], _ =>
    simp at e0 e1 hi hp
    exact ⟨⟨i, p⟩, by simp only [ccell]; rw [e0, e1, hi, hp], hpi, i0, i1⟩
/-- Chunks, as they were read. -/
structure ChsIn (A : Option Addr) (ks : List Chk) (W : World) : Prop where
  at_ : ∀ k x, ks[k]? = some x → ∃ b off, A = some ⟨b, off, none⟩ ∧ roCell (fun b => W.heap[b]?) ⟨b, off + k * 2, none⟩ = some (.int .i64 x.i) ∧ roCell (fun b => W.heap[b]?) ⟨b, off + k * 2 + 1, none⟩ = some (.slice x.p.A x.p.bs.length x.p.c) ∧ PIn x.p W ∧ -9223372036854775808 ≤ x.i ∧ x.i ≤ 9223372036854775807
theorem Arg.chunks {v : Value} (h : Arg enc Tryd.prog W 35 v) : ∃ A c ks, v = .slice A ks.length c ∧ ChsIn A ks W := by
  obtain ⟨A, n, c, ks, rfl, hs⟩ := h.slice (α := Chk) (Q := fun cs k => cs = ccell k ∧ PIn k.p W ∧ -9223372036854775808 ≤ k.i ∧ k.i ≤ 9223372036854775807) (size := 2) Tryd.underlying35 (by kernel_rfl) (by omega) (fun cs hcs => cel_chunk hcs)
  have hn := hs.len
  subst hn
  refine ⟨A, c, ks, rfl, ⟨fun k x hx => ?_⟩⟩
  obtain ⟨b, off, cs, h1, h2, h3, rfl, h5, h6, h7⟩ := hs.at_ k x hx
  exact ⟨b, off, h1, by have := h3 0 (by omega); simpa [ccell] using this, by have := h3 1 (by omega); simpa [ccell] using this, h5, h6, h7⟩
end

section
variable {W w : World} {I : Nat → Option Obj} {L : List (Nat × Obj)}
set_option maxRecDepth 100000 in
set_option maxHeartbeats 1000000 in
theorem great_any (m : Man) (ok : m.Ok) (h : St W w I L) : Calls Tryd.prog 12 #[m.val] w fun e w' => e = .returned (.bool (decide (300 < m.prod.size) || decide (100 < m.n))) ∧ St W w' I L := by
  obtain ⟨G, hG⟩ : ∃ G, (decide (300 < m.prod.size) || decide (100 < m.n)) = G := ⟨_, rfl⟩
  have h1 := h.alloc (.cells m.cells 34)
  obtain ⟨d0, _, _, _, d4⟩ := man_cells ok h1 (List.mem_cons_self ..)
  have n1 := ok.n1
  have hval : m.val = .agg m.cells := rfl
  rw [hG, hval]
  generalize m.cells = mc at *
  generalize m.prod = prod at *
  generalize m.n = n at *
  have H1 := Lib.hid h1; have HG := Lib.hid hG
  clear h h1 hG hval ok
  by_cases g1 : (300 : Int) < prod.size
  · have hg : G = true := by rw [← HG.out, decide_eq_true (by omega)]; rfl
    subst hg
    clear HG
    go_enter Tryd.func12, Tryd.ntmps12
    go_wp2_with fail
    go_ret
    exact ⟨rfl, St.weaken (A := [_]) H1.out⟩
  · by_cases g2 : (100 : Int) < n
    · have hg : G = true := by rw [← HG.out, decide_eq_true (show 100 < n by omega), Bool.or_true]
      subst hg
      clear HG
      go_enter Tryd.func12, Tryd.ntmps12
      go_wp2_with fail
      go_ret
      exact ⟨rfl, St.weaken (A := [_]) H1.out⟩
    · have hg : G = false := by rw [← HG.out, decide_eq_false (by omega), decide_eq_false (by omega)]; rfl
      subst hg
      clear HG
      go_enter Tryd.func12, Tryd.ntmps12
      go_wp2_with fail
      go_ret
      exact ⟨rfl, St.weaken (A := [_]) H1.out⟩
end
end Go.Proofs.YtkpgliaahibjgaaDoor
