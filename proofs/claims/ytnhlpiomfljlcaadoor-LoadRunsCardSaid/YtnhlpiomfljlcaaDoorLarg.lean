/- The laws' arguments: a world, acts. -/
import Derived.Test.YtnhlpiomfljlcaaDoorLdLM
import Derived.Test.YtnhlpiomfljlcaaDoorNtW
import Derived.Test.YtnhlpiomfljlcaaDoorRefAN
namespace Go.Proofs.YtnhlpiomfljlcaaDoor
set_option linter.unusedVariables false
set_option linter.unusedSimpArgs false
open Go.RowKit Go.Lib Go.Deep

instance : Inhabited Part := ⟨⟨none, 0, []⟩⟩
instance : Inhabited Fault := ⟨⟨0, 0, 0⟩⟩
/-- Bytes, as they were read. -/
def PIn (p : Part) (W : World) : Prop := p.In W (fun b => W.heap[b]?) ∧ p.bs.length ≤ p.c ∧ p.c ≤ maxLen
section
variable {H : Type} {enc : TypeId × Value → H} {W : World}
theorem cel_hash {cs : List Value} (h : Cel enc Tryd.prog W 50 cs) : ∃ xs : List UInt8, xs.length = 32 ∧ cs = xs.map bval := by
  obtain ⟨hl, hf⟩ := h.array_ Tryd.underlying50
  have hl : cs.length = 32 := by rw [hl]; kernel_rfl
  have c8 : Tryd.prog.cellsOf 5 = 1 := by kernel_rfl
  rw [c8] at hf
  have key : ∀ i, i < 32 → ∃ b : UInt8, cs[i]? = some (bval b) := by
    intro i hi
    have h1 : Cel enc Tryd.prog W 5 ((cs.drop (i * 1)).take 1) := hf i hi
    rw [Nat.mul_one] at h1
    obtain ⟨b, hb⟩ := h1.byte Tryd.underlying5
    have h3 := congrArg (fun l => l[0]?) hb
    exact ⟨b, by simpa [List.getElem?_take, List.getElem?_drop] using h3⟩
  obtain ⟨f, hf'⟩ := choose_lt key
  refine ⟨(List.range 32).map f, by simp, ?_⟩
  apply List.ext_getElem?
  intro i
  by_cases hi : i < 32
  · rw [hf' i hi, List.getElem?_map, List.getElem?_map, List.getElem?_range hi]
    rfl
  · rw [List.getElem?_eq_none (by omega), List.getElem?_eq_none (by simp; omega)]
theorem cel_hashes {cs : List Value} (h : Cel enc Tryd.prog W 51 cs) : ∃ A n c, cs = [.slice A n c] ∧ n ≤ maxLen := by
  obtain ⟨A, n, c, xs, rfl, hs⟩ := h.slice (α := Unit) (Q := fun _ _ => True) (size := 32) Tryd.underlying51 (by kernel_rfl) (by omega) (fun cs hcs => ⟨(), trivial⟩)
  exact ⟨A, n, c, rfl, Nat.le_trans hs.cap hs.cap'⟩
theorem cel_fault {cs : List Value} (h : Cel enc Tryd.prog W 102 cs) : ∃ f : Fault, cs = fcells f := by
  obtain ⟨hl, hf⟩ := h.ones Tryd.underlying102 (by kernel_rfl) (by kernel_rfl)
  obtain ⟨c0, e0, h0⟩ := hf 0 _ rfl
  obtain ⟨c1, e1, h1⟩ := hf 1 _ rfl
  obtain ⟨c2, e2, h2⟩ := hf 2 _ rfl
  obtain ⟨k, hk, _⟩ := Cel.int (t := 3) Tryd.underlying3 h0
  obtain ⟨a, ha, _⟩ := Cel.int (t := 3) Tryd.underlying3 h1
  obtain ⟨u, hu, hw⟩ := Cel.int (t := 5) Tryd.underlying5 h2
  obtain ⟨w0, w1⟩ := wf_u8 hw
  have hl' : cs.length = 3 := hl
  match cs, hl' with
  | [x0, x1, x2], _ =>
    simp at e0 e1 e2 hk ha hu
    refine ⟨⟨k, a, UInt8.ofNat u.toNat⟩, ?_⟩
    have : (((UInt8.ofNat u.toNat).toNat : Nat) : Int) = u := by
      rw [UInt8.toNat_ofNat']; omega
    simp only [fcells]
    rw [this, e0, e1, e2, hk, ha, hu]
theorem cel_faults {cs : List Value} (h : Cel enc Tryd.prog W 64 cs) : ∃ A c fs, cs = [.slice A fs.length c] ∧ FIn A fs W (fun b => W.heap[b]?) := by
  obtain ⟨A, n, c, fs, rfl, hsl⟩ := h.slice (α := Fault) (Q := fun cs f => cs = fcells f) (size := 3) Tryd.underlying64 (by kernel_rfl) (by omega) (fun cs h => cel_fault h)
  have hn := hsl.len
  subst hn
  refine ⟨A, c, fs, rfl, fun w L hst => ⟨fall_len fs, fun j u hj => ?_⟩⟩
  have hj3 : j < fs.length * 3 := by have := (List.getElem?_eq_some_iff.1 hj).1; rw [fall_len] at this; exact this
  have hi : j / 3 < fs.length := by omega
  obtain ⟨b, off, cs, h1, h2, h3, h4⟩ := hsl.at_ (j / 3) (fs[j / 3]) (List.getElem?_eq_getElem hi)
  subst h4
  refine ⟨_, h1, ?_⟩
  have h5 := h3 (j % 3) (by omega)
  have hfj := fall_get fs j _ (List.getElem?_eq_getElem hi)
  rw [hfj] at hj
  rw [hj] at h5
  rw [show (⟨b, off, none⟩ : Addr).add j = ⟨b, off + j / 3 * 3 + j % 3, none⟩ by unfold Addr.add; split <;> simp_all <;> omega]
  exact hst.ro h5
theorem cel_bytes {cs : List Value} (h : Cel enc Tryd.prog W 27 cs) : ∃ p : Part, cs = [.slice p.A p.bs.length p.c] ∧ PIn p W := by
  obtain ⟨A, n, c, xs, rfl, hs⟩ := h.slice (α := UInt8) (Q := fun cs b => cs = [bval b]) (size := 1) Tryd.underlying27 (by kernel_rfl) (by omega) (fun cs hcs => hcs.byte Tryd.underlying5)
  have hn := hs.len
  subst hn
  exact ⟨⟨A, c, xs⟩, rfl, part_of_slc hs, hs.cap, hs.cap'⟩
theorem cel_offer {cs : List Value} (h : Cel enc Tryd.prog W 57 cs) : ∃ o : ByteArray × Part, cs = ocell o ∧ o.1.size ≤ maxLen ∧ PIn o.2 W := by
  obtain ⟨hl, hf⟩ := h.ones Tryd.underlying57 (by kernel_rfl) (by kernel_rfl)
  obtain ⟨c0, e0, h0⟩ := hf 0 _ rfl
  obtain ⟨c1, e1, h1⟩ := hf 1 _ rfl
  obtain ⟨s, hs, hsz⟩ := Cel.string (t := 9) Tryd.underlying9 h0
  obtain ⟨p, hp, hpi⟩ := cel_bytes h1
  have hl' : cs.length = 2 := hl
  match cs, hl' with
  | [x0, x1], _ =>
    simp at e0 e1 hs hp
    exact ⟨(s, p), by simp only [ocell]; rw [e0, e1, hs, hp], hsz, hpi⟩
theorem cel_manifest {cs : List Value} (h : Cel enc Tryd.prog W 53 cs) : ∃ m : Man, cs = m.cells.toList ∧ m.Ok ∧ m.prod.size ≤ maxLen := by
  obtain ⟨hl, hf⟩ := h.struct_ Tryd.underlying53
  have hl : cs.length = 37 := by rw [hl]; kernel_rfl
  have f0 : Cel enc Tryd.prog W 9 ((cs.drop 0).take (Tryd.prog.cellsOf 9)) := hf 0 _ rfl
  rw [show Tryd.prog.cellsOf 9 = 1 by kernel_rfl] at f0
  have f1 : Cel enc Tryd.prog W 48 ((cs.drop 1).take (Tryd.prog.cellsOf 48)) := hf 1 _ rfl
  rw [show Tryd.prog.cellsOf 48 = 1 by kernel_rfl] at f1
  have f2 : Cel enc Tryd.prog W 3 ((cs.drop 2).take (Tryd.prog.cellsOf 3)) := hf 2 _ rfl
  rw [show Tryd.prog.cellsOf 3 = 1 by kernel_rfl] at f2
  have f3 : Cel enc Tryd.prog W 3 ((cs.drop 3).take (Tryd.prog.cellsOf 3)) := hf 3 _ rfl
  rw [show Tryd.prog.cellsOf 3 = 1 by kernel_rfl] at f3
  have f4 : Cel enc Tryd.prog W 50 ((cs.drop 4).take (Tryd.prog.cellsOf 50)) := hf 4 _ rfl
  rw [show Tryd.prog.cellsOf 50 = 32 by kernel_rfl] at f4
  have f5 : Cel enc Tryd.prog W 51 ((cs.drop 36).take (Tryd.prog.cellsOf 51)) := hf 5 _ rfl
  rw [show Tryd.prog.cellsOf 51 = 1 by kernel_rfl] at f5
  obtain ⟨s, e0, hs⟩ := f0.string Tryd.underlying9
  obtain ⟨v, e1, hv⟩ := f1.int Tryd.underlying48
  obtain ⟨z, e2, hz⟩ := f2.int Tryd.underlying3
  obtain ⟨k, e3, hk⟩ := f3.int Tryd.underlying3
  obtain ⟨d, hd, e4⟩ := cel_hash f4
  obtain ⟨A, nn, c, e5, hlen⟩ := cel_hashes f5
  obtain ⟨v0, v1⟩ : 0 ≤ v ∧ v ≤ 18446744073709551615 := by
    have := hv
    simp [Lit.wf, IntKind.min, IntKind.max, IntKind.signed, IntKind.bits] at this
    exact this
  obtain ⟨z0, z1⟩ := wf_i64 hz
  obtain ⟨k0, k1⟩ := wf_i64 hk
  refine ⟨⟨s, v, z, k, d, A, nn, c⟩, ?_, ⟨hd, v0, v1, z0, z1, k0, k1, by unfold maxLen at hlen; exact hlen⟩, hs⟩
  have hsplit : cs = (cs.drop 0).take 1 ++ ((cs.drop 1).take 1 ++ ((cs.drop 2).take 1 ++ ((cs.drop 3).take 1 ++ ((cs.drop 4).take 32 ++ (cs.drop 36).take 1)))) := by
    have a5 : (cs.drop 36).take 1 = cs.drop 36 := List.take_of_length_le (by rw [List.length_drop]; omega)
    have st : ∀ n k, (cs.drop n).take k ++ cs.drop (n + k) = cs.drop n := fun n k => by rw [← List.drop_drop, List.take_append_drop]
    rw [a5, st 4 32, st 3 1, st 2 1, st 1 1, st 0 1, List.drop_zero]
  rw [hsplit, e0, e1, e2, e3, e4, e5]
  simp [Man.cells]
end

/-- What is told, as data. -/
structure Tl where
  kind : Int
  at_ : Int
  head : Int
  m : Man
  p : Part
def tcells (t : Tl) : List Value := [.int .i64 t.kind, .int .i64 t.at_, .int .i64 t.head] ++ (t.m.cells.toList ++ [.slice t.p.A t.p.bs.length t.p.c])
structure Tl.Ok (t : Tl) (W : World) : Prop where
  m : t.m.Ok
  name : t.m.prod.size ≤ maxLen
  p : PIn t.p W
  a0 : -9223372036854775808 ≤ t.at_
  a1 : t.at_ ≤ 9223372036854775807
  h0 : -9223372036854775808 ≤ t.head
  h1 : t.head ≤ 9223372036854775807
/-- What is done. -/
structure Dn where
  kind : Int
  t : Tl
  A : Option Addr
  c : Nat
  fs : List Fault
def dcells (d : Dn) : List Value := Value.int .i64 d.kind :: (tcells d.t ++ [.slice d.A d.fs.length d.c])
instance : Inhabited Tl := ⟨⟨0, 0, 0, ⟨⟨#[]⟩, 0, 0, 0, [], none, 0, 0⟩, ⟨none, 0, []⟩⟩⟩
instance : Inhabited Dn := ⟨⟨0, default, none, 0, []⟩⟩
structure Dn.Ok (d : Dn) (W : World) : Prop where
  t : d.t.Ok W
  f : FIn d.A d.fs W (fun b => W.heap[b]?)
theorem tcells_len (t : Tl) (h : t.m.Ok) : (tcells t).length = 41 := by
  have := Man.cells_size h
  simp [tcells, this]
theorem dcells_len (d : Dn) (h : d.t.m.Ok) : (dcells d).length = 43 := by
  have := tcells_len d.t h
  simp [dcells, this]
section
variable {H : Type} {enc : TypeId × Value → H} {W : World}
theorem cel_told {cs : List Value} (h : Cel enc Tryd.prog W 71 cs) : ∃ t : Tl, cs = tcells t ∧ t.Ok W := by
  obtain ⟨hl, hf⟩ := h.struct_ Tryd.underlying71
  have hl : cs.length = 41 := by rw [hl]; kernel_rfl
  have f0 : Cel enc Tryd.prog W 3 ((cs.drop 0).take (Tryd.prog.cellsOf 3)) := hf 0 _ rfl
  rw [show Tryd.prog.cellsOf 3 = 1 by kernel_rfl] at f0
  have f1 : Cel enc Tryd.prog W 3 ((cs.drop 1).take (Tryd.prog.cellsOf 3)) := hf 1 _ rfl
  rw [show Tryd.prog.cellsOf 3 = 1 by kernel_rfl] at f1
  have f2 : Cel enc Tryd.prog W 3 ((cs.drop 2).take (Tryd.prog.cellsOf 3)) := hf 2 _ rfl
  rw [show Tryd.prog.cellsOf 3 = 1 by kernel_rfl] at f2
  have f3 : Cel enc Tryd.prog W 53 ((cs.drop 3).take (Tryd.prog.cellsOf 53)) := hf 3 _ rfl
  rw [show Tryd.prog.cellsOf 53 = 37 by kernel_rfl] at f3
  have f4 : Cel enc Tryd.prog W 27 ((cs.drop 40).take (Tryd.prog.cellsOf 27)) := hf 4 _ rfl
  rw [show Tryd.prog.cellsOf 27 = 1 by kernel_rfl] at f4
  obtain ⟨k, e0, hk⟩ := f0.int Tryd.underlying3
  obtain ⟨a, e1, ha⟩ := f1.int Tryd.underlying3
  obtain ⟨d, e2, hd⟩ := f2.int Tryd.underlying3
  obtain ⟨m, e3, hm, hn⟩ := cel_manifest f3
  obtain ⟨p, e4, hp⟩ := cel_bytes f4
  obtain ⟨a0, a1⟩ := wf_i64 ha
  obtain ⟨d0, d1⟩ := wf_i64 hd
  refine ⟨⟨k, a, d, m, p⟩, ?_, ⟨hm, hn, hp, a0, a1, d0, d1⟩⟩
  have hsplit : cs = (cs.drop 0).take 1 ++ ((cs.drop 1).take 1 ++ ((cs.drop 2).take 1 ++ ((cs.drop 3).take 37 ++ (cs.drop 40).take 1))) := by
    have a5 : (cs.drop 40).take 1 = cs.drop 40 := List.take_of_length_le (by rw [List.length_drop]; omega)
    have st : ∀ n k, (cs.drop n).take k ++ cs.drop (n + k) = cs.drop n := fun n k => by rw [← List.drop_drop, List.take_append_drop]
    rw [a5, st 3 37, st 2 1, st 1 1, st 0 1, List.drop_zero]
  rw [hsplit, e0, e1, e2, e3, e4]
  simp [tcells]
theorem cel_done {cs : List Value} (h : Cel enc Tryd.prog W 73 cs) : ∃ d : Dn, cs = dcells d ∧ d.Ok W := by
  obtain ⟨hl, hf⟩ := h.struct_ Tryd.underlying73
  have hl : cs.length = 43 := by rw [hl]; kernel_rfl
  have f0 : Cel enc Tryd.prog W 3 ((cs.drop 0).take (Tryd.prog.cellsOf 3)) := hf 0 _ rfl
  rw [show Tryd.prog.cellsOf 3 = 1 by kernel_rfl] at f0
  have f1 : Cel enc Tryd.prog W 71 ((cs.drop 1).take (Tryd.prog.cellsOf 71)) := hf 1 _ rfl
  rw [show Tryd.prog.cellsOf 71 = 41 by kernel_rfl] at f1
  have f2 : Cel enc Tryd.prog W 64 ((cs.drop 42).take (Tryd.prog.cellsOf 64)) := hf 2 _ rfl
  rw [show Tryd.prog.cellsOf 64 = 1 by kernel_rfl] at f2
  obtain ⟨k, e0, hk⟩ := f0.int Tryd.underlying3
  obtain ⟨t, e1, ht⟩ := cel_told f1
  obtain ⟨A, c, fs, e2, hfi⟩ := cel_faults f2
  refine ⟨⟨k, t, A, c, fs⟩, ?_, ⟨ht, hfi⟩⟩
  have hsplit : cs = (cs.drop 0).take 1 ++ ((cs.drop 1).take 41 ++ (cs.drop 42).take 1) := by
    have a5 : (cs.drop 42).take 1 = cs.drop 42 := List.take_of_length_le (by rw [List.length_drop]; omega)
    have st : ∀ n k, (cs.drop n).take k ++ cs.drop (n + k) = cs.drop n := fun n k => by rw [← List.drop_drop, List.take_append_drop]
    rw [a5, st 1 41, st 0 1, List.drop_zero]
  rw [hsplit, e0, e1, e2]
  simp [dcells]
/-- What can be fetched, and how. -/
structure WArg (W : World) where
  OA : Option Addr
  oc : Nat
  os : List (ByteArray × Part)
  FA : Option Addr
  fc : Nat
  fs : List Fault
  name : ByteArray
  tries : Int
  r0 : Int
  r1 : Int
  off : ∀ k o, os[k]? = some o → ∃ b of', OA = some (⟨b, of', none⟩ : Addr) ∧ roCell (fun b => W.heap[b]?) ⟨b, of' + k * 2, none⟩ = some (.string o.1) ∧ roCell (fun b => W.heap[b]?) ⟨b, of' + k * 2 + 1, none⟩ = some (.slice o.2.A o.2.bs.length o.2.c)
  oin : ∀ o ∈ os, o.1.size ≤ maxLen ∧ PIn o.2 W
  fin : FIn FA fs W (fun b => W.heap[b]?)
  lens : os.length ≤ maxLen ∧ name.size ≤ maxLen
def WArg.cells (x : WArg W) : Array Value := #[.slice x.OA x.os.length x.oc, .slice x.FA x.fs.length x.fc, .string x.name, .int .i64 x.tries, .int .i64 x.r0, .int .i64 x.r1]
set_option maxRecDepth 100000 in
theorem Arg.lworld {v : Value} (a : Arg enc Tryd.prog W 67 v) : ∃ x : WArg W, v = .agg x.cells := by
  obtain ⟨cs, rfl, hl, hf⟩ := a.struct_ Tryd.underlying67
  have hl' : cs.length = 6 := by rw [hl]; kernel_rfl
  match cs, hl' with
  | [x0, x1, x2, x3, x4, x5], _ =>
    have h0 : Cel enc Tryd.prog W 58 [x0] := hf 0 _ rfl
    have h1 : Cel enc Tryd.prog W 64 [x1] := hf 1 _ rfl
    have h2 : Cel enc Tryd.prog W 9 [x2] := hf 2 _ rfl
    have h3 : Cel enc Tryd.prog W 3 [x3] := hf 3 _ rfl
    have h4 : Cel enc Tryd.prog W 65 [x4, x5] := hf 4 _ rfl
    obtain ⟨OA, n, oc, os, e0, so⟩ := h0.slice (α := ByteArray × Part) (Q := fun cs o => cs = ocell o ∧ o.1.size ≤ maxLen ∧ PIn o.2 W) (size := 2) Tryd.underlying58 (by kernel_rfl) (by omega) (fun cs h => cel_offer h)
    obtain ⟨FA, fc, fs, e1, fin⟩ := cel_faults h1
    obtain ⟨s, e2, hs⟩ := h2.string Tryd.underlying9
    obtain ⟨t, e3, _⟩ := h3.int Tryd.underlying3
    obtain ⟨hl4, hf4⟩ := h4.array_ Tryd.underlying65
    have g0 : Cel enc Tryd.prog W 3 [x4] := hf4 0 (by decide)
    have g1 : Cel enc Tryd.prog W 3 [x5] := hf4 1 (by decide)
    obtain ⟨r0, e4, _⟩ := g0.int Tryd.underlying3
    obtain ⟨r1, e5, _⟩ := g1.int Tryd.underlying3
    have hn := so.len
    subst hn
    simp at e0 e1 e2 e3 e4 e5
    refine ⟨⟨OA, oc, os, FA, fc, fs, s, t, r0, r1, fun k o hk => ?_, fun o ho => ?_, fin, by have := so.cap; have := so.cap'; omega, hs⟩, by rw [e0, e1, e2, e3, e4, e5]; rfl⟩
    · obtain ⟨b, of', cs, h1, h2, h3, h4, _⟩ := so.at_ k o hk
      subst h4
      exact ⟨b, of', h1, h3 0 (by omega), h3 1 (by omega)⟩
    · obtain ⟨k, hk⟩ := List.mem_iff_getElem?.1 ho
      obtain ⟨b, of', cs, h1, h2, h3, h4, h5⟩ := so.at_ k o hk
      exact h5
/-- Acts, as they were read. -/
def ActsIn (A : Option Addr) (l : List Dn) (W : World) : Prop := Slc (fun b => W.heap[b]?) 43 (fun cs d => cs = dcells d ∧ d.Ok W) A l.length l.length l
theorem Arg.dones {v : Value} (a : Arg enc Tryd.prog W 68 v) : ∃ (A : Option Addr) (c : Nat) (l : List Dn), v = .slice A l.length c ∧ l.length ≤ maxLen ∧ (∀ i d, l[i]? = some d → d.Ok W ∧ ∃ b off, A = some (⟨b, off, none⟩ : Addr) ∧ ∀ j, j < 43 → roCell (fun b => W.heap[b]?) ⟨b, off + i * 43 + j, none⟩ = (dcells d)[j]?) := by
  obtain ⟨A, n, c, l, rfl, hs⟩ := a.slice (α := Dn) (Q := fun cs d => cs = dcells d ∧ d.Ok W) (size := 43) Tryd.underlying68 (by kernel_rfl) (by omega) (fun cs h => cel_done h)
  have hn := hs.len
  subst hn
  refine ⟨A, c, l, rfl, Nat.le_trans hs.cap hs.cap', fun i d hi => ?_⟩
  obtain ⟨b, off, cs, h1, h2, h3, h4, h5⟩ := hs.at_ i d hi
  subst h4
  exact ⟨h5, b, off, h1, h3⟩
end
end Go.Proofs.YtnhlpiomfljlcaaDoor
