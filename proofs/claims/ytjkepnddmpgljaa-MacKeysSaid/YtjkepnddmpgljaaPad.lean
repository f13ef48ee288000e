/- mac: padded. -/
import Derived.Test.YtjkepnddmpgljaaMacEq
namespace Go.Proofs.Ytjkepnddmpgljaa
set_option linter.unusedVariables false
set_option linter.unusedSimpArgs false
open Go.RowKit

/-- The key as it is padded. -/
def keyOf (key : List UInt8) : List UInt8 := if 64 < key.length then hashOf key else key
theorem keyOf_len (key : List UInt8) : (keyOf key).length ≤ 64 := by
  unfold keyOf
  split
  · rw [hashOf_len]; omega
  · omega
/-- A key of at most 64 bytes, with noughts behind it. -/
def key64 (k : List UInt8) : List UInt8 := k ++ List.replicate (64 - k.length) 0
def padOf (k : List UInt8) (b : UInt8) : List UInt8 := (key64 k).map (· ^^^ b)
theorem key64_len (k : List UInt8) (h : k.length ≤ 64) : (key64 k).length = 64 := by simp [key64]; omega
theorem padOf_len (k : List UInt8) (b : UInt8) (h : k.length ≤ 64) : (padOf k b).length = 64 := by simp [padOf, key64_len k h]
/-- The pad as it is being turned. -/
def padTo (k : List UInt8) (b : UInt8) (i : Nat) : List UInt8 := ((key64 k).take i).map (· ^^^ b) ++ (key64 k).drop i
theorem padTo_zero (k : List UInt8) (b : UInt8) : padTo k b 0 = key64 k := by simp [padTo]
theorem padTo_all (k : List UInt8) (b : UInt8) (h : k.length ≤ 64) : padTo k b 64 = padOf k b := by
  have := key64_len k h
  unfold padTo padOf
  rw [List.take_of_length_le (by omega), List.drop_eq_nil_of_le (by omega), List.append_nil]
theorem padTo_len (k : List UInt8) (b : UInt8) (i : Nat) (h : k.length ≤ 64) : (padTo k b i).length = 64 := by
  have := key64_len k h
  simp [padTo]; omega
theorem padTo_get (k : List UInt8) (b : UInt8) (i : Nat) (h : k.length ≤ 64) (hi : i < 64) : (padTo k b i).getD i 0 = (key64 k).getD i 0 := by
  have hl := key64_len k h
  unfold padTo
  rw [List.getD_eq_getElem?_getD, List.getD_eq_getElem?_getD, List.getElem?_append_right (by simp; omega), List.getElem?_drop]
  congr 2
  simp; omega
theorem padTo_next (k : List UInt8) (b : UInt8) (i : Nat) (h : k.length ≤ 64) (hi : i < 64) : (bcells (padTo k b i)).setIfInBounds i (.int .u8 (((key64 k).getD i 0 ^^^ b).toNat : Int)) = bcells (padTo k b (i + 1)) := by
  have hl := key64_len k h
  unfold bcells padTo
  apply Array.toList_inj.1
  rw [Array.toList_setIfInBounds]
  simp only []
  have e1 : (key64 k).drop i = (key64 k).getD i 0 :: (key64 k).drop (i + 1) := by
    rw [List.drop_eq_getElem_cons (by omega), List.getD_eq_getElem?_getD, List.getElem?_eq_getElem (by omega)]
    rfl
  have e2 : (key64 k).take (i + 1) = (key64 k).take i ++ [(key64 k).getD i 0] := by
    rw [List.take_add_one, List.getElem?_eq_getElem (by omega), List.getD_eq_getElem?_getD, List.getElem?_eq_getElem (by omega)]
    rfl
  rw [e1, e2]
  simp only [List.map_append, List.map_cons, List.map_nil, List.append_assoc, List.cons_append, List.nil_append]
  rw [List.set_append_right _ _ (by simp; omega), show i - (List.map bval (List.map (· ^^^ b) (List.take i (key64 k)))).length = 0 by simp; omega]
  rfl

theorem key64_cells (k : List UInt8) (h : k.length ≤ 64) : ((#[.int .u8 0, .int .u8 0, .int .u8 0, .int .u8 0, .int .u8 0, .int .u8 0, .int .u8 0, .int .u8 0, .int .u8 0, .int .u8 0, .int .u8 0, .int .u8 0, .int .u8 0, .int .u8 0, .int .u8 0, .int .u8 0, .int .u8 0, .int .u8 0, .int .u8 0, .int .u8 0, .int .u8 0, .int .u8 0, .int .u8 0, .int .u8 0, .int .u8 0, .int .u8 0, .int .u8 0, .int .u8 0, .int .u8 0, .int .u8 0, .int .u8 0, .int .u8 0, .int .u8 0, .int .u8 0, .int .u8 0, .int .u8 0, .int .u8 0, .int .u8 0, .int .u8 0, .int .u8 0, .int .u8 0, .int .u8 0, .int .u8 0, .int .u8 0, .int .u8 0, .int .u8 0, .int .u8 0, .int .u8 0, .int .u8 0, .int .u8 0, .int .u8 0, .int .u8 0, .int .u8 0, .int .u8 0, .int .u8 0, .int .u8 0, .int .u8 0, .int .u8 0, .int .u8 0, .int .u8 0, .int .u8 0, .int .u8 0, .int .u8 0, .int .u8 0] : Array Value).toList.take 0 ++ ((k.map bval).take k.length ++ (#[.int .u8 0, .int .u8 0, .int .u8 0, .int .u8 0, .int .u8 0, .int .u8 0, .int .u8 0, .int .u8 0, .int .u8 0, .int .u8 0, .int .u8 0, .int .u8 0, .int .u8 0, .int .u8 0, .int .u8 0, .int .u8 0, .int .u8 0, .int .u8 0, .int .u8 0, .int .u8 0, .int .u8 0, .int .u8 0, .int .u8 0, .int .u8 0, .int .u8 0, .int .u8 0, .int .u8 0, .int .u8 0, .int .u8 0, .int .u8 0, .int .u8 0, .int .u8 0, .int .u8 0, .int .u8 0, .int .u8 0, .int .u8 0, .int .u8 0, .int .u8 0, .int .u8 0, .int .u8 0, .int .u8 0, .int .u8 0, .int .u8 0, .int .u8 0, .int .u8 0, .int .u8 0, .int .u8 0, .int .u8 0, .int .u8 0, .int .u8 0, .int .u8 0, .int .u8 0, .int .u8 0, .int .u8 0, .int .u8 0, .int .u8 0, .int .u8 0, .int .u8 0, .int .u8 0, .int .u8 0, .int .u8 0, .int .u8 0, .int .u8 0, .int .u8 0] : Array Value).toList.drop (0 + k.length))).toArray = bcells (key64 k) := by
  have ez : (#[.int .u8 0, .int .u8 0, .int .u8 0, .int .u8 0, .int .u8 0, .int .u8 0, .int .u8 0, .int .u8 0, .int .u8 0, .int .u8 0, .int .u8 0, .int .u8 0, .int .u8 0, .int .u8 0, .int .u8 0, .int .u8 0, .int .u8 0, .int .u8 0, .int .u8 0, .int .u8 0, .int .u8 0, .int .u8 0, .int .u8 0, .int .u8 0, .int .u8 0, .int .u8 0, .int .u8 0, .int .u8 0, .int .u8 0, .int .u8 0, .int .u8 0, .int .u8 0, .int .u8 0, .int .u8 0, .int .u8 0, .int .u8 0, .int .u8 0, .int .u8 0, .int .u8 0, .int .u8 0, .int .u8 0, .int .u8 0, .int .u8 0, .int .u8 0, .int .u8 0, .int .u8 0, .int .u8 0, .int .u8 0, .int .u8 0, .int .u8 0, .int .u8 0, .int .u8 0, .int .u8 0, .int .u8 0, .int .u8 0, .int .u8 0, .int .u8 0, .int .u8 0, .int .u8 0, .int .u8 0, .int .u8 0, .int .u8 0, .int .u8 0, .int .u8 0] : Array Value).toList = List.replicate 64 (bval 0) := by kernel_rfl
  rw [ez]
  unfold bcells key64
  rw [List.take_zero, List.nil_append, Nat.zero_add, List.drop_replicate, List.map_append, List.map_replicate, List.take_of_length_le (by simp)]

/-- Behind 'if len(key) > 64': the key as bytes that turn no more. -/
def PadPost (W : World) (I : Nat → Option Obj) (k : List UInt8) (b : UInt8) (F : List (Nat × Obj)) (e : Ending) (w' : World) : Prop :=
  ∃ g, e = .returned (.slice (some ⟨g, 0, none⟩) 64 64) ∧ St W w' I ((g, .cells (bcells (padOf k b)) 78 (0, 0)) :: F)

theorem slice_arr (b : Nat) (w : World) : (Instr.sliceAt 78 (.pointer (some ⟨b, 0, none⟩)) none none none).run Try.prog w = .ok (.slice (some ⟨b, 0, none⟩) 64 64) w := by kernel_rfl
theorem slice_arr32 (b : Nat) (w : World) : (Instr.sliceAt 26 (.pointer (some ⟨b, 0, none⟩)) none none none).run Try.prog w = .ok (.slice (some ⟨b, 0, none⟩) 32 32) w := by kernel_rfl

set_option maxRecDepth 100000 in
set_option maxHeartbeats 2000000 in
theorem padded_short {W w : World} {I : Nat → Option Obj} {F : List (Nat × Obj)} (p : Part) (b : UInt8) (hp : p.In W I) (hl : p.bs.length ≤ 64) (hst : St W w I F) :
    Calls Try.prog 33 #[.slice p.A p.bs.length p.c, .int .u8 (b.toNat : Int)] w (PadPost W I p.bs b F) := by
  obtain ⟨A, c, k⟩ := p
  simp only at hl ⊢
  have h1 := hst.alloc (.cells #[.int .u8 0, .int .u8 0, .int .u8 0, .int .u8 0, .int .u8 0, .int .u8 0, .int .u8 0, .int .u8 0, .int .u8 0, .int .u8 0, .int .u8 0, .int .u8 0, .int .u8 0, .int .u8 0, .int .u8 0, .int .u8 0, .int .u8 0, .int .u8 0, .int .u8 0, .int .u8 0, .int .u8 0, .int .u8 0, .int .u8 0, .int .u8 0, .int .u8 0, .int .u8 0, .int .u8 0, .int .u8 0, .int .u8 0, .int .u8 0, .int .u8 0, .int .u8 0, .int .u8 0, .int .u8 0, .int .u8 0, .int .u8 0, .int .u8 0, .int .u8 0, .int .u8 0, .int .u8 0, .int .u8 0, .int .u8 0, .int .u8 0, .int .u8 0, .int .u8 0, .int .u8 0, .int .u8 0, .int .u8 0, .int .u8 0, .int .u8 0, .int .u8 0, .int .u8 0, .int .u8 0, .int .u8 0, .int .u8 0, .int .u8 0, .int .u8 0, .int .u8 0, .int .u8 0, .int .u8 0, .int .u8 0, .int .u8 0, .int .u8 0, .int .u8 0] 78)
  have hsrc := hp _ _ h1
  simp only at hsrc
  have hk := key64_cells k hl
  have z0 : padTo k b 0 = key64 k := padTo_zero k b
  have hone : ∀ v ∈ k.map bval, v.oneCell' = true := by
    intro v hv
    obtain ⟨x, _, rfl⟩ := List.mem_map.1 hv
    rfl
  have hli : ¬ (64 : Int) < k.length := by omega
  have HFIT := Lib.hid (show 0 + min k.length 64 ≤ (#[.int .u8 0, .int .u8 0, .int .u8 0, .int .u8 0, .int .u8 0, .int .u8 0, .int .u8 0, .int .u8 0, .int .u8 0, .int .u8 0, .int .u8 0, .int .u8 0, .int .u8 0, .int .u8 0, .int .u8 0, .int .u8 0, .int .u8 0, .int .u8 0, .int .u8 0, .int .u8 0, .int .u8 0, .int .u8 0, .int .u8 0, .int .u8 0, .int .u8 0, .int .u8 0, .int .u8 0, .int .u8 0, .int .u8 0, .int .u8 0, .int .u8 0, .int .u8 0, .int .u8 0, .int .u8 0, .int .u8 0, .int .u8 0, .int .u8 0, .int .u8 0, .int .u8 0, .int .u8 0, .int .u8 0, .int .u8 0, .int .u8 0, .int .u8 0, .int .u8 0, .int .u8 0, .int .u8 0, .int .u8 0, .int .u8 0, .int .u8 0, .int .u8 0, .int .u8 0, .int .u8 0, .int .u8 0, .int .u8 0, .int .u8 0, .int .u8 0, .int .u8 0, .int .u8 0, .int .u8 0, .int .u8 0, .int .u8 0, .int .u8 0, .int .u8 0] : Array Value).size by show 0 + min k.length 64 ≤ 64; omega)
  have HS := Lib.hid hsrc; have HK := Lib.hid hk; have Z0 := Lib.hid z0; have HO := Lib.hid hone; have H1 := Lib.hid h1; have HL := Lib.hid hl
  have sa := slice_arr
  clear hst hsrc hk z0 hone h1 hp hl
  go_enter Try.func33, Try.ntmps33
  go_wp2_with (with_reducible refine wpList_copy_st rfl (.tmp 15) (.tmp 16) 22 22 rfl 5 Try.underlying22 (by kernel_rfl) (g := w.heap.size) (off := 0) (dLen := 64) (dCap := 64) (n := k.length) (sCap := c) (sp := A) rfl rfl H1.out (k.map bval) HS.out HFIT.out HO.out k.length (by have := HL.out; omega) ?_; intro w5 h5; refine Hid.out ?_)
  refine Lib.hid ?_
  rw [HK.out, ← Z0.out] at h5
  clear H1 HS HK Z0 HO sa
  generalize hg : w.heap.size = g at *
  clear hg
  have hl := HL.out
  go_wp2_with fail
  go_loopw [18] (fun i wr => ∃ j : Nat, j ≤ 64 ∧ i = .int .i64 j ∧ St W wr I ((g, .cells (bcells (padTo k b j)) 78 (0, 0)) :: F)) (fun i _ => 64 - (intOf i).toNat)
  case atStart => exact ⟨0, by omega, rfl, h5⟩
  case round =>
    obtain ⟨j, hj, rfl, hst⟩ := hrel
    clear h5
    by_cases hlt : j < 64
    · have q : wr.cell? ⟨g, j, none⟩ = some (.int .u8 (((key64 k).getD j 0).toNat : Int)) := by
        rw [hst.cell (g := g) (cs := bcells (padTo k b j)) (t := 78) (fr := (0, 0)) (by simp), bcells_get _ _ (by rw [padTo_len _ _ _ hl]; exact hlt), padTo_get k b j hl hlt]
      have f := hst.frozen (g := g) (cs := bcells (padTo k b j)) (t := 78) (by simp) j
      have hs : St W (wr.setCell ⟨g, j, none⟩ (.int .u8 (((key64 k).getD j 0 ^^^ b).toNat : Int))) I ((g, .cells (bcells (padTo k b (j + 1))) 78 (0, 0)) :: F) := by
        rw [← padTo_next k b j hl hlt]
        exact St.set (A := []) hst j _
      have bx := u8_xorI ((key64 k).getD j 0) b
      have HSN := Lib.hid hs
      clear hs hst hl
      generalize (key64 k).getD j 0 ^^^ b = z at *
      generalize (key64 k).getD j 0 = x at *
      go_wp2_with fail
      go_roundw
      case rel => exact ⟨j + 1, by omega, by go_num, HSN.out⟩
      case measure => simp [intOf]; omega
    · obtain rfl : j = 64 := by omega
      rw [padTo_all k b hl] at hst
      have sa := slice_arr
      clear hl
      go_wp2_with fail
      go_ret
      exact ⟨g, rfl, hst⟩

set_option maxRecDepth 100000 in
set_option maxHeartbeats 2000000 in
theorem padded_long {W w : World} {I : Nat → Option Obj} {F : List (Nat × Obj)} (p : Part) (b : UInt8) (hp : p.In W I) (hl : 64 < p.bs.length) (hm : p.bs.length ≤ 549755813888) (hst : St W w I F) :
    Calls Try.prog 33 #[.slice p.A p.bs.length p.c, .int .u8 (b.toNat : Int)] w (PadPost W I (hashOf p.bs) b F) := by
  obtain ⟨A, c, bs⟩ := p
  simp only at hl hm ⊢
  have ka := ds_all [⟨A, c, bs⟩] (in_cons hp in_nil) (Digs.nil hst) (n0 := w.heap.size) (n := 1) rfl rfl (by simp [cat]; omega) (by omega)
  rw [show cat [⟨A, c, bs⟩] = bs by simp [cat]] at ka
  simp only [Part.val, List.map_cons, List.map_nil] at ka
  have hkl := hashOf_len bs
  have hHV : HV bs = bcells (hashOf bs) := rfl
  rw [hHV] at ka
  generalize hashOf bs = k at *
  have hl64 : k.length ≤ 64 := by omega
  have hk := key64_cells k hl64
  have z0 : padTo k b 0 = key64 k := padTo_zero k b
  have hone : ∀ v ∈ k.map bval, v.oneCell' = true := by
    intro v hv
    obtain ⟨x, _, rfl⟩ := List.mem_map.1 hv
    rfl
  have zk : (bcells k).size = 32 := by rw [bcells_size, hkl]
  have ik : (Try.prog.info? 26).map (·.size) = some (bcells k).size := by rw [zk]; kernel_rfl
  have fk : 0 + (bcells k).size ≤ (#[.int .u8 0, .int .u8 0, .int .u8 0, .int .u8 0, .int .u8 0, .int .u8 0, .int .u8 0, .int .u8 0, .int .u8 0, .int .u8 0, .int .u8 0, .int .u8 0, .int .u8 0, .int .u8 0, .int .u8 0, .int .u8 0, .int .u8 0, .int .u8 0, .int .u8 0, .int .u8 0, .int .u8 0, .int .u8 0, .int .u8 0, .int .u8 0, .int .u8 0, .int .u8 0, .int .u8 0, .int .u8 0, .int .u8 0, .int .u8 0, .int .u8 0, .int .u8 0] : Array Value).size := by rw [zk]; decide
  have ek : setMany #[.int .u8 0, .int .u8 0, .int .u8 0, .int .u8 0, .int .u8 0, .int .u8 0, .int .u8 0, .int .u8 0, .int .u8 0, .int .u8 0, .int .u8 0, .int .u8 0, .int .u8 0, .int .u8 0, .int .u8 0, .int .u8 0, .int .u8 0, .int .u8 0, .int .u8 0, .int .u8 0, .int .u8 0, .int .u8 0, .int .u8 0, .int .u8 0, .int .u8 0, .int .u8 0, .int .u8 0, .int .u8 0, .int .u8 0, .int .u8 0, .int .u8 0, .int .u8 0] 0 (bcells k).toList = bcells k := by rw [setMany_whole _ _ (by simp [zk])]
  have hli : (64 : Int) < bs.length := by omega
  have HFIT := Lib.hid (show 0 + min 32 64 ≤ (#[.int .u8 0, .int .u8 0, .int .u8 0, .int .u8 0, .int .u8 0, .int .u8 0, .int .u8 0, .int .u8 0, .int .u8 0, .int .u8 0, .int .u8 0, .int .u8 0, .int .u8 0, .int .u8 0, .int .u8 0, .int .u8 0, .int .u8 0, .int .u8 0, .int .u8 0, .int .u8 0, .int .u8 0, .int .u8 0, .int .u8 0, .int .u8 0, .int .u8 0, .int .u8 0, .int .u8 0, .int .u8 0, .int .u8 0, .int .u8 0, .int .u8 0, .int .u8 0, .int .u8 0, .int .u8 0, .int .u8 0, .int .u8 0, .int .u8 0, .int .u8 0, .int .u8 0, .int .u8 0, .int .u8 0, .int .u8 0, .int .u8 0, .int .u8 0, .int .u8 0, .int .u8 0, .int .u8 0, .int .u8 0, .int .u8 0, .int .u8 0, .int .u8 0, .int .u8 0, .int .u8 0, .int .u8 0, .int .u8 0, .int .u8 0, .int .u8 0, .int .u8 0, .int .u8 0, .int .u8 0, .int .u8 0, .int .u8 0, .int .u8 0, .int .u8 0] : Array Value).size by show 0 + min 32 64 ≤ 64; omega)
  have HK := Lib.hid hk; have Z0 := Lib.hid z0; have HO := Lib.hid hone; have HL := Lib.hid hl64; have HKL := Lib.hid hkl; have KA := Lib.hid ka; have IK := Lib.hid ik; have FK := Lib.hid fk; have EK := Lib.hid ek; have OK := Lib.hid (bcells_one k)
  have sa := slice_arr
  have sb := slice_arr32
  clear hst hk z0 hone hp hl hm hkl ka hl64 hHV zk ik fk ek
  go_enter Try.func33, Try.ntmps33
  go_wp2_with fail
  refine KA.out.mono ?_
  rintro e w2 ⟨rfl, h2⟩
  clear KA
  have H3 := Lib.hid (h2.frame.alloc (.cells #[.int .u8 0, .int .u8 0, .int .u8 0, .int .u8 0, .int .u8 0, .int .u8 0, .int .u8 0, .int .u8 0, .int .u8 0, .int .u8 0, .int .u8 0, .int .u8 0, .int .u8 0, .int .u8 0, .int .u8 0, .int .u8 0, .int .u8 0, .int .u8 0, .int .u8 0, .int .u8 0, .int .u8 0, .int .u8 0, .int .u8 0, .int .u8 0, .int .u8 0, .int .u8 0, .int .u8 0, .int .u8 0, .int .u8 0, .int .u8 0, .int .u8 0, .int .u8 0] 26))
  clear h2
  go_wp2_with (with_reducible refine wpList_store_st rfl 26 (.tmp 5) (.tmp 13) rfl (g := w2.heap.size) (off := 0) (bcells k) rfl rfl H3.out FK.out IK.out OK.out ?_; intro w3 h3; refine Hid.out ?_)
  refine Lib.hid ?_
  rw [EK.out] at h3
  clear H3 EK FK IK OK
  generalize w2.heap.size = gh at *
  have h4 := h3.alloc (.cells #[.int .u8 0, .int .u8 0, .int .u8 0, .int .u8 0, .int .u8 0, .int .u8 0, .int .u8 0, .int .u8 0, .int .u8 0, .int .u8 0, .int .u8 0, .int .u8 0, .int .u8 0, .int .u8 0, .int .u8 0, .int .u8 0, .int .u8 0, .int .u8 0, .int .u8 0, .int .u8 0, .int .u8 0, .int .u8 0, .int .u8 0, .int .u8 0, .int .u8 0, .int .u8 0, .int .u8 0, .int .u8 0, .int .u8 0, .int .u8 0, .int .u8 0, .int .u8 0, .int .u8 0, .int .u8 0, .int .u8 0, .int .u8 0, .int .u8 0, .int .u8 0, .int .u8 0, .int .u8 0, .int .u8 0, .int .u8 0, .int .u8 0, .int .u8 0, .int .u8 0, .int .u8 0, .int .u8 0, .int .u8 0, .int .u8 0, .int .u8 0, .int .u8 0, .int .u8 0, .int .u8 0, .int .u8 0, .int .u8 0, .int .u8 0, .int .u8 0, .int .u8 0, .int .u8 0, .int .u8 0, .int .u8 0, .int .u8 0, .int .u8 0, .int .u8 0] 78)
  have hsrc : Src (w3.alloc (.cells #[.int .u8 0, .int .u8 0, .int .u8 0, .int .u8 0, .int .u8 0, .int .u8 0, .int .u8 0, .int .u8 0, .int .u8 0, .int .u8 0, .int .u8 0, .int .u8 0, .int .u8 0, .int .u8 0, .int .u8 0, .int .u8 0, .int .u8 0, .int .u8 0, .int .u8 0, .int .u8 0, .int .u8 0, .int .u8 0, .int .u8 0, .int .u8 0, .int .u8 0, .int .u8 0, .int .u8 0, .int .u8 0, .int .u8 0, .int .u8 0, .int .u8 0, .int .u8 0, .int .u8 0, .int .u8 0, .int .u8 0, .int .u8 0, .int .u8 0, .int .u8 0, .int .u8 0, .int .u8 0, .int .u8 0, .int .u8 0, .int .u8 0, .int .u8 0, .int .u8 0, .int .u8 0, .int .u8 0, .int .u8 0, .int .u8 0, .int .u8 0, .int .u8 0, .int .u8 0, .int .u8 0, .int .u8 0, .int .u8 0, .int .u8 0, .int .u8 0, .int .u8 0, .int .u8 0, .int .u8 0, .int .u8 0, .int .u8 0, .int .u8 0, .int .u8 0] 78)) 1 (some ⟨gh, 0, none⟩) 32 (k.map bval) := by
    refine ⟨by rw [List.length_map, HKL.out], fun j u hj => ⟨_, rfl, ?_⟩⟩
    rw [show (⟨gh, 0, none⟩ : Addr).add j = ⟨gh, j, none⟩ by unfold Addr.add; split <;> simp_all, h4.cell (g := gh) (cs := bcells k) (t := 26) (fr := (0, 0)) (by simp)]
    simpa [bcells] using hj
  have HS := Lib.hid hsrc
  have H1 := Lib.hid h4
  clear h3 h4 hsrc
  go_wp2_with (with_reducible refine wpList_copy_st rfl (.tmp 15) (.tmp 16) 22 22 rfl 5 Try.underlying22 (by kernel_rfl) (g := w3.heap.size) (off := 0) (dLen := 64) (dCap := 64) (n := 32) (sCap := 32) (sp := some ⟨gh, 0, none⟩) rfl rfl H1.out (k.map bval) HS.out HFIT.out HO.out 32 (by decide) ?_; intro w5 h5; refine Hid.out ?_)
  refine Lib.hid ?_
  have hk := HK.out
  rw [HKL.out] at hk
  rw [hk, ← Z0.out] at h5
  clear H1 HS HK Z0 HO sa sb hk
  generalize hg : w3.heap.size = g at *
  clear hg
  have hl := HL.out
  go_wp2_with fail
  go_loopw [18] (fun i wr => ∃ j : Nat, j ≤ 64 ∧ i = .int .i64 j ∧ St W wr I ((g, .cells (bcells (padTo k b j)) 78 (0, 0)) :: (gh, .cells (bcells k) 26 (0, 0)) :: F)) (fun i _ => 64 - (intOf i).toNat)
  case atStart => exact ⟨0, by omega, rfl, h5⟩
  case round =>
    obtain ⟨j, hj, rfl, hst⟩ := hrel
    clear h5
    by_cases hlt : j < 64
    · have q : wr.cell? ⟨g, j, none⟩ = some (.int .u8 (((key64 k).getD j 0).toNat : Int)) := by
        rw [hst.cell (g := g) (cs := bcells (padTo k b j)) (t := 78) (fr := (0, 0)) (by simp), bcells_get _ _ (by rw [padTo_len _ _ _ hl]; exact hlt), padTo_get k b j hl hlt]
      have f := hst.frozen (g := g) (cs := bcells (padTo k b j)) (t := 78) (by simp) j
      have hs : St W (wr.setCell ⟨g, j, none⟩ (.int .u8 (((key64 k).getD j 0 ^^^ b).toNat : Int))) I ((g, .cells (bcells (padTo k b (j + 1))) 78 (0, 0)) :: (gh, .cells (bcells k) 26 (0, 0)) :: F) := by
        rw [← padTo_next k b j hl hlt]
        exact St.set (A := []) hst j _
      have bx := u8_xorI ((key64 k).getD j 0) b
      have HSN := Lib.hid hs
      clear hs hst hl
      generalize (key64 k).getD j 0 ^^^ b = z at *
      generalize (key64 k).getD j 0 = x at *
      go_wp2_with fail
      go_roundw
      case rel => exact ⟨j + 1, by omega, by go_num, HSN.out⟩
      case measure => simp [intOf]; omega
    · obtain rfl : j = 64 := by omega
      rw [padTo_all k b hl] at hst
      have sa := slice_arr
      clear hl
      go_wp2_with fail
      go_ret
      exact ⟨g, rfl, St.mid (A := [_]) (B := [_]) hst⟩

theorem padded_any {W w : World} {I : Nat → Option Obj} {F : List (Nat × Obj)} (p : Part) (b : UInt8) (hp : p.In W I) (hm : p.bs.length ≤ 549755813888) (hst : St W w I F) :
    Calls Try.prog 33 #[.slice p.A p.bs.length p.c, .int .u8 (b.toNat : Int)] w (PadPost W I (keyOf p.bs) b F) := by
  unfold keyOf
  by_cases h : 64 < p.bs.length
  · rw [if_pos h]; exact padded_long p b hp h hm hst
  · rw [if_neg h]; exact padded_short p b hp (by omega) hst
end Go.Proofs.Ytjkepnddmpgljaa
