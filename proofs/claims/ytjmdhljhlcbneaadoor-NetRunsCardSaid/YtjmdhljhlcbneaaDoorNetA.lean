/- net: faults, pieces, copies. -/
import Derived.Test.YtjmdhljhlcbneaaDoorGlyphC
import Derived.Test.YtjmdhljhlcbneaaDoorMapS
import Derived.Test.YtjmdhljhlcbneaaDoorParts
import Derived.Laws.Cover3
namespace Go.Proofs.YtjmdhljhlcbneaaDoor
set_option linter.unusedVariables false
set_option linter.unusedSimpArgs false
open Go.RowKit

structure Fault where
  kind : Int
  at_ : Int
  v : UInt8
def fcells (f : Fault) : List Value := [.int .i64 f.kind, .int .i64 f.at_, .int .u8 (f.v.toNat : Int)]
def fall (fs : List Fault) : List Value := fs.flatMap fcells
theorem fall_len (fs : List Fault) : (fall fs).length = fs.length * 3 := by
  induction fs with
  | nil => rfl
  | cons f fs ih => simp only [fall, List.flatMap_cons, List.length_append, List.length_cons] at *; rw [ih]; simp [fcells]; omega
theorem fall_one (fs : List Fault) : ∀ u ∈ fall fs, u.oneCell' = true := by
  intro u hu
  obtain ⟨f, _, hf⟩ := List.mem_flatMap.1 hu
  simp [fcells] at hf
  rcases hf with rfl | rfl | rfl <;> rfl
/-- Faults that stand in the memory that turns no more. -/
def FIn (A : Option Addr) (fs : List Fault) (W : World) (I : Nat → Option Obj) : Prop := ∀ w L, St W w I L → Src w 3 A fs.length (fall fs)

theorem run_eql_slice_nil' {P : Program} (t : TypeId) {e : TypeId} (h : P.underlying t = some (.slice e)) (a : Option Addr) (l c : Nat) (w : World) : (binOp .eql t (.slice a l c) (.slice none 0 0)).run P w = .ok (.bool a.isNone) w := by
  simp [binOp, Sem.run_bind, run_equal_slice_nil w t e a l c h, Result.andThen]
theorem Part.In.nil_of_none {p : Part} {W w : World} {I : Nat → Option Obj} {L : List (Nat × Obj)} (h : p.In W I) (hst : St W w I L) (hA : p.A = none) : p.bs = [] := by
  cases hb : p.bs with
  | nil => rfl
  | cons x l =>
    obtain ⟨ad, h1, _⟩ := (h w L hst).2 0 (bval x) (by rw [hb]; rfl)
    rw [hA] at h1; cases h1

/-- Bytes of the call's own. -/
def FreshB (W w : World) (I : Nat → Option Obj) (F : List (Nat × Obj)) (bs : List UInt8) (v : Value) : Prop :=
  ∃ A c L', v = .slice A bs.length c ∧ Row 5 1 (.slice A bs.length c) bs.length (bs.map bval) L' ∧ St W w I (L' ++ F)
theorem FreshB.nil {W w : World} {I : Nat → Option Obj} {F : List (Nat × Obj)} (h : St W w I F) : FreshB W w I F [] (.slice none 0 0) := ⟨none, 0, [], rfl, Row.nil _ _, h⟩

set_option maxRecDepth 100000 in
set_option maxHeartbeats 1000000 in
theorem clone_bytes {W w : World} {I : Nat → Option Obj} {F : List (Nat × Obj)} (p : Part) (hp : p.In W I) (hlen : p.bs.length ≤ 140737488355328) (h : St W w I F) :
    Calls Tryd.prog 22 #[p.val] w fun e w' => ∃ v, e = .returned v ∧ FreshB W w' I F p.bs v := by
  unfold Part.val
  cases hA : p.A with
  | none =>
    have hb := hp.nil_of_none h hA
    rw [hb]
    have H := Lib.hid h
    clear h hp hb hlen
    have hq := fun c => run_eql_slice_nil' (P := Tryd.prog) 22 Tryd.underlying22 none 0 c
    go_enter Tryd.func22, Tryd.ntmps22
    go_wp2_with fail
    go_ret
    exact ⟨_, rfl, FreshB.nil H.out⟩
  | some ad =>
    have h2 := h.alloc (.cells #[] 5)
    have hsrc := hp _ _ h2
    rw [hA] at hsrc
    have hr := Row.empty 5 1 w.heap.size
    have hone : ∀ u ∈ p.bs.map bval, u.oneCell' = true := by intro u hu; obtain ⟨b, _, rfl⟩ := List.mem_map.1 hu; rfl
    have hq := fun l c => run_eql_slice_nil' (P := Tryd.prog) 22 Tryd.underlying22 (some ad) l c
    clear hp h
    go_enter Tryd.func22, Tryd.ntmps22
    go_wp2_with (at_builtin; refine Hid.out ?_)
    refine Lib.hid ?_
    refine wpList_append_row0 (F := F) rfl (.tmp 5) (.tmp 6) 22 rfl 5 (.int .u8 0) 1 1 Tryd.underlying22 (by kernel_rfl) rfl (by omega) rfl hr (by exact h2) rfl (by exact hsrc) hone p.bs.length (by omega) (p.bs.map bval) rfl (by unfold maxLen; omega) (by omega) ?_
    intro A1 c1 w2 L1 hr1 h3 ho
    have H3 := Lib.hid h3; have HR := Lib.hid hr1
    clear h3 hr1 ho h2 hsrc hr hone
    go_wp2_with fail
    go_ret
    exact ⟨_, rfl, _, _, _, rfl, HR.out, H3.out⟩

set_option maxRecDepth 100000 in
set_option maxHeartbeats 1000000 in
theorem clone_faults {W w : World} {I : Nat → Option Obj} {F : List (Nat × Obj)} (A : Option Addr) (c : Nat) (fs : List Fault) (hp : FIn A fs W I) (hlen : fs.length ≤ 1000000) (h : St W w I F) :
    Calls Tryd.prog 19 #[.slice A fs.length c] w fun e w' => ∃ A' c' L', e = .returned (.slice A' fs.length c') ∧ Row 36 3 (.slice A' fs.length c') fs.length (fall fs) L' ∧ St W w' I (L' ++ F) := by
  cases hA : A with
  | none =>
    have hb : fs = [] := by
      cases hb : fs with
      | nil => rfl
      | cons x l =>
        obtain ⟨ad, h1, _⟩ := (hp w F h).2 0 _ (by rw [hb]; rfl)
        rw [hA] at h1; cases h1
    subst hb
    have H := Lib.hid h
    have hq := fun c => run_eql_slice_nil' (P := Tryd.prog) 33 Tryd.underlying33 none 0 c
    clear h hp hlen
    go_enter Tryd.func19, Tryd.ntmps19
    go_wp2_with fail
    go_ret
    exact ⟨none, 0, [], rfl, Row.nil _ _, H.out⟩
  | some ad =>
    have h2 := h.alloc (.cells #[] 36)
    have hsrc := hp _ _ h2
    rw [hA] at hsrc
    have hr := Row.empty 36 3 w.heap.size
    have hone := fall_one fs
    have hq := fun l c => run_eql_slice_nil' (P := Tryd.prog) 33 Tryd.underlying33 (some ad) l c
    clear hp h
    go_enter Tryd.func19, Tryd.ntmps19
    go_wp2_with (at_builtin; refine Hid.out ?_)
    refine Lib.hid ?_
    refine wpList_append_row0 (F := F) rfl (.tmp 5) (.tmp 6) 33 rfl 36 (.agg #[.int .i64 0, .int .i64 0, .int .u8 0]) 3 24 Tryd.underlying33 (by kernel_rfl) rfl (by omega) rfl hr (by exact h2) rfl (by exact hsrc) hone fs.length (by omega) (fall fs) rfl (by unfold maxLen; omega) (by omega) ?_
    intro A1 c1 w2 L1 hr1 h3 ho
    have H3 := Lib.hid h3; have HR := Lib.hid hr1
    clear h3 hr1 ho h2 hsrc hr hone
    go_wp2_with fail
    go_ret
    exact ⟨_, _, _, rfl, HR.out, H3.out⟩

/-- Some bytes from a place on. -/
def piece (bs : List UInt8) (a m : Int) : List UInt8 := if a < 0 ∨ (bs.length : Int) ≤ a ∨ m < 1 then [] else (bs.drop a.toNat).take m.toNat

structure POk (p : Part) (W : World) (I : Nat → Option Obj) : Prop where
  in_ : p.In W I
  le : p.bs.length ≤ p.c
  cap : p.c ≤ maxLen
  len : p.bs.length ≤ 1000000000

set_option maxRecDepth 100000 in
set_option maxHeartbeats 2000000 in
theorem net_slice {W w : World} {I : Nat → Option Obj} {F : List (Nat × Obj)} (p : Part) (hp : POk p W I) (a m : Int) (h : St W w I F) :
    Calls Tryd.prog 24 #[p.val, .int .i64 a, .int .i64 m] w fun e w' => ∃ v, e = .returned v ∧ FreshB W w' I F (piece p.bs a m) v := by
  unfold Part.val
  by_cases hbad : a < 0 ∨ (p.bs.length : Int) ≤ a ∨ m < 1
  · have he : piece p.bs a m = [] := by rw [piece, if_pos hbad]
    rw [he]
    have H := Lib.hid h
    clear h hp he
    go_enter Tryd.func24, Tryd.ntmps24
    rcases hbad with h1 | h1 | h1
    · go_wp2_with fail
      go_ret
      exact ⟨_, rfl, FreshB.nil H.out⟩
    · by_cases h0 : a < 0
      · go_wp2_with fail
        go_ret
        exact ⟨_, rfl, FreshB.nil H.out⟩
      · go_wp2_with fail
        go_ret
        exact ⟨_, rfl, FreshB.nil H.out⟩
    · by_cases h0 : a < 0
      · go_wp2_with fail
        go_ret
        exact ⟨_, rfl, FreshB.nil H.out⟩
      · by_cases h2 : (p.bs.length : Int) ≤ a
        · go_wp2_with fail
          go_ret
          exact ⟨_, rfl, FreshB.nil H.out⟩
        · go_wp2_with fail
          go_ret
          exact ⟨_, rfl, FreshB.nil H.out⟩
  · have he : piece p.bs a m = (p.bs.drop a.toNat).take m.toNat := by rw [piece, if_neg hbad]
    obtain ⟨k, rfl⟩ := Int.eq_ofNat_of_zero_le (by omega : 0 ≤ a)
    obtain ⟨j, rfl⟩ := Int.eq_ofNat_of_zero_le (by omega : 0 ≤ m)
    simp only [Int.ofNat_eq_natCast, Int.toNat_natCast] at *
    have hk : k < p.bs.length := by omega
    have hj : 1 ≤ j := by omega
    have hcap := hp.cap
    have hle := hp.le
    have hl9 := hp.len
    unfold maxLen at hcap
    have e1 := run_slice_from (P := Tryd.prog) Tryd.underlying22 (fun w => by simp [Tryd.sizeOf5 w]) p.A p.bs.length p.c k (by omega) hle
    have hmn : min (j : Int) ((p.bs.length - k : Nat) : Int) = ((min j (p.bs.length - k) : Nat) : Int) := by omega
    have e2 := run_slice_to (P := Tryd.prog) (t := 22) Tryd.underlying22 (fun w => by simp [Tryd.sizeOf5 w]) (subA p.A p.c k) (p.bs.length - k) (p.c - k) (min j (p.bs.length - k)) (by omega)
    have hpl : (piece p.bs k j).length = min j (p.bs.length - k) := by rw [he, List.length_take, List.length_drop]
    have hin : Part.In ⟨subA p.A p.c k, p.c - k, piece p.bs k j⟩ W I := by
      rw [he]
      exact Part.In_take (c := p.c - k) _ j (Part.In_drop (c := p.c) _ k hle hp.in_)
    have cC := fun (v : World) (hv : St W v I F) => clone_bytes ⟨subA p.A p.c k, p.c - k, piece p.bs k j⟩ hin (by show (piece p.bs k j).length ≤ _; omega) hv
    simp only [Part.val, hpl] at cC
    have CC := Lib.hid cC; have H := Lib.hid h
    generalize piece p.bs k j = pc at *
    clear cC h hin hpl he hp hbad
    go_enter Tryd.func24, Tryd.ntmps24
    go_wp2_with fail
    refine (CC.out _ H.out).mono ?_
    rintro e w1 ⟨v, rfl, h1⟩
    have H1 := Lib.hid h1
    clear h1 CC H
    go_wp2_with fail
    go_ret
    exact ⟨_, rfl, H1.out⟩
end Go.Proofs.YtjmdhljhlcbneaaDoor
