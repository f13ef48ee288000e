/- mac: Equal, padded. -/
import Derived.Test.YtjkepnddmpgljaaDigs
import Derived.Deep.QuietTactic
import Derived.BigQuiet
import Derived.Laws.BitsAllLaws
namespace Go.Proofs.Ytjkepnddmpgljaa
set_option linter.unusedVariables false
set_option linter.unusedSimpArgs false
open Go.RowKit

/-- Which bits differ among the first k bytes. -/
def dvR (xs ys : List UInt8) : Nat → UInt8
  | 0 => 0
  | k + 1 => dvR xs ys k ||| (xs.getD k 0 ^^^ ys.getD k 0)
theorem u8_or0 (a b : UInt8) : a ||| b = 0 ↔ a = 0 ∧ b = 0 := by
  constructor
  · intro h
    have h2 : a.toBitVec ||| b.toBitVec = 0#8 := by rw [← UInt8.toBitVec_or, h]; rfl
    have h3 := BitVec.or_eq_zero_iff.1 h2
    exact ⟨UInt8.toBitVec_inj.1 h3.1, UInt8.toBitVec_inj.1 h3.2⟩
  · rintro ⟨rfl, rfl⟩; rfl
theorem u8_xor0 (a b : UInt8) : a ^^^ b = 0 ↔ a = b := by
  constructor
  · intro h
    have h2 : a.toBitVec ^^^ b.toBitVec = 0#8 := by rw [← UInt8.toBitVec_xor, h]; rfl
    exact UInt8.toBitVec_inj.1 (BitVec.xor_eq_zero_iff.1 h2)
  · rintro rfl; exact UInt8.toBitVec_inj.1 (BitVec.xor_self)
theorem dvR_zero (xs ys : List UInt8) : ∀ k, dvR xs ys k = 0 ↔ ∀ j, j < k → xs.getD j 0 = ys.getD j 0
  | 0 => by simp [dvR]
  | k + 1 => by
    rw [dvR, u8_or0, dvR_zero xs ys k, u8_xor0]
    constructor
    · rintro ⟨h1, h2⟩ j hj
      by_cases h : j < k
      · exact h1 j h
      · obtain rfl : j = k := by omega
        exact h2
    · exact fun h => ⟨fun j hj => h j (by omega), h k (by omega)⟩
theorem dvR_eq (xs ys : List UInt8) (n : Nat) (hx : xs.length = n) (hy : ys.length = n) : (dvR xs ys n = 0) ↔ xs = ys := by
  rw [dvR_zero]
  constructor
  · intro h
    apply List.ext_getElem (hx.trans hy.symm)
    intro i h1 h2
    have := h i (by omega)
    rwa [List.getD_eq_getElem?_getD, List.getD_eq_getElem?_getD, List.getElem?_eq_getElem h1, List.getElem?_eq_getElem h2] at this
  · rintro rfl _ _; rfl
theorem u8_xorI (a b : UInt8) : bits .xor .u8 (a.toNat : Int) (b.toNat : Int) = ((a ^^^ b).toNat : Int) := by rw [u8_xor_nat _ _ a.toNat_lt b.toNat_lt, UInt8.toNat_xor]
theorem u8_orI (a b : UInt8) : bits .or .u8 (a.toNat : Int) (b.toNat : Int) = ((a ||| b).toNat : Int) := by rw [u8_or_nat _ _ a.toNat_lt b.toNat_lt, UInt8.toNat_or]

set_option maxRecDepth 10000 in
set_option maxHeartbeats 1000000 in
theorem mequal {W w : World} {I : Nat → Option Obj} {F : List (Nat × Obj)} (xs ys : List UInt8) (hx : xs.length = 32) (hy : ys.length = 32) (hst : St W w I F) :
    Calls Try.prog 24 #[.agg (bcells xs), .agg (bcells ys)] w fun e w' => e = .returned (.bool (xs == ys)) ∧ St W w' I F := by
  have h1 := (hst.alloc (.cells (bcells xs) 26)).alloc (.cells (bcells ys) 26)
  rw [World.size_alloc] at h1
  have hc1 : ∀ w', St W w' I ((w.heap.size + 1, .cells (bcells ys) 26 (0, 0)) :: (w.heap.size, .cells (bcells xs) 26 (0, 0)) :: F) → ∀ k, k < 32 → w'.cell? ⟨w.heap.size, k, none⟩ = some (.int .u8 ((xs.getD k 0).toNat : Int)) ∧ w'.cell? ⟨w.heap.size + 1, k, none⟩ = some (.int .u8 ((ys.getD k 0).toNat : Int)) := fun w' h k hk => by
    rw [h.cell (g := w.heap.size) (cs := bcells xs) (t := 26) (fr := (0, 0)) (by simp), h.cell (g := w.heap.size + 1) (cs := bcells ys) (t := 26) (fr := (0, 0)) (by simp)]
    exact ⟨bcells_get xs k (by omega), bcells_get ys k (by omega)⟩
  have hfin := dvR_eq xs ys 32 hx hy
  generalize bcells xs = X at *
  generalize bcells ys = Y at *
  have H1 := Lib.hid h1; have HC := Lib.hid hc1; have HF := Lib.hid hfin
  clear h1 hc1 hfin hst hx hy
  go_enter Try.func24, Try.ntmps24
  go_wp2_with fail
  have h1 := H1.out
  clear H1
  generalize hg : w.heap.size = g at *
  generalize hw1 : (w.alloc (.cells X 26)).alloc (.cells Y 26) = w1 at *
  clear hg hw1
  go_loopw [5, 7] (fun d i wr => ∃ k : Nat, k ≤ 32 ∧ i = .int .i64 k ∧ d = .int .u8 ((dvR xs ys k).toNat : Int) ∧ St W wr I ((g + 1, .cells Y 26 (0, 0)) :: (g, .cells X 26 (0, 0)) :: F)) (fun _ i _ => 32 - (intOf i).toNat)
  case atStart => exact ⟨0, by omega, rfl, rfl, h1⟩
  case round =>
    obtain ⟨k, hk, rfl, rfl, hst⟩ := hrel
    clear h1
    by_cases hlt : k < 32
    · obtain ⟨c1, c2⟩ := HC.out _ hst k hlt
      have e3 : dvR xs ys (k + 1) = dvR xs ys k ||| (xs.getD k 0 ^^^ ys.getD k 0) := rfl
      have b1 := u8_xorI (xs.getD k 0) (ys.getD k 0)
      have b2 := u8_orI (dvR xs ys k) (xs.getD k 0 ^^^ ys.getD k 0)
      rw [← e3] at b2
      have E3 := Lib.hid e3
      have HS := Lib.hid hst
      clear e3 hst
      obtain ⟨d1, hd1⟩ : ∃ d1, d1 = dvR xs ys (k + 1) := ⟨_, rfl⟩
      rw [← hd1] at b2
      have HD1 := Lib.hid hd1
      clear hd1
      generalize dvR xs ys k = d0 at *
      generalize xs.getD k 0 ^^^ ys.getD k 0 = z at *
      generalize xs.getD k 0 = x at *
      generalize ys.getD k 0 = y at *
      have kk : (k : Int) < 32 := by omega
      go_wp2_with fail
      go_quiet (fail)
      clear b1 b2
      go_wp2_with fail
      go_roundw
      case rel => exact ⟨k + 1, by omega, by go_num, by rw [← HD1.out], HS.out.drew _⟩
      case measure => simp [intOf]; omega
    · obtain rfl : k = 32 := by omega
      have hf := HF.out
      by_cases h0 : xs = ys
      · have hd := hf.2 h0
        rw [hd]
        have e0 : (xs == ys) = true := by simp [h0]
        have E0 := Lib.hid e0
        clear hf hd e0 h0
        go_wp2_with fail
        go_ret
        exact ⟨by rw [E0.out]; rfl, St.weaken (A := [_, _]) hst⟩
      · have hd : ¬ dvR xs ys 32 = 0 := fun h => h0 (hf.1 h)
        have e0 : (xs == ys) = false := by simp [h0]
        have E0 := Lib.hid e0
        have hn : (((dvR xs ys 32).toNat : Int) == 0) = false := by
          rw [beq_eq_false_iff_ne]
          intro h
          exact hd (UInt8.toNat_inj.1 (by simpa using h))
        clear hf hd e0 h0
        generalize ((dvR xs ys 32).toNat : Int) = dd at *
        go_wp2_with fail
        go_ret
        exact ⟨by rw [E0.out]; rfl, St.weaken (A := [_, _]) hst⟩
end Go.Proofs.Ytjkepnddmpgljaa
