/- The document's decoder, in plain Lean. The document's decoder: the walk. -/
import Derived.Test.YtnhlpiomfljlcaaDoorGlyPA
import Derived.Test.YtnhlpiomfljlcaaDoorNtA
namespace Go.Proofs.YtnhlpiomfljlcaaDoor
section
set_option linter.unusedVariables false
set_option linter.unusedSimpArgs false
open Go.RowKit Go.Lib

/-- What the document's decoder finds at a text's head: the number, how many bytes, whether it is a byte that is none. -/
def refOne (t : ByteArray) : Nat × Nat × Bool := if brokenAt t 0 then ((t.get! 0).toNat, 1, true) else ((Utf8.decode t 0).1, (Utf8.decode t 0).2, false)
def contB (c : Nat) : Prop := 128 ≤ c ∧ c ≤ 191
def Kd (a sz base least : Nat) : Prop := (194 ≤ a ∧ a < 224 ∧ sz = 2 ∧ base = 192 ∧ least = 128) ∨ (224 ≤ a ∧ a < 240 ∧ sz = 3 ∧ base = 224 ∧ least = 2048) ∨ (240 ≤ a ∧ a < 245 ∧ sz = 4 ∧ base = 240 ∧ least = 65536)
def accV (t : ByteArray) (base : Nat) : Nat → Nat
  | 0 => 0
  | 1 => (t.get! 0).toNat - base
  | i + 2 => 64 * accV t base (i + 1) + (t.get! (i + 1)).toNat - 128

theorem pairEq {a b c d : Nat} (h : a = c) (k : b = d) : (a, b) = (c, d) := by rw [h, k]
theorem fin2_bad (n a b c d : Nat) (k1 : 194 ≤ a) (k2 : a < 224) (hn : 2 ≤ n) (cb : 128 ≤ b ∧ b ≤ 191) (h : 64 * (a - 192) + b - 128 < 128 ∨ 1114111 < 64 * (a - 192) + b - 128 ∨ (55296 ≤ 64 * (a - 192) + b - 128 ∧ 64 * (a - 192) + b - 128 ≤ 57343)) : decodeN n a b c d = (65533, 1) := by
  unfold decodeN
  repeat' split
  all_goals first | (exfalso; omega) | exact pairEq (by omega) (by omega)
theorem fin2_good (n a b c d : Nat) (k1 : 194 ≤ a) (k2 : a < 224) (hn : 2 ≤ n) (cb : 128 ≤ b ∧ b ≤ 191) (h : ¬ (64 * (a - 192) + b - 128 < 128 ∨ 1114111 < 64 * (a - 192) + b - 128 ∨ (55296 ≤ 64 * (a - 192) + b - 128 ∧ 64 * (a - 192) + b - 128 ≤ 57343))) : decodeN n a b c d = (64 * (a - 192) + b - 128, 2) := by
  unfold decodeN
  repeat' split
  all_goals first | (exfalso; omega) | exact pairEq (by omega) (by omega)
theorem fin3_bad (n a b c d : Nat) (k1 : 224 ≤ a) (k2 : a < 240) (hn : 3 ≤ n) (cb : 128 ≤ b ∧ b ≤ 191) (cc : 128 ≤ c ∧ c ≤ 191) (h : 64 * (64 * (a - 224) + b - 128) + c - 128 < 2048 ∨ 1114111 < 64 * (64 * (a - 224) + b - 128) + c - 128 ∨ (55296 ≤ 64 * (64 * (a - 224) + b - 128) + c - 128 ∧ 64 * (64 * (a - 224) + b - 128) + c - 128 ≤ 57343)) : decodeN n a b c d = (65533, 1) := by
  unfold decodeN
  repeat' split
  all_goals first | (exfalso; omega) | exact pairEq (by omega) (by omega)
theorem fin3_good (n a b c d : Nat) (k1 : 224 ≤ a) (k2 : a < 240) (hn : 3 ≤ n) (cb : 128 ≤ b ∧ b ≤ 191) (cc : 128 ≤ c ∧ c ≤ 191) (h : ¬ (64 * (64 * (a - 224) + b - 128) + c - 128 < 2048 ∨ 1114111 < 64 * (64 * (a - 224) + b - 128) + c - 128 ∨ (55296 ≤ 64 * (64 * (a - 224) + b - 128) + c - 128 ∧ 64 * (64 * (a - 224) + b - 128) + c - 128 ≤ 57343))) : decodeN n a b c d = (64 * (64 * (a - 224) + b - 128) + c - 128, 3) := by
  unfold decodeN
  repeat' split
  all_goals first | (exfalso; omega) | exact pairEq (by omega) (by omega)
theorem fin4_bad (n a b c d : Nat) (k1 : 240 ≤ a) (k2 : a < 245) (hn : 4 ≤ n) (cb : 128 ≤ b ∧ b ≤ 191) (cc : 128 ≤ c ∧ c ≤ 191) (cd : 128 ≤ d ∧ d ≤ 191) (h : 64 * (64 * (64 * (a - 240) + b - 128) + c - 128) + d - 128 < 65536 ∨ 1114111 < 64 * (64 * (64 * (a - 240) + b - 128) + c - 128) + d - 128 ∨ (55296 ≤ 64 * (64 * (64 * (a - 240) + b - 128) + c - 128) + d - 128 ∧ 64 * (64 * (64 * (a - 240) + b - 128) + c - 128) + d - 128 ≤ 57343)) : decodeN n a b c d = (65533, 1) := by
  unfold decodeN
  repeat' split
  all_goals first | (exfalso; omega) | exact pairEq (by omega) (by omega)
theorem fin4_good (n a b c d : Nat) (k1 : 240 ≤ a) (k2 : a < 245) (hn : 4 ≤ n) (cb : 128 ≤ b ∧ b ≤ 191) (cc : 128 ≤ c ∧ c ≤ 191) (cd : 128 ≤ d ∧ d ≤ 191) (h : ¬ (64 * (64 * (64 * (a - 240) + b - 128) + c - 128) + d - 128 < 65536 ∨ 1114111 < 64 * (64 * (64 * (a - 240) + b - 128) + c - 128) + d - 128 ∨ (55296 ≤ 64 * (64 * (64 * (a - 240) + b - 128) + c - 128) + d - 128 ∧ 64 * (64 * (64 * (a - 240) + b - 128) + c - 128) + d - 128 ≤ 57343))) : decodeN n a b c d = (64 * (64 * (64 * (a - 240) + b - 128) + c - 128) + d - 128, 4) := by
  unfold decodeN
  repeat' split
  all_goals first | (exfalso; omega) | exact pairEq (by omega) (by omega)
section
variable {t : ByteArray} {a sz base least : Nat}
theorem one_raw (t : ByteArray) : refOne t = (if (decodeN t.size (t.get! 0).toNat (t.get! 1).toNat (t.get! 2).toNat (t.get! 3).toNat).1 = 65533 ∧ (decodeN t.size (t.get! 0).toNat (t.get! 1).toNat (t.get! 2).toNat (t.get! 3).toNat).2 = 1 then ((t.get! 0).toNat, 1, true)
    else ((decodeN t.size (t.get! 0).toNat (t.get! 1).toNat (t.get! 2).toNat (t.get! 3).toNat).1, (decodeN t.size (t.get! 0).toNat (t.get! 1).toNat (t.get! 2).toNat (t.get! 3).toNat).2, false)) := by
  unfold refOne brokenAt
  rw [decode_at]
  simp only [Nat.sub_zero, Nat.zero_add, Bool.and_eq_true, beq_iff_eq]
theorem one_ascii (h : (t.get! 0).toNat < 128) : refOne t = ((t.get! 0).toNat, 1, false) := by
  rw [one_raw]
  have e : decodeN t.size (t.get! 0).toNat (t.get! 1).toNat (t.get! 2).toNat (t.get! 3).toNat = ((t.get! 0).toNat, 1) := by unfold decodeN; rw [if_pos h]
  rw [e, if_neg (by simp only []; omega)]
theorem one_of_bad (h : decodeN t.size (t.get! 0).toNat (t.get! 1).toNat (t.get! 2).toNat (t.get! 3).toNat = (65533, 1)) : refOne t = ((t.get! 0).toNat, 1, true) := by
  rw [one_raw, h, if_pos ⟨rfl, rfl⟩]
theorem one_of_good {v w : Nat} (h : decodeN t.size (t.get! 0).toNat (t.get! 1).toNat (t.get! 2).toNat (t.get! 3).toNat = (v, w)) (hw : w ≠ 1) : refOne t = (v, w, false) := by
  rw [one_raw, h, if_neg (by simp only []; omega)]
theorem one_out (h : 128 ≤ (t.get! 0).toNat) (h2 : (t.get! 0).toNat < 194 ∨ 245 ≤ (t.get! 0).toNat) : refOne t = ((t.get! 0).toNat, 1, true) := by
  apply one_of_bad
  have h0 := (t.get! 0).toNat_lt
  generalize (t.get! 0).toNat = a at *
  generalize (t.get! 1).toNat = b at *
  generalize (t.get! 2).toNat = c at *
  generalize (t.get! 3).toNat = d at *
  unfold decodeN
  repeat' split
  all_goals first | (exfalso; omega) | exact pairEq (by omega) (by omega)
theorem one_short (hK : Kd (t.get! 0).toNat sz base least) (h : t.size < sz) : refOne t = ((t.get! 0).toNat, 1, true) := by
  apply one_of_bad
  generalize (t.get! 0).toNat = a at *
  generalize (t.get! 1).toNat = b at *
  generalize (t.get! 2).toNat = c at *
  generalize (t.get! 3).toNat = d at *
  generalize t.size = n at *
  rcases hK with ⟨_, _, rfl, rfl, rfl⟩ | ⟨_, _, rfl, rfl, rfl⟩ | ⟨_, _, rfl, rfl, rfl⟩
  all_goals
    unfold decodeN
    repeat' split
    all_goals first | (exfalso; omega) | exact pairEq (by omega) (by omega)
set_option maxRecDepth 100000 in
theorem one_cont (hK : Kd (t.get! 0).toNat sz base least) (j : Nat) (h1 : 1 ≤ j) (h2 : j < sz) (h3 : ¬ contB (t.get! j).toNat) : refOne t = ((t.get! 0).toNat, 1, true) := by
  apply one_of_bad
  have hb1 := (t.get! 1).toNat_lt
  have hb2 := (t.get! 2).toNat_lt
  have hb3 := (t.get! 3).toNat_lt
  have hj : j = 1 ∨ j = 2 ∨ j = 3 := by rcases hK with ⟨_, _, rfl, _⟩ | ⟨_, _, rfl, _⟩ | ⟨_, _, rfl, _⟩ <;> omega
  have h4 : (j = 1 ∧ ¬ contB (t.get! 1).toNat) ∨ (j = 2 ∧ ¬ contB (t.get! 2).toNat) ∨ (j = 3 ∧ ¬ contB (t.get! 3).toNat) := by
    rcases hj with hj | hj | hj
    · subst hj; exact .inl ⟨rfl, h3⟩
    · subst hj; exact .inr (.inl ⟨rfl, h3⟩)
    · subst hj; exact .inr (.inr ⟨rfl, h3⟩)
  clear h3 hj
  unfold contB at h4
  generalize t.size = n at *
  generalize (t.get! 0).toNat = a at *
  generalize (t.get! 1).toNat = b at *
  generalize (t.get! 2).toNat = c at *
  generalize (t.get! 3).toNat = d at *
  rcases hK with ⟨_, _, rfl, rfl, rfl⟩ | ⟨_, _, rfl, rfl, rfl⟩ | ⟨_, _, rfl, rfl, rfl⟩
  all_goals
    unfold decodeN
    repeat' split
    all_goals first | (exfalso; omega) | exact pairEq (by omega) (by omega)
set_option maxRecDepth 100000 in
theorem one_fin (hK : Kd (t.get! 0).toNat sz base least) (hn : sz ≤ t.size) (hc : ∀ j, 1 ≤ j → j < sz → contB (t.get! j).toNat) :
    (accV t base sz < least ∨ 1114111 < accV t base sz ∨ (55296 ≤ accV t base sz ∧ accV t base sz ≤ 57343) → refOne t = ((t.get! 0).toNat, 1, true)) ∧
    (¬ (accV t base sz < least ∨ 1114111 < accV t base sz ∨ (55296 ≤ accV t base sz ∧ accV t base sz ≤ 57343)) → refOne t = (accV t base sz, sz, false)) := by
  rcases hK with ⟨k1, k2, rfl, rfl, rfl⟩ | ⟨k1, k2, rfl, rfl, rfl⟩ | ⟨k1, k2, rfl, rfl, rfl⟩
  · have c1 := hc 1 (by omega) (by omega)
    exact ⟨fun h => one_of_bad (fin2_bad _ _ _ _ _ k1 k2 hn c1 h), fun h => one_of_good (fin2_good _ _ _ _ _ k1 k2 hn c1 h) (by omega)⟩
  · have c1 := hc 1 (by omega) (by omega)
    have c2 := hc 2 (by omega) (by omega)
    exact ⟨fun h => one_of_bad (fin3_bad _ _ _ _ _ k1 k2 hn c1 c2 h), fun h => one_of_good (fin3_good _ _ _ _ _ k1 k2 hn c1 c2 h) (by omega)⟩
  · have c1 := hc 1 (by omega) (by omega)
    have c2 := hc 2 (by omega) (by omega)
    have c3 := hc 3 (by omega) (by omega)
    exact ⟨fun h => one_of_bad (fin4_bad _ _ _ _ _ k1 k2 hn c1 c2 c3 h), fun h => one_of_good (fin4_good _ _ _ _ _ k1 k2 hn c1 c2 c3 h) (by omega)⟩
end
end

section
set_option linter.unusedVariables false
set_option linter.unusedSimpArgs false
open Go.RowKit Go.Lib

def rcells3 (n : Nat) (b : ByteArray) (br : Bool) : Array Value := #[.int .i64 n, .string b, .bool br]

theorem accV_le3 (t : ByteArray) (base : Nat) (h : (t.get! 0).toNat - base ≤ 31) : ∀ k, 1 ≤ k → k ≤ 3 → accV t base k ≤ 135231 := by
  have h1 := (t.get! 1).toNat_lt
  have h2 := (t.get! 2).toNat_lt
  have e1 : accV t base 1 = (t.get! 0).toNat - base := rfl
  have e2 : accV t base 2 = 64 * accV t base 1 + (t.get! 1).toNat - 128 := rfl
  have e3 : accV t base 3 = 64 * accV t base 2 + (t.get! 2).toNat - 128 := rfl
  intro k a b
  have hk : k = 1 ∨ k = 2 ∨ k = 3 := by omega
  rcases hk with rfl | rfl | rfl <;> omega
theorem accV_le (t : ByteArray) (base : Nat) (h : (t.get! 0).toNat - base ≤ 31) (k : Nat) (a : 1 ≤ k) (b : k ≤ 4) : accV t base k ≤ 8654911 := by
  by_cases hk : k ≤ 3
  · have := accV_le3 t base h k a hk; omega
  · obtain rfl : k = 4 := by omega
    have h3 := (t.get! 3).toNat_lt
    have e4 : accV t base 4 = 64 * accV t base 3 + (t.get! 3).toNat - 128 := rfl
    have := accV_le3 t base h 3 (by omega) (by omega)
    omega

/-- The two blocks that the decoder makes. -/
def oneW (w : World) (r b : Array Value) : World := (w.alloc (.cells r 151)).alloc (.cells b 151)
theorem oneW_heap (w : World) (r b : Array Value) : (oneW w r b).heap[w.heap.size]? = some (.cells r 151 (0, 0)) := by
  unfold oneW
  rw [Below.heap_alloc _ _ _ (by simp)]
  exact heap_alloc_new w _
theorem one_ret {W w : World} {I : Nat → Option Obj} {L : List (Nat × Obj)} (h : St W w I L) (r b : Array Value) : St W (oneW w r b) I L := (h.alloc_ _).alloc_ _

set_option maxRecDepth 100000 in
set_option maxHeartbeats 4000000 in
theorem one_a {W w : World} {I : Nat → Option Obj} {L : List (Nat × Obj)} (t : ByteArray) (hz : 0 < t.size) (hm : t.size ≤ 140737488355328) (h1 : (t.get! 0).toNat < 128) (h : St W w I L) :
    Calls Tryd.prog 82 #[.string t] w fun e w' => e = .returned (.agg #[.int .i64 (refOne t).1, .string (t.extract 0 (refOne t).2.1), .bool (refOne t).2.2]) ∧ St W w' I L := by
  have hz1 : (1 : Int) ≤ (t.size : Int) := by omega
  have ha := (t.get! 0).toNat_lt
  have hA : (t[0]'hz).toNat = (t.get! 0).toNat := by rw [get_lt t 0 hz]
  have hR := one_ascii h1
  rw [hR]
  obtain ⟨a, haa⟩ : ∃ a, (t.get! 0).toNat = a := ⟨_, rfl⟩
  rw [haa] at h1 ha hA ⊢
  have h1' : (a : Int) < 128 := by omega
  have h2' : (a : Int) < 256 := by omega
  have h3' : (0 : Int) ≤ a := by omega
  have H := Lib.hid h
  clear h hR haa
  go_enter Tryd.func82, Tryd.ntmps82
  go_wp2_with fail
  refine bodyPost_ret (results_row rfl _ _ w.heap.size 151 #[.int .i64 a, .string (t.extract 0 1), .bool false] (0, 0) _ rfl (oneW_heap _ _ _) Tryd.underlying151 (by kernel_rfl) (by kernel_rfl)) rfl ?_
  exact ⟨rfl, one_ret H.out _ _⟩

set_option maxRecDepth 100000 in
set_option maxHeartbeats 4000000 in
theorem one_o {W w : World} {I : Nat → Option Obj} {L : List (Nat × Obj)} (t : ByteArray) (hz : 0 < t.size) (hm : t.size ≤ 140737488355328) (h1 : 128 ≤ (t.get! 0).toNat) (h2 : (t.get! 0).toNat < 194 ∨ 245 ≤ (t.get! 0).toNat) (h : St W w I L) :
    Calls Tryd.prog 82 #[.string t] w fun e w' => e = .returned (.agg #[.int .i64 (refOne t).1, .string (t.extract 0 (refOne t).2.1), .bool (refOne t).2.2]) ∧ St W w' I L := by
  have hz1 : (1 : Int) ≤ (t.size : Int) := by omega
  have ha := (t.get! 0).toNat_lt
  have hA : (t[0]'hz).toNat = (t.get! 0).toNat := by rw [get_lt t 0 hz]
  have hR := one_out h1 h2
  rw [hR]
  obtain ⟨a, haa⟩ : ∃ a, (t.get! 0).toNat = a := ⟨_, rfl⟩
  rw [haa] at h1 h2 ha hA ⊢
  have h1' : ¬ (a : Int) < 128 := by omega
  have h2' : (a : Int) < 256 := by omega
  have h3' : (0 : Int) ≤ a := by omega
  have H := Lib.hid h
  clear h hR haa
  rcases h2 with h2 | h2
  · have q1 : ¬ (194 : Int) ≤ a := by omega
    have q2 : ¬ (224 : Int) ≤ a := by omega
    have q3 : ¬ (240 : Int) ≤ a := by omega
    go_enter Tryd.func82, Tryd.ntmps82
    go_wp2_with fail
    refine bodyPost_ret (results_row rfl _ _ w.heap.size 151 #[.int .i64 a, .string (t.extract 0 1), .bool true] (0, 0) _ rfl (oneW_heap _ _ _) Tryd.underlying151 (by kernel_rfl) (by kernel_rfl)) rfl ?_
    exact ⟨rfl, one_ret H.out _ _⟩
  · have q1 : (194 : Int) ≤ a := by omega
    have q2 : (224 : Int) ≤ a := by omega
    have q3 : (240 : Int) ≤ a := by omega
    have q4 : ¬ (a : Int) < 224 := by omega
    have q5 : ¬ (a : Int) < 240 := by omega
    have q6 : ¬ (a : Int) < 245 := by omega
    go_enter Tryd.func82, Tryd.ntmps82
    go_wp2_with fail
    refine bodyPost_ret (results_row rfl _ _ w.heap.size 151 #[.int .i64 a, .string (t.extract 0 1), .bool true] (0, 0) _ rfl (oneW_heap _ _ _) Tryd.underlying151 (by kernel_rfl) (by kernel_rfl)) rfl ?_
    exact ⟨rfl, one_ret H.out _ _⟩

set_option maxRecDepth 100000 in
set_option maxHeartbeats 4000000 in
theorem one_k2 {W w : World} {I : Nat → Option Obj} {L : List (Nat × Obj)} (t : ByteArray) (hz : 0 < t.size) (hm : t.size ≤ 140737488355328) (h1 : 194 ≤ (t.get! 0).toNat) (h2 : (t.get! 0).toNat < 224) (h : St W w I L) :
    Calls Tryd.prog 82 #[.string t] w fun e w' => e = .returned (.agg #[.int .i64 (refOne t).1, .string (t.extract 0 (refOne t).2.1), .bool (refOne t).2.2]) ∧ St W w' I L := by
  have hz1 : (1 : Int) ≤ (t.size : Int) := by omega
  have ha := (t.get! 0).toNat_lt
  have hA : (t[0]'hz).toNat = (t.get! 0).toNat := by rw [get_lt t 0 hz]
  have hK : Kd (t.get! 0).toNat 2 192 128 := .inl ⟨h1, h2, rfl, rfl, rfl⟩
  have hS := fun h => one_short (t := t) hK h
  have hC := fun j x y z => one_cont (t := t) hK j x y z
  have hFi := fun x y => one_fin (t := t) hK x y
  obtain ⟨N, wd, br, hR⟩ : ∃ N wd br, refOne t = (N, wd, br) := ⟨_, _, _, rfl⟩
  rw [hR] at hS hC hFi ⊢
  have hacc1 : accV t 192 1 = (t.get! 0).toNat - 192 := rfl
  obtain ⟨a, haa⟩ : ∃ a, (t.get! 0).toNat = a := ⟨_, rfl⟩
  rw [haa] at h1 h2 ha hA hS hC hFi hacc1
  have h1' : ¬ (a : Int) < 128 := by omega
  have h2' : (a : Int) < 256 := by omega
  have h3' : (0 : Int) ≤ a := by omega
  have q1 : (194 : Int) ≤ a := by omega
  have q4 :  (a : Int) < 224 := by omega
  have hacc1' : (a : Int) - 192 = (accV t 192 1 : Nat) := by omega
  have hbd : (t.get! 0).toNat - 192 ≤ 31 := by omega
  have H := Lib.hid h; have HC := Lib.hid hC; have HFI := Lib.hid hFi; have HS := Lib.hid hS
  clear h hR hK hC hFi hS haa hacc1
  go_enter Tryd.func82, Tryd.ntmps82
  by_cases hsz : t.size < 2
  · have hsz' : (t.size : Int) < 2 := by omega
    have he := HS.out hsz
    simp only [Prod.mk.injEq] at he
    obtain ⟨rfl, rfl, rfl⟩ := he
    go_wp2_with fail
    refine bodyPost_ret (results_row rfl _ _ w.heap.size 151 #[.int .i64 N, .string (t.extract 0 1), .bool true] (0, 0) _ rfl (oneW_heap _ _ _) Tryd.underlying151 (by kernel_rfl) (by kernel_rfl)) rfl ?_
    exact ⟨rfl, one_ret H.out _ _⟩
  have hsz' : ¬ (t.size : Int) < 2 := by omega
  go_wp2_with fail
  go_loopw [6, 8] (fun n i wr => ∃ k : Nat, n = .int .i64 (accV t 192 k : Nat) ∧ i = .int .i64 (k : Nat) ∧ 1 ≤ k ∧ k ≤ 2 ∧ (∀ j, 1 ≤ j → j < k → contB (t.get! j).toNat) ∧ wr = (w.alloc (.cells #[.int .i64 0, .string ⟨#[]⟩, .bool false] 151)).alloc (.cells #[.int .i64 a, .string (t.extract 0 1), .bool true] 151)) (fun n i _ => match i with | .int _ z => 2 - z.toNat | _ => 0)
  case atStart => exact ⟨1, rfl, rfl, by omega, by omega, fun j _ _ => by omega, rfl⟩
  case round =>
    obtain ⟨k, rfl, rfl, hk1, hk2, hcs, rfl⟩ := hrel
    have hb4 := accV_le t 192 hbd k hk1 (by omega)
    have hb3 := accV_le3 t 192 hbd k hk1
    have hsu : ∀ c, (t.get! k).toNat = c → accV t 192 (k + 1) = 64 * accV t 192 k + c - 128 := fun c hc => by
      obtain ⟨j, rfl⟩ : ∃ j, k = j + 1 := ⟨k - 1, by omega⟩
      rw [← hc]; rfl
    have HCS := Lib.hid hcs; have HSU := Lib.hid hsu; have HBD := Lib.hid hbd
    clear hcs hsu hbd
    by_cases hks : k < 2
    · have hkt : k < t.size := by omega
      obtain ⟨c, hc⟩ : ∃ c, (t.get! k).toNat = c := ⟨_, rfl⟩
      have hc256 := (t.get! k).toNat_lt
      have hcw : (t[k]'hkt).toNat = c := by rw [← hc, get_lt t k hkt]
      rw [hc] at hc256
      have hb3' := hb3 (by omega)
      have hCk := Lib.hid (HC.out k hk1 hks)
      have HSUk := Lib.hid (HSU.out c hc)
      have HEc := Lib.hid hc
      have w1 : (0 : Int) ≤ c := by omega
      have w2 : (c : Int) < 256 := by omega
      have w3 : (0 : Int) ≤ (accV t 192 k : Nat) := by omega
      have w4 : ((accV t 192 k : Nat) : Int) ≤ 135231 := by omega
      have w5 : (k : Int) < 2 := by omega
      clear hc HSU hb3 hb3' hb4
      by_cases hc1 : c < 128
      · have w6 : (c : Int) < 128 := by omega
        have he := hCk.out (by rw [HEc.out]; unfold contB; omega)
        simp only [Prod.mk.injEq] at he
        obtain ⟨rfl, rfl, rfl⟩ := he
        go_wp2_with fail
        refine bodyPost_ret (results_row rfl _ _ w.heap.size 151 #[.int .i64 N, .string (t.extract 0 1), .bool true] (0, 0) _ rfl (oneW_heap _ _ _) Tryd.underlying151 (by kernel_rfl) (by kernel_rfl)) rfl ?_
        exact ⟨rfl, one_ret H.out _ _⟩
      have w6 : ¬ (c : Int) < 128 := by omega
      by_cases hc2 : 191 < c
      · have w7 : (191 : Int) < c := by omega
        have he := hCk.out (by rw [HEc.out]; unfold contB; omega)
        simp only [Prod.mk.injEq] at he
        obtain ⟨rfl, rfl, rfl⟩ := he
        go_wp2_with fail
        refine bodyPost_ret (results_row rfl _ _ w.heap.size 151 #[.int .i64 N, .string (t.extract 0 1), .bool true] (0, 0) _ rfl (oneW_heap _ _ _) Tryd.underlying151 (by kernel_rfl) (by kernel_rfl)) rfl ?_
        exact ⟨rfl, one_ret H.out _ _⟩
      have w7 : ¬ (191 : Int) < c := by omega
      go_wp2_with fail
      go_roundw
      case rel =>
        refine ⟨k + 1, ?_, by simp, by omega, by omega, fun j h1 h2 => ?_, by trivial⟩
        · rw [HSUk.out]; congr 1; omega
        · by_cases hj : j < k
          · exact HCS.out j h1 hj
          · obtain rfl : j = k := by omega
            rw [HEc.out]; unfold contB; omega
      case measure => simp only []; omega
    · obtain rfl : k = 2 := by omega
      obtain ⟨hbad, hgood⟩ := HFI.out (by omega) HCS.out
      clear HSU HC hb3 HCS
      generalize accV t 192 2 = x at *
      have HB := Lib.hid hbad; have HG := Lib.hid hgood
      clear hbad hgood
      have w3 : (0 : Int) ≤ (x : Int) := by omega
      have w4 : (x : Int) ≤ 8654911 := by omega
      by_cases x1 : x < 128
      · have v1 : (x : Int) < 128 := by omega
        have he := HB.out (by omega)
        simp only [Prod.mk.injEq] at he
        obtain ⟨rfl, rfl, rfl⟩ := he
        go_wp2_with fail
        refine bodyPost_ret (results_row rfl _ _ w.heap.size 151 #[.int .i64 N, .string (t.extract 0 1), .bool true] (0, 0) _ rfl (oneW_heap _ _ _) Tryd.underlying151 (by kernel_rfl) (by kernel_rfl)) rfl ?_
        exact ⟨rfl, one_ret H.out _ _⟩
      have v1 : ¬ (x : Int) < 128 := by omega
      by_cases x2 : 1114111 < x
      · have v2 : (1114111 : Int) < x := by omega
        have he := HB.out (by omega)
        simp only [Prod.mk.injEq] at he
        obtain ⟨rfl, rfl, rfl⟩ := he
        go_wp2_with fail
        refine bodyPost_ret (results_row rfl _ _ w.heap.size 151 #[.int .i64 N, .string (t.extract 0 1), .bool true] (0, 0) _ rfl (oneW_heap _ _ _) Tryd.underlying151 (by kernel_rfl) (by kernel_rfl)) rfl ?_
        exact ⟨rfl, one_ret H.out _ _⟩
      have v2 : ¬ (1114111 : Int) < x := by omega
      by_cases x3 : 55296 ≤ x
      · have v3 : (55296 : Int) ≤ x := by omega
        by_cases x4 : x ≤ 57343
        · by_cases hno : 57343 < 128
          · exfalso; omega
          have hno2 : 128 ≤ 57343 := by omega
          clear hno
          have v4 : (x : Int) ≤ 57343 := by omega
          have he := HB.out (by omega)
          simp only [Prod.mk.injEq] at he
          obtain ⟨rfl, rfl, rfl⟩ := he
          go_wp2_with fail
          refine bodyPost_ret (results_row rfl _ _ w.heap.size 151 #[.int .i64 N, .string (t.extract 0 1), .bool true] (0, 0) _ rfl (oneW_heap _ _ _) Tryd.underlying151 (by kernel_rfl) (by kernel_rfl)) rfl ?_
          exact ⟨rfl, one_ret H.out _ _⟩
        · have v4 : ¬ (x : Int) ≤ 57343 := by omega
          have he := HG.out (by omega)
          simp only [Prod.mk.injEq] at he
          obtain ⟨rfl, rfl, rfl⟩ := he
          go_wp2_with fail
          refine bodyPost_ret (results_row rfl _ _ w.heap.size 151 #[.int .i64 N, .string (t.extract 0 2), .bool false] (0, 0) _ rfl (oneW_heap _ _ _) Tryd.underlying151 (by kernel_rfl) (by kernel_rfl)) rfl ?_
          exact ⟨rfl, one_ret H.out _ _⟩
      · by_cases hno : 55296 < 128
        · exfalso; omega
        have v3 : ¬ (55296 : Int) ≤ x := by omega
        have he := HG.out (by omega)
        simp only [Prod.mk.injEq] at he
        obtain ⟨rfl, rfl, rfl⟩ := he
        go_wp2_with fail
        refine bodyPost_ret (results_row rfl _ _ w.heap.size 151 #[.int .i64 N, .string (t.extract 0 2), .bool false] (0, 0) _ rfl (oneW_heap _ _ _) Tryd.underlying151 (by kernel_rfl) (by kernel_rfl)) rfl ?_
        exact ⟨rfl, one_ret H.out _ _⟩

set_option maxRecDepth 100000 in
set_option maxHeartbeats 4000000 in
theorem one_k3 {W w : World} {I : Nat → Option Obj} {L : List (Nat × Obj)} (t : ByteArray) (hz : 0 < t.size) (hm : t.size ≤ 140737488355328) (h1 : 224 ≤ (t.get! 0).toNat) (h2 : (t.get! 0).toNat < 240) (h : St W w I L) :
    Calls Tryd.prog 82 #[.string t] w fun e w' => e = .returned (.agg #[.int .i64 (refOne t).1, .string (t.extract 0 (refOne t).2.1), .bool (refOne t).2.2]) ∧ St W w' I L := by
  have hz1 : (1 : Int) ≤ (t.size : Int) := by omega
  have ha := (t.get! 0).toNat_lt
  have hA : (t[0]'hz).toNat = (t.get! 0).toNat := by rw [get_lt t 0 hz]
  have hK : Kd (t.get! 0).toNat 3 224 2048 := .inr (.inl ⟨h1, h2, rfl, rfl, rfl⟩)
  have hS := fun h => one_short (t := t) hK h
  have hC := fun j x y z => one_cont (t := t) hK j x y z
  have hFi := fun x y => one_fin (t := t) hK x y
  obtain ⟨N, wd, br, hR⟩ : ∃ N wd br, refOne t = (N, wd, br) := ⟨_, _, _, rfl⟩
  rw [hR] at hS hC hFi ⊢
  have hacc1 : accV t 224 1 = (t.get! 0).toNat - 224 := rfl
  obtain ⟨a, haa⟩ : ∃ a, (t.get! 0).toNat = a := ⟨_, rfl⟩
  rw [haa] at h1 h2 ha hA hS hC hFi hacc1
  have h1' : ¬ (a : Int) < 128 := by omega
  have h2' : (a : Int) < 256 := by omega
  have h3' : (0 : Int) ≤ a := by omega
  have q1 : (194 : Int) ≤ a := by omega
  have q4 : ¬ (a : Int) < 224 := by omega
  have q2 : (224 : Int) ≤ a := by omega
  have q5 :  (a : Int) < 240 := by omega
  have hacc1' : (a : Int) - 224 = (accV t 224 1 : Nat) := by omega
  have hbd : (t.get! 0).toNat - 224 ≤ 31 := by omega
  have H := Lib.hid h; have HC := Lib.hid hC; have HFI := Lib.hid hFi; have HS := Lib.hid hS
  clear h hR hK hC hFi hS haa hacc1
  go_enter Tryd.func82, Tryd.ntmps82
  by_cases hsz : t.size < 3
  · have hsz' : (t.size : Int) < 3 := by omega
    have he := HS.out hsz
    simp only [Prod.mk.injEq] at he
    obtain ⟨rfl, rfl, rfl⟩ := he
    go_wp2_with fail
    refine bodyPost_ret (results_row rfl _ _ w.heap.size 151 #[.int .i64 N, .string (t.extract 0 1), .bool true] (0, 0) _ rfl (oneW_heap _ _ _) Tryd.underlying151 (by kernel_rfl) (by kernel_rfl)) rfl ?_
    exact ⟨rfl, one_ret H.out _ _⟩
  have hsz' : ¬ (t.size : Int) < 3 := by omega
  go_wp2_with fail
  go_loopw [6, 8] (fun n i wr => ∃ k : Nat, n = .int .i64 (accV t 224 k : Nat) ∧ i = .int .i64 (k : Nat) ∧ 1 ≤ k ∧ k ≤ 3 ∧ (∀ j, 1 ≤ j → j < k → contB (t.get! j).toNat) ∧ wr = (w.alloc (.cells #[.int .i64 0, .string ⟨#[]⟩, .bool false] 151)).alloc (.cells #[.int .i64 a, .string (t.extract 0 1), .bool true] 151)) (fun n i _ => match i with | .int _ z => 3 - z.toNat | _ => 0)
  case atStart => exact ⟨1, rfl, rfl, by omega, by omega, fun j _ _ => by omega, rfl⟩
  case round =>
    obtain ⟨k, rfl, rfl, hk1, hk2, hcs, rfl⟩ := hrel
    have hb4 := accV_le t 224 hbd k hk1 (by omega)
    have hb3 := accV_le3 t 224 hbd k hk1
    have hsu : ∀ c, (t.get! k).toNat = c → accV t 224 (k + 1) = 64 * accV t 224 k + c - 128 := fun c hc => by
      obtain ⟨j, rfl⟩ : ∃ j, k = j + 1 := ⟨k - 1, by omega⟩
      rw [← hc]; rfl
    have HCS := Lib.hid hcs; have HSU := Lib.hid hsu; have HBD := Lib.hid hbd
    clear hcs hsu hbd
    by_cases hks : k < 3
    · have hkt : k < t.size := by omega
      obtain ⟨c, hc⟩ : ∃ c, (t.get! k).toNat = c := ⟨_, rfl⟩
      have hc256 := (t.get! k).toNat_lt
      have hcw : (t[k]'hkt).toNat = c := by rw [← hc, get_lt t k hkt]
      rw [hc] at hc256
      have hb3' := hb3 (by omega)
      have hCk := Lib.hid (HC.out k hk1 hks)
      have HSUk := Lib.hid (HSU.out c hc)
      have HEc := Lib.hid hc
      have w1 : (0 : Int) ≤ c := by omega
      have w2 : (c : Int) < 256 := by omega
      have w3 : (0 : Int) ≤ (accV t 224 k : Nat) := by omega
      have w4 : ((accV t 224 k : Nat) : Int) ≤ 135231 := by omega
      have w5 : (k : Int) < 3 := by omega
      clear hc HSU hb3 hb3' hb4
      by_cases hc1 : c < 128
      · have w6 : (c : Int) < 128 := by omega
        have he := hCk.out (by rw [HEc.out]; unfold contB; omega)
        simp only [Prod.mk.injEq] at he
        obtain ⟨rfl, rfl, rfl⟩ := he
        go_wp2_with fail
        refine bodyPost_ret (results_row rfl _ _ w.heap.size 151 #[.int .i64 N, .string (t.extract 0 1), .bool true] (0, 0) _ rfl (oneW_heap _ _ _) Tryd.underlying151 (by kernel_rfl) (by kernel_rfl)) rfl ?_
        exact ⟨rfl, one_ret H.out _ _⟩
      have w6 : ¬ (c : Int) < 128 := by omega
      by_cases hc2 : 191 < c
      · have w7 : (191 : Int) < c := by omega
        have he := hCk.out (by rw [HEc.out]; unfold contB; omega)
        simp only [Prod.mk.injEq] at he
        obtain ⟨rfl, rfl, rfl⟩ := he
        go_wp2_with fail
        refine bodyPost_ret (results_row rfl _ _ w.heap.size 151 #[.int .i64 N, .string (t.extract 0 1), .bool true] (0, 0) _ rfl (oneW_heap _ _ _) Tryd.underlying151 (by kernel_rfl) (by kernel_rfl)) rfl ?_
        exact ⟨rfl, one_ret H.out _ _⟩
      have w7 : ¬ (191 : Int) < c := by omega
      go_wp2_with fail
      go_roundw
      case rel =>
        refine ⟨k + 1, ?_, by simp, by omega, by omega, fun j h1 h2 => ?_, by trivial⟩
        · rw [HSUk.out]; congr 1; omega
        · by_cases hj : j < k
          · exact HCS.out j h1 hj
          · obtain rfl : j = k := by omega
            rw [HEc.out]; unfold contB; omega
      case measure => simp only []; omega
    · obtain rfl : k = 3 := by omega
      obtain ⟨hbad, hgood⟩ := HFI.out (by omega) HCS.out
      clear HSU HC hb3 HCS
      generalize accV t 224 3 = x at *
      have HB := Lib.hid hbad; have HG := Lib.hid hgood
      clear hbad hgood
      have w3 : (0 : Int) ≤ (x : Int) := by omega
      have w4 : (x : Int) ≤ 8654911 := by omega
      by_cases x1 : x < 2048
      · have v1 : (x : Int) < 2048 := by omega
        have he := HB.out (by omega)
        simp only [Prod.mk.injEq] at he
        obtain ⟨rfl, rfl, rfl⟩ := he
        go_wp2_with fail
        refine bodyPost_ret (results_row rfl _ _ w.heap.size 151 #[.int .i64 N, .string (t.extract 0 1), .bool true] (0, 0) _ rfl (oneW_heap _ _ _) Tryd.underlying151 (by kernel_rfl) (by kernel_rfl)) rfl ?_
        exact ⟨rfl, one_ret H.out _ _⟩
      have v1 : ¬ (x : Int) < 2048 := by omega
      by_cases x2 : 1114111 < x
      · have v2 : (1114111 : Int) < x := by omega
        have he := HB.out (by omega)
        simp only [Prod.mk.injEq] at he
        obtain ⟨rfl, rfl, rfl⟩ := he
        go_wp2_with fail
        refine bodyPost_ret (results_row rfl _ _ w.heap.size 151 #[.int .i64 N, .string (t.extract 0 1), .bool true] (0, 0) _ rfl (oneW_heap _ _ _) Tryd.underlying151 (by kernel_rfl) (by kernel_rfl)) rfl ?_
        exact ⟨rfl, one_ret H.out _ _⟩
      have v2 : ¬ (1114111 : Int) < x := by omega
      by_cases x3 : 55296 ≤ x
      · have v3 : (55296 : Int) ≤ x := by omega
        by_cases x4 : x ≤ 57343
        · by_cases hno : 57343 < 2048
          · exfalso; omega
          have hno2 : 2048 ≤ 57343 := by omega
          clear hno
          have v4 : (x : Int) ≤ 57343 := by omega
          have he := HB.out (by omega)
          simp only [Prod.mk.injEq] at he
          obtain ⟨rfl, rfl, rfl⟩ := he
          go_wp2_with fail
          refine bodyPost_ret (results_row rfl _ _ w.heap.size 151 #[.int .i64 N, .string (t.extract 0 1), .bool true] (0, 0) _ rfl (oneW_heap _ _ _) Tryd.underlying151 (by kernel_rfl) (by kernel_rfl)) rfl ?_
          exact ⟨rfl, one_ret H.out _ _⟩
        · have v4 : ¬ (x : Int) ≤ 57343 := by omega
          have he := HG.out (by omega)
          simp only [Prod.mk.injEq] at he
          obtain ⟨rfl, rfl, rfl⟩ := he
          go_wp2_with fail
          refine bodyPost_ret (results_row rfl _ _ w.heap.size 151 #[.int .i64 N, .string (t.extract 0 3), .bool false] (0, 0) _ rfl (oneW_heap _ _ _) Tryd.underlying151 (by kernel_rfl) (by kernel_rfl)) rfl ?_
          exact ⟨rfl, one_ret H.out _ _⟩
      · by_cases hno : 55296 < 2048
        · exfalso; omega
        have v3 : ¬ (55296 : Int) ≤ x := by omega
        have he := HG.out (by omega)
        simp only [Prod.mk.injEq] at he
        obtain ⟨rfl, rfl, rfl⟩ := he
        go_wp2_with fail
        refine bodyPost_ret (results_row rfl _ _ w.heap.size 151 #[.int .i64 N, .string (t.extract 0 3), .bool false] (0, 0) _ rfl (oneW_heap _ _ _) Tryd.underlying151 (by kernel_rfl) (by kernel_rfl)) rfl ?_
        exact ⟨rfl, one_ret H.out _ _⟩

set_option maxRecDepth 100000 in
set_option maxHeartbeats 4000000 in
theorem one_k4 {W w : World} {I : Nat → Option Obj} {L : List (Nat × Obj)} (t : ByteArray) (hz : 0 < t.size) (hm : t.size ≤ 140737488355328) (h1 : 240 ≤ (t.get! 0).toNat) (h2 : (t.get! 0).toNat < 245) (h : St W w I L) :
    Calls Tryd.prog 82 #[.string t] w fun e w' => e = .returned (.agg #[.int .i64 (refOne t).1, .string (t.extract 0 (refOne t).2.1), .bool (refOne t).2.2]) ∧ St W w' I L := by
  have hz1 : (1 : Int) ≤ (t.size : Int) := by omega
  have ha := (t.get! 0).toNat_lt
  have hA : (t[0]'hz).toNat = (t.get! 0).toNat := by rw [get_lt t 0 hz]
  have hK : Kd (t.get! 0).toNat 4 240 65536 := .inr (.inr ⟨h1, h2, rfl, rfl, rfl⟩)
  have hS := fun h => one_short (t := t) hK h
  have hC := fun j x y z => one_cont (t := t) hK j x y z
  have hFi := fun x y => one_fin (t := t) hK x y
  obtain ⟨N, wd, br, hR⟩ : ∃ N wd br, refOne t = (N, wd, br) := ⟨_, _, _, rfl⟩
  rw [hR] at hS hC hFi ⊢
  have hacc1 : accV t 240 1 = (t.get! 0).toNat - 240 := rfl
  obtain ⟨a, haa⟩ : ∃ a, (t.get! 0).toNat = a := ⟨_, rfl⟩
  rw [haa] at h1 h2 ha hA hS hC hFi hacc1
  have h1' : ¬ (a : Int) < 128 := by omega
  have h2' : (a : Int) < 256 := by omega
  have h3' : (0 : Int) ≤ a := by omega
  have q1 : (194 : Int) ≤ a := by omega
  have q4 : ¬ (a : Int) < 224 := by omega
  have q2 : (224 : Int) ≤ a := by omega
  have q5 : ¬ (a : Int) < 240 := by omega
  have q3 : (240 : Int) ≤ a := by omega
  have q6 : (a : Int) < 245 := by omega
  have hacc1' : (a : Int) - 240 = (accV t 240 1 : Nat) := by omega
  have hbd : (t.get! 0).toNat - 240 ≤ 31 := by omega
  have H := Lib.hid h; have HC := Lib.hid hC; have HFI := Lib.hid hFi; have HS := Lib.hid hS
  clear h hR hK hC hFi hS haa hacc1
  go_enter Tryd.func82, Tryd.ntmps82
  by_cases hsz : t.size < 4
  · have hsz' : (t.size : Int) < 4 := by omega
    have he := HS.out hsz
    simp only [Prod.mk.injEq] at he
    obtain ⟨rfl, rfl, rfl⟩ := he
    go_wp2_with fail
    refine bodyPost_ret (results_row rfl _ _ w.heap.size 151 #[.int .i64 N, .string (t.extract 0 1), .bool true] (0, 0) _ rfl (oneW_heap _ _ _) Tryd.underlying151 (by kernel_rfl) (by kernel_rfl)) rfl ?_
    exact ⟨rfl, one_ret H.out _ _⟩
  have hsz' : ¬ (t.size : Int) < 4 := by omega
  go_wp2_with fail
  go_loopw [6, 8] (fun n i wr => ∃ k : Nat, n = .int .i64 (accV t 240 k : Nat) ∧ i = .int .i64 (k : Nat) ∧ 1 ≤ k ∧ k ≤ 4 ∧ (∀ j, 1 ≤ j → j < k → contB (t.get! j).toNat) ∧ wr = (w.alloc (.cells #[.int .i64 0, .string ⟨#[]⟩, .bool false] 151)).alloc (.cells #[.int .i64 a, .string (t.extract 0 1), .bool true] 151)) (fun n i _ => match i with | .int _ z => 4 - z.toNat | _ => 0)
  case atStart => exact ⟨1, rfl, rfl, by omega, by omega, fun j _ _ => by omega, rfl⟩
  case round =>
    obtain ⟨k, rfl, rfl, hk1, hk2, hcs, rfl⟩ := hrel
    have hb4 := accV_le t 240 hbd k hk1 (by omega)
    have hb3 := accV_le3 t 240 hbd k hk1
    have hsu : ∀ c, (t.get! k).toNat = c → accV t 240 (k + 1) = 64 * accV t 240 k + c - 128 := fun c hc => by
      obtain ⟨j, rfl⟩ : ∃ j, k = j + 1 := ⟨k - 1, by omega⟩
      rw [← hc]; rfl
    have HCS := Lib.hid hcs; have HSU := Lib.hid hsu; have HBD := Lib.hid hbd
    clear hcs hsu hbd
    by_cases hks : k < 4
    · have hkt : k < t.size := by omega
      obtain ⟨c, hc⟩ : ∃ c, (t.get! k).toNat = c := ⟨_, rfl⟩
      have hc256 := (t.get! k).toNat_lt
      have hcw : (t[k]'hkt).toNat = c := by rw [← hc, get_lt t k hkt]
      rw [hc] at hc256
      have hb3' := hb3 (by omega)
      have hCk := Lib.hid (HC.out k hk1 hks)
      have HSUk := Lib.hid (HSU.out c hc)
      have HEc := Lib.hid hc
      have w1 : (0 : Int) ≤ c := by omega
      have w2 : (c : Int) < 256 := by omega
      have w3 : (0 : Int) ≤ (accV t 240 k : Nat) := by omega
      have w4 : ((accV t 240 k : Nat) : Int) ≤ 135231 := by omega
      have w5 : (k : Int) < 4 := by omega
      clear hc HSU hb3 hb3' hb4
      by_cases hc1 : c < 128
      · have w6 : (c : Int) < 128 := by omega
        have he := hCk.out (by rw [HEc.out]; unfold contB; omega)
        simp only [Prod.mk.injEq] at he
        obtain ⟨rfl, rfl, rfl⟩ := he
        go_wp2_with fail
        refine bodyPost_ret (results_row rfl _ _ w.heap.size 151 #[.int .i64 N, .string (t.extract 0 1), .bool true] (0, 0) _ rfl (oneW_heap _ _ _) Tryd.underlying151 (by kernel_rfl) (by kernel_rfl)) rfl ?_
        exact ⟨rfl, one_ret H.out _ _⟩
      have w6 : ¬ (c : Int) < 128 := by omega
      by_cases hc2 : 191 < c
      · have w7 : (191 : Int) < c := by omega
        have he := hCk.out (by rw [HEc.out]; unfold contB; omega)
        simp only [Prod.mk.injEq] at he
        obtain ⟨rfl, rfl, rfl⟩ := he
        go_wp2_with fail
        refine bodyPost_ret (results_row rfl _ _ w.heap.size 151 #[.int .i64 N, .string (t.extract 0 1), .bool true] (0, 0) _ rfl (oneW_heap _ _ _) Tryd.underlying151 (by kernel_rfl) (by kernel_rfl)) rfl ?_
        exact ⟨rfl, one_ret H.out _ _⟩
      have w7 : ¬ (191 : Int) < c := by omega
      go_wp2_with fail
      go_roundw
      case rel =>
        refine ⟨k + 1, ?_, by simp, by omega, by omega, fun j h1 h2 => ?_, by trivial⟩
        · rw [HSUk.out]; congr 1; omega
        · by_cases hj : j < k
          · exact HCS.out j h1 hj
          · obtain rfl : j = k := by omega
            rw [HEc.out]; unfold contB; omega
      case measure => simp only []; omega
    · obtain rfl : k = 4 := by omega
      obtain ⟨hbad, hgood⟩ := HFI.out (by omega) HCS.out
      clear HSU HC hb3 HCS
      generalize accV t 240 4 = x at *
      have HB := Lib.hid hbad; have HG := Lib.hid hgood
      clear hbad hgood
      have w3 : (0 : Int) ≤ (x : Int) := by omega
      have w4 : (x : Int) ≤ 8654911 := by omega
      by_cases x1 : x < 65536
      · have v1 : (x : Int) < 65536 := by omega
        have he := HB.out (by omega)
        simp only [Prod.mk.injEq] at he
        obtain ⟨rfl, rfl, rfl⟩ := he
        go_wp2_with fail
        refine bodyPost_ret (results_row rfl _ _ w.heap.size 151 #[.int .i64 N, .string (t.extract 0 1), .bool true] (0, 0) _ rfl (oneW_heap _ _ _) Tryd.underlying151 (by kernel_rfl) (by kernel_rfl)) rfl ?_
        exact ⟨rfl, one_ret H.out _ _⟩
      have v1 : ¬ (x : Int) < 65536 := by omega
      by_cases x2 : 1114111 < x
      · have v2 : (1114111 : Int) < x := by omega
        have he := HB.out (by omega)
        simp only [Prod.mk.injEq] at he
        obtain ⟨rfl, rfl, rfl⟩ := he
        go_wp2_with fail
        refine bodyPost_ret (results_row rfl _ _ w.heap.size 151 #[.int .i64 N, .string (t.extract 0 1), .bool true] (0, 0) _ rfl (oneW_heap _ _ _) Tryd.underlying151 (by kernel_rfl) (by kernel_rfl)) rfl ?_
        exact ⟨rfl, one_ret H.out _ _⟩
      have v2 : ¬ (1114111 : Int) < x := by omega
      by_cases x3 : 55296 ≤ x
      · have v3 : (55296 : Int) ≤ x := by omega
        by_cases x4 : x ≤ 57343
        · by_cases hno : 57343 < 65536
          · exfalso; omega
          exfalso; exact hno (by decide)
        · have v4 : ¬ (x : Int) ≤ 57343 := by omega
          have he := HG.out (by omega)
          simp only [Prod.mk.injEq] at he
          obtain ⟨rfl, rfl, rfl⟩ := he
          go_wp2_with fail
          refine bodyPost_ret (results_row rfl _ _ w.heap.size 151 #[.int .i64 N, .string (t.extract 0 4), .bool false] (0, 0) _ rfl (oneW_heap _ _ _) Tryd.underlying151 (by kernel_rfl) (by kernel_rfl)) rfl ?_
          exact ⟨rfl, one_ret H.out _ _⟩
      · by_cases hno : 55296 < 65536
        · exfalso; omega
        exfalso; exact hno (by decide)
end
end Go.Proofs.YtnhlpiomfljlcaaDoor
