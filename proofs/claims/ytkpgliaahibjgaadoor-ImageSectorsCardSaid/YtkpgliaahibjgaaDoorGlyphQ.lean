/- The document's decoder, in plain Lean. -/
import Derived.Test.YtkpgliaahibjgaaDoorGlyphP
namespace Go.Proofs.YtkpgliaahibjgaaDoor
set_option linter.unusedVariables false
set_option linter.unusedSimpArgs false
open Go.RowKit Go.Lib

/-- What the document's decoder finds at a text's head: the number, how many bytes, whether it is a byte that is none. -/
def refOne (t : ByteArray) : Nat × Nat × Bool := if brokenAt t 0 then ((t.get! 0).toNat, 1, true) else ((Utf8.decode t 0).1, (Utf8.decode t 0).2, false)
def contB (c : Nat) : Prop := 128 ≤ c ∧ c ≤ 191
def Kd (a sz base least : Nat) : Prop := (194 ≤ a ∧ a < 224 ∧ sz = 2 ∧ base = 192 ∧ least = 128) ∨ (224 ≤ a ∧ a < 240 ∧ sz = 3 ∧ base = 224 ∧ least = 2048) ∨ (240 ≤ a ∧ a < 245 ∧ sz = 4 ∧ base = 240 ∧ least = 65536)
def accV (t : ByteArray) (base : Nat) : Nat → Nat
  | 0 => 0
  | 1 => (t.get! 0).toNat - base
  | i + 2 => 64 * accV t base (i + 1) + (t.get! (i + 1)).toNat - 128

theorem pairEq {a b c d : Nat} (h : a = c) (k : b = d) : (a, b) = (c, d) := by rw [h, k]
theorem fin2_bad (n a b c d : Nat) (k1 : 194 ≤ a) (k2 : a < 224) (hn : 2 ≤ n) (cb : 128 ≤ b ∧ b ≤ 191) (h : 64 * (a - 192) + b - 128 < 128 ∨ 1114111 < 64 * (a - 192) + b - 128 ∨ (55296 ≤ 64 * (a - 192) + b - 128 ∧ 64 * (a - 192) + b - 128 ≤ 57343)) : decodeN n a b c d = (65533, 1) := by
  unfold decodeN
  repeat' split
  all_goals first | (exfalso; omega) | exact pairEq (by omega) (by omega)
theorem fin2_good (n a b c d : Nat) (k1 : 194 ≤ a) (k2 : a < 224) (hn : 2 ≤ n) (cb : 128 ≤ b ∧ b ≤ 191) (h : ¬ (64 * (a - 192) + b - 128 < 128 ∨ 1114111 < 64 * (a - 192) + b - 128 ∨ (55296 ≤ 64 * (a - 192) + b - 128 ∧ 64 * (a - 192) + b - 128 ≤ 57343))) : decodeN n a b c d = (64 * (a - 192) + b - 128, 2) := by
  unfold decodeN
  repeat' split
  all_goals first | (exfalso; omega) | exact pairEq (by omega) (by omega)
theorem fin3_bad (n a b c d : Nat) (k1 : 224 ≤ a) (k2 : a < 240) (hn : 3 ≤ n) (cb : 128 ≤ b ∧ b ≤ 191) (cc : 128 ≤ c ∧ c ≤ 191) (h : 64 * (64 * (a - 224) + b - 128) + c - 128 < 2048 ∨ 1114111 < 64 * (64 * (a - 224) + b - 128) + c - 128 ∨ (55296 ≤ 64 * (64 * (a - 224) + b - 128) + c - 128 ∧ 64 * (64 * (a - 224) + b - 128) + c - 128 ≤ 57343)) : decodeN n a b c d = (65533, 1) := by
  unfold decodeN
  repeat' split
  all_goals first | (exfalso; omega) | exact pairEq (by omega) (by omega)
theorem fin3_good (n a b c d : Nat) (k1 : 224 ≤ a) (k2 : a < 240) (hn : 3 ≤ n) (cb : 128 ≤ b ∧ b ≤ 191) (cc : 128 ≤ c ∧ c ≤ 191) (h : ¬ (64 * (64 * (a - 224) + b - 128) + c - 128 < 2048 ∨ 1114111 < 64 * (64 * (a - 224) + b - 128) + c - 128 ∨ (55296 ≤ 64 * (64 * (a - 224) + b - 128) + c - 128 ∧ 64 * (64 * (a - 224) + b - 128) + c - 128 ≤ 57343))) : decodeN n a b c d = (64 * (64 * (a - 224) + b - 128) + c - 128, 3) := by
  unfold decodeN
  repeat' split
  all_goals first | (exfalso; omega) | exact pairEq (by omega) (by omega)
theorem fin4_bad (n a b c d : Nat) (k1 : 240 ≤ a) (k2 : a < 245) (hn : 4 ≤ n) (cb : 128 ≤ b ∧ b ≤ 191) (cc : 128 ≤ c ∧ c ≤ 191) (cd : 128 ≤ d ∧ d ≤ 191) (h : 64 * (64 * (64 * (a - 240) + b - 128) + c - 128) + d - 128 < 65536 ∨ 1114111 < 64 * (64 * (64 * (a - 240) + b - 128) + c - 128) + d - 128 ∨ (55296 ≤ 64 * (64 * (64 * (a - 240) + b - 128) + c - 128) + d - 128 ∧ 64 * (64 * (64 * (a - 240) + b - 128) + c - 128) + d - 128 ≤ 57343)) : decodeN n a b c d = (65533, 1) := by
  unfold decodeN
  repeat' split
  all_goals first | (exfalso; omega) | exact pairEq (by omega) (by omega)
theorem fin4_good (n a b c d : Nat) (k1 : 240 ≤ a) (k2 : a < 245) (hn : 4 ≤ n) (cb : 128 ≤ b ∧ b ≤ 191) (cc : 128 ≤ c ∧ c ≤ 191) (cd : 128 ≤ d ∧ d ≤ 191) (h : ¬ (64 * (64 * (64 * (a - 240) + b - 128) + c - 128) + d - 128 < 65536 ∨ 1114111 < 64 * (64 * (64 * (a - 240) + b - 128) + c - 128) + d - 128 ∨ (55296 ≤ 64 * (64 * (64 * (a - 240) + b - 128) + c - 128) + d - 128 ∧ 64 * (64 * (64 * (a - 240) + b - 128) + c - 128) + d - 128 ≤ 57343))) : decodeN n a b c d = (64 * (64 * (64 * (a - 240) + b - 128) + c - 128) + d - 128, 4) := by
  unfold decodeN
  repeat' split
  all_goals first | (exfalso; omega) | exact pairEq (by omega) (by omega)
section
variable {t : ByteArray} {a sz base least : Nat}
theorem one_raw (t : ByteArray) : refOne t = (if (decodeN t.size (t.get! 0).toNat (t.get! 1).toNat (t.get! 2).toNat (t.get! 3).toNat).1 = 65533 ∧ (decodeN t.size (t.get! 0).toNat (t.get! 1).toNat (t.get! 2).toNat (t.get! 3).toNat).2 = 1 then ((t.get! 0).toNat, 1, true)
    else ((decodeN t.size (t.get! 0).toNat (t.get! 1).toNat (t.get! 2).toNat (t.get! 3).toNat).1, (decodeN t.size (t.get! 0).toNat (t.get! 1).toNat (t.get! 2).toNat (t.get! 3).toNat).2, false)) := by
  unfold refOne brokenAt
  rw [decode_at]
  simp only [Nat.sub_zero, Nat.zero_add, Bool.and_eq_true, beq_iff_eq]
theorem one_ascii (h : (t.get! 0).toNat < 128) : refOne t = ((t.get! 0).toNat, 1, false) := by
  rw [one_raw]
  have e : decodeN t.size (t.get! 0).toNat (t.get! 1).toNat (t.get! 2).toNat (t.get! 3).toNat = ((t.get! 0).toNat, 1) := by unfold decodeN; rw [if_pos h]
  rw [e, if_neg (by simp only []; omega)]
theorem one_of_bad (h : decodeN t.size (t.get! 0).toNat (t.get! 1).toNat (t.get! 2).toNat (t.get! 3).toNat = (65533, 1)) : refOne t = ((t.get! 0).toNat, 1, true) := by
  rw [one_raw, h, if_pos ⟨rfl, rfl⟩]
theorem one_of_good {v w : Nat} (h : decodeN t.size (t.get! 0).toNat (t.get! 1).toNat (t.get! 2).toNat (t.get! 3).toNat = (v, w)) (hw : w ≠ 1) : refOne t = (v, w, false) := by
  rw [one_raw, h, if_neg (by simp only []; omega)]
theorem one_out (h : 128 ≤ (t.get! 0).toNat) (h2 : (t.get! 0).toNat < 194 ∨ 245 ≤ (t.get! 0).toNat) : refOne t = ((t.get! 0).toNat, 1, true) := by
  apply one_of_bad
  have h0 := (t.get! 0).toNat_lt
  generalize (t.get! 0).toNat = a at *
  generalize (t.get! 1).toNat = b at *
  generalize (t.get! 2).toNat = c at *
  generalize (t.get! 3).toNat = d at *
  unfold decodeN
  repeat' split
  all_goals first | (exfalso; omega) | exact pairEq (by omega) (by omega)
theorem one_short (hK : Kd (t.get! 0).toNat sz base least) (h : t.size < sz) : refOne t = ((t.get! 0).toNat, 1, true) := by
  apply one_of_bad
  generalize (t.get! 0).toNat = a at *
  generalize (t.get! 1).toNat = b at *
  generalize (t.get! 2).toNat = c at *
  generalize (t.get! 3).toNat = d at *
  generalize t.size = n at *
  rcases hK with ⟨_, _, rfl, rfl, rfl⟩ | ⟨_, _, rfl, rfl, rfl⟩ | ⟨_, _, rfl, rfl, rfl⟩
  all_goals
    unfold decodeN
    repeat' split
    all_goals first | (exfalso; omega) | exact pairEq (by omega) (by omega)
set_option maxRecDepth 100000 in
theorem one_cont (hK : Kd (t.get! 0).toNat sz base least) (j : Nat) (h1 : 1 ≤ j) (h2 : j < sz) (h3 : ¬ contB (t.get! j).toNat) : refOne t = ((t.get! 0).toNat, 1, true) := by
  apply one_of_bad
  have hb1 := (t.get! 1).toNat_lt
  have hb2 := (t.get! 2).toNat_lt
  have hb3 := (t.get! 3).toNat_lt
  have hj : j = 1 ∨ j = 2 ∨ j = 3 := by rcases hK with ⟨_, _, rfl, _⟩ | ⟨_, _, rfl, _⟩ | ⟨_, _, rfl, _⟩ <;> omega
  have h4 : (j = 1 ∧ ¬ contB (t.get! 1).toNat) ∨ (j = 2 ∧ ¬ contB (t.get! 2).toNat) ∨ (j = 3 ∧ ¬ contB (t.get! 3).toNat) := by
    rcases hj with hj | hj | hj
    · subst hj; exact .inl ⟨rfl, h3⟩
    · subst hj; exact .inr (.inl ⟨rfl, h3⟩)
    · subst hj; exact .inr (.inr ⟨rfl, h3⟩)
  clear h3 hj
  unfold contB at h4
  generalize t.size = n at *
  generalize (t.get! 0).toNat = a at *
  generalize (t.get! 1).toNat = b at *
  generalize (t.get! 2).toNat = c at *
  generalize (t.get! 3).toNat = d at *
  rcases hK with ⟨_, _, rfl, rfl, rfl⟩ | ⟨_, _, rfl, rfl, rfl⟩ | ⟨_, _, rfl, rfl, rfl⟩
  all_goals
    unfold decodeN
    repeat' split
    all_goals first | (exfalso; omega) | exact pairEq (by omega) (by omega)
set_option maxRecDepth 100000 in
theorem one_fin (hK : Kd (t.get! 0).toNat sz base least) (hn : sz ≤ t.size) (hc : ∀ j, 1 ≤ j → j < sz → contB (t.get! j).toNat) :
    (accV t base sz < least ∨ 1114111 < accV t base sz ∨ (55296 ≤ accV t base sz ∧ accV t base sz ≤ 57343) → refOne t = ((t.get! 0).toNat, 1, true)) ∧
    (¬ (accV t base sz < least ∨ 1114111 < accV t base sz ∨ (55296 ≤ accV t base sz ∧ accV t base sz ≤ 57343)) → refOne t = (accV t base sz, sz, false)) := by
  rcases hK with ⟨k1, k2, rfl, rfl, rfl⟩ | ⟨k1, k2, rfl, rfl, rfl⟩ | ⟨k1, k2, rfl, rfl, rfl⟩
  · have c1 := hc 1 (by omega) (by omega)
    exact ⟨fun h => one_of_bad (fin2_bad _ _ _ _ _ k1 k2 hn c1 h), fun h => one_of_good (fin2_good _ _ _ _ _ k1 k2 hn c1 h) (by omega)⟩
  · have c1 := hc 1 (by omega) (by omega)
    have c2 := hc 2 (by omega) (by omega)
    exact ⟨fun h => one_of_bad (fin3_bad _ _ _ _ _ k1 k2 hn c1 c2 h), fun h => one_of_good (fin3_good _ _ _ _ _ k1 k2 hn c1 c2 h) (by omega)⟩
  · have c1 := hc 1 (by omega) (by omega)
    have c2 := hc 2 (by omega) (by omega)
    have c3 := hc 3 (by omega) (by omega)
    exact ⟨fun h => one_of_bad (fin4_bad _ _ _ _ _ k1 k2 hn c1 c2 c3 h), fun h => one_of_good (fin4_good _ _ _ _ _ k1 k2 hn c1 c2 c3 h) (by omega)⟩
end
end Go.Proofs.YtkpgliaahibjgaaDoor
