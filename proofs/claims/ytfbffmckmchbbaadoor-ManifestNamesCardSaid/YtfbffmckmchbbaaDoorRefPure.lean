/- The reference's digest: words as numbers of 64 bits; right, first, rounds. -/
import Derived.Test.YtfbffmckmchbbaaDoorDigs
namespace Go.Proofs.YtfbffmckmchbbaaDoor
set_option linter.unusedVariables false
set_option linter.unusedSimpArgs false
open Go.RowKit

theorem vv_and (x y : Wd) : bits .and .u64 (wv x) (wv y) = wv (x &&& y) := by
  have h1 := x.isLt; have h2 := y.isLt
  rw [wv_nat, wv_nat, wv_nat, u64_and_nat _ _ (by omega) (by omega), BitVec.toNat_and]
theorem vv_xor (x y : Wd) : bits .xor .u64 (wv x) (wv y) = wv (x ^^^ y) := by
  have h1 := x.isLt; have h2 := y.isLt
  rw [wv_nat, wv_nat, wv_nat, u64_xor_nat _ _ (by omega) (by omega), BitVec.toNat_xor]
theorem vv_not (x : Wd) : 4294967295 - wv x = wv (~~~x) := by
  have h1 := x.isLt
  rw [wv_nat, wv_nat, BitVec.toNat_not]
  omega
theorem vv_shr (x : Wd) (k : Nat) : wv x / ((2 ^ k : Nat) : Int) = wv (x >>> k) := w_shr x k
theorem vv_shr3 (x : Wd) : wv x / (8 : Int) = wv (x >>> 3) := w_shr x 3
theorem vv_shr10 (x : Wd) : wv x / (1024 : Int) = wv (x >>> 10) := w_shr x 10
theorem vv_add2 (a b : Wd) : (wv a + wv b) % 4294967296 = wv (a + b) := v_add_ a b
theorem vv_mod (a : Wd) : wv a % 4294967296 = wv a := by have := wv_lo a; have := wv_hi a; omega
theorem vv_addm (x : Int) (a b : Wd) (h : x % 4294967296 = wv a) : (x + wv b) % 4294967296 = wv (a + b) := by
  rw [← vv_add2, ← h]
  omega
theorem vv_addmm (x y : Int) (a b : Wd) (h : x % 4294967296 = wv a) (h2 : y % 4294967296 = wv b) : (x + y) % 4294967296 = wv (a + b) := by
  rw [← vv_add2, ← h, ← h2]
  omega

theorem rot_nat (x : Wd) (n : Nat) (h1 : 1 ≤ n) (h2 : n ≤ 31) : bits .or .u64 (wv x / 2 ^ n) (wv x * 2 ^ (32 - n)) % 4294967296 = wv (x.rotateRight n) := by
  have hx := x.isLt
  have e1 : (2 : Int) ^ (32 - n) = ((2 ^ (32 - n) : Nat) : Int) := by simp
  have e2 : (2 : Int) ^ n = ((2 ^ n : Nat) : Int) := by simp
  have hb : x.toNat * 2 ^ (32 - n) < 2 ^ 64 := by
    have : 2 ^ (32 - n) ≤ 2 ^ 31 := Nat.pow_le_pow_right (by omega) (by omega)
    calc x.toNat * 2 ^ (32 - n) ≤ x.toNat * 2 ^ 31 := Nat.mul_le_mul_left _ this
      _ < 2 ^ 32 * 2 ^ 31 := Nat.mul_lt_mul_of_pos_right hx (by decide)
      _ ≤ 2 ^ 64 := by decide
  have hd : x.toNat / 2 ^ n < 2 ^ 64 := Nat.lt_of_le_of_lt (Nat.div_le_self _ _) (by omega)
  have h3 := u64_or_nat (x.toNat / 2 ^ n) (x.toNat * 2 ^ (32 - n)) (by simpa using hd) (by simpa using hb)
  have e3 : wv x / 2 ^ n = ((x.toNat / 2 ^ n : Nat) : Int) := by rw [wv_nat, e2]; simp
  have e4 : wv x * 2 ^ (32 - n) = ((x.toNat * 2 ^ (32 - n) : Nat) : Int) := by rw [wv_nat, e1]; simp
  rw [e3, e4, h3, wv_nat]
  have e5 : ((x.toNat / 2 ^ n) ||| (x.toNat * 2 ^ (32 - n))) % 2 ^ 32 = (x.rotateRight n).toNat := by
    unfold BitVec.rotateRight
    rw [Nat.mod_eq_of_lt (show n < 32 by omega)]
    unfold BitVec.rotateRightAux
    rw [BitVec.toNat_or, BitVec.toNat_ushiftRight, BitVec.toNat_shiftLeft, Nat.or_mod_two_pow, Nat.shiftRight_eq_div_pow, Nat.shiftLeft_eq]
    congr 1
    exact Nat.mod_eq_of_lt (Nat.lt_of_le_of_lt (Nat.div_le_self _ _) hx)
  rw [← e5]
  omega

set_option maxHeartbeats 1000000 in
theorem right_any (x : Wd) (n : Nat) (h1 : 1 ≤ n) (h2 : n ≤ 31) (w : World) :
    Calls Tryd.prog 47 #[.int .u64 (wv x), .int .u64 (n : Int)] w fun e w' => e = .returned (.int .u64 (wv (x.rotateRight n))) ∧ w = w' := by
  have hr := rot_nat x n h1 h2
  have lo := wv_lo x
  have hi := wv_hi x
  have hb : wv x * 2 ^ (32 - n) < 18446744073709551616 := by
    have e1 : (2 : Int) ^ (32 - n) = ((2 ^ (32 - n) : Nat) : Int) := by simp
    have : 2 ^ (32 - n) ≤ 2 ^ 31 := Nat.pow_le_pow_right (by omega) (by omega)
    have h3 : x.toNat * 2 ^ (32 - n) ≤ x.toNat * 2 ^ 31 := Nat.mul_le_mul_left _ this
    have h4 := x.isLt
    rw [wv_nat, e1, ← Int.natCast_mul]
    omega
  have hb0 : 0 ≤ wv x * 2 ^ (32 - n) := Int.mul_nonneg lo (Int.pow_nonneg (by decide))
  have HR := Lib.hid hr
  clear hr
  have n1 : (n : Int) ≤ 31 := by omega
  have n2 : (1 : Int) ≤ n := by omega
  go_enter Tryd.func47, Tryd.ntmps47
  go_wp2_with fail
  go_ret
  exact ⟨by rw [← HR.out]; rfl, rfl⟩
end Go.Proofs.YtfbffmckmchbbaaDoor
