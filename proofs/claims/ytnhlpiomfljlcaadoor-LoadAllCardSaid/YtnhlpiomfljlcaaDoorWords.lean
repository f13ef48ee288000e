/- Words of 32 bits, bytes: what the walk's numbers are. -/
import Derived.Test.YtnhlpiomfljlcaaDoorSlices
namespace Go.Proofs.YtnhlpiomfljlcaaDoor
set_option linter.unusedVariables false
set_option linter.unusedSimpArgs false
open Go.RowKit

abbrev Wd := BitVec 32
/-- A byte as a word. -/
def bw (b : UInt8) : Wd := b.toBitVec.setWidth 32
theorem bw_toNat (b : UInt8) : (bw b).toNat = b.toNat := by
  unfold bw
  rw [BitVec.toNat_setWidth, Nat.mod_eq_of_lt]
  · rfl
  · have := b.toNat_lt; show b.toBitVec.toNat < _; have : b.toBitVec.toNat = b.toNat := rfl; omega

theorem w_and (x y : Wd) : bits .and .u32 (x.toNat : Int) (y.toNat : Int) = ((x &&& y).toNat : Int) := by rw [u32_and_nat _ _ x.isLt y.isLt, BitVec.toNat_and]
theorem w_or (x y : Wd) : bits .or .u32 (x.toNat : Int) (y.toNat : Int) = ((x ||| y).toNat : Int) := by rw [u32_or_nat _ _ x.isLt y.isLt, BitVec.toNat_or]
theorem w_xor (x y : Wd) : bits .xor .u32 (x.toNat : Int) (y.toNat : Int) = ((x ^^^ y).toNat : Int) := by rw [u32_xor_nat _ _ x.isLt y.isLt, BitVec.toNat_xor]
theorem w_xor0 (y : Wd) : bits .xor .u32 0 (y.toNat : Int) = (y.toNat : Int) := by
  have := u32_xor_nat 0 y.toNat (by omega) y.isLt
  simpa using this
theorem w_not (x : Wd) : bits .xor .u32 4294967295 (x.toNat : Int) = ((~~~x).toNat : Int) := by
  have := u32_xor_nat 4294967295 x.toNat (by omega) x.isLt
  have e : (4294967295 ^^^ x.toNat) = (~~~x).toNat := by
    have h : (BitVec.allOnes 32 ^^^ x) = ~~~x := BitVec.allOnes_xor
    rw [← h, BitVec.toNat_xor]
    rfl
  rw [e] at this
  exact this
theorem w_add (x y : Wd) : IntKind.u32.wrap ((x.toNat : Int) + (y.toNat : Int)) = ((x + y).toNat : Int) := by
  rw [IntKind.wrap_u32', BitVec.toNat_add]
  omega
theorem w_shr (x : Wd) (k : Nat) : ((x.toNat : Int) / ((2 ^ k : Nat) : Int)) = ((x >>> k).toNat : Int) := by
  rw [BitVec.toNat_ushiftRight, Nat.shiftRight_eq_div_pow]
  omega
theorem w_shr3 (x : Wd) : (x.toNat : Int) / 8 = ((x >>> 3).toNat : Int) := w_shr x 3
theorem w_shr10 (x : Wd) : (x.toNat : Int) / 1024 = ((x >>> 10).toNat : Int) := w_shr x 10
theorem w_shl (x : Wd) (k : Nat) : IntKind.u32.wrap ((x.toNat : Int) * ((2 ^ k : Nat) : Int)) = ((x <<< k).toNat : Int) := by
  rw [IntKind.wrap_u32', BitVec.toNat_shiftLeft, Nat.shiftLeft_eq]
  have : ((x.toNat : Int) * ((2 ^ k : Nat) : Int)) = ((x.toNat * 2 ^ k : Nat) : Int) := by rw [Int.natCast_mul]
  rw [this]
  omega
theorem w_byte (b : UInt8) : IntKind.u32.wrap (b.toNat : Int) = ((bw b).toNat : Int) := by
  have := b.toNat_lt
  rw [bw_toNat, IntKind.wrap_u32']
  omega
theorem w_shl24 (x : Wd) : IntKind.u32.wrap ((x.toNat : Int) * 16777216) = ((x <<< 24).toNat : Int) := w_shl x 24
theorem w_shl16 (x : Wd) : IntKind.u32.wrap ((x.toNat : Int) * 65536) = ((x <<< 16).toNat : Int) := w_shl x 16
theorem w_shl8 (x : Wd) : IntKind.u32.wrap ((x.toNat : Int) * 256) = ((x <<< 8).toNat : Int) := w_shl x 8

theorem w_rot (x : Wd) (n : Nat) (h1 : 1 ≤ n) (h2 : n ≤ 31) : bits .or .u32 (IntKind.u32.wrap ((x.toNat : Int) * 2 ^ (32 - n))) ((x.toNat : Int) / 2 ^ n) = ((x.rotateRight n).toNat : Int) := by
  have e1 : (2 : Int) ^ (32 - n) = ((2 ^ (32 - n) : Nat) : Int) := by simp
  have e2 : (2 : Int) ^ n = ((2 ^ n : Nat) : Int) := by simp
  rw [e1, e2, w_shl, w_shr, w_or]
  congr 1
  unfold BitVec.rotateRight
  rw [Nat.mod_eq_of_lt (by omega)]
  unfold BitVec.rotateRightAux
  rw [BitVec.or_comm]

theorem w_add_ (x y : Wd) : ((x.toNat : Int) + (y.toNat : Int)) % 4294967296 = ((x + y).toNat : Int) := by rw [← IntKind.wrap_u32']; exact w_add x y
theorem w_byte_ (b : UInt8) : (b.toNat : Int) % 4294967296 = ((bw b).toNat : Int) := by rw [← IntKind.wrap_u32']; exact w_byte b
theorem w_shl24_ (x : Wd) : ((x.toNat : Int) * (16777216 : Int)) % (4294967296 : Int) = ((x <<< 24).toNat : Int) := by rw [← IntKind.wrap_u32']; exact w_shl24 x
theorem w_shl16_ (x : Wd) : ((x.toNat : Int) * (65536 : Int)) % (4294967296 : Int) = ((x <<< 16).toNat : Int) := by rw [← IntKind.wrap_u32']; exact w_shl16 x
theorem w_shl8_ (x : Wd) : ((x.toNat : Int) * (256 : Int)) % (4294967296 : Int) = ((x <<< 8).toNat : Int) := by rw [← IntKind.wrap_u32']; exact w_shl8 x
theorem b_shl24_ (b : UInt8) : ((b.toNat : Int) * (16777216 : Int)) % (4294967296 : Int) = ((bw b <<< 24).toNat : Int) := by rw [← bw_toNat]; exact w_shl24_ _
theorem b_shl16_ (b : UInt8) : ((b.toNat : Int) * (65536 : Int)) % (4294967296 : Int) = ((bw b <<< 16).toNat : Int) := by rw [← bw_toNat]; exact w_shl16_ _
theorem b_shl8_ (b : UInt8) : ((b.toNat : Int) * (256 : Int)) % (4294967296 : Int) = ((bw b <<< 8).toNat : Int) := by rw [← bw_toNat]; exact w_shl8_ _
theorem w_rot_ (x : Wd) (n : Nat) (h1 : 1 ≤ n) (h2 : n ≤ 31) : bits .or .u32 ((x.toNat : Int) * 2 ^ (32 - n) % 4294967296) ((x.toNat : Int) / 2 ^ n) = ((x.rotateRight n).toNat : Int) := by rw [← IntKind.wrap_u32']; exact w_rot x n h1 h2

/-- A word's number, shut to the walk's simplifier. -/
def wv (x : Wd) : Int := (x.toNat : Int)
theorem wv_nat (x : Wd) : wv x = (x.toNat : Int) := rfl
theorem wv_lo (x : Wd) : 0 ≤ wv x := by rw [wv_nat]; omega
theorem wv_hi (x : Wd) : wv x < 4294967296 := by rw [wv_nat]; have := x.isLt; omega
theorem v_and (x y : Wd) : bits .and .u32 (wv x) (wv y) = wv (x &&& y) := w_and x y
theorem v_or (x y : Wd) : bits .or .u32 (wv x) (wv y) = wv (x ||| y) := w_or x y
theorem v_xor (x y : Wd) : bits .xor .u32 (wv x) (wv y) = wv (x ^^^ y) := w_xor x y
theorem v_xor0 (y : Wd) : bits .xor .u32 0 (wv y) = wv y := w_xor0 y
theorem v_not (x : Wd) : bits .xor .u32 4294967295 (wv x) = wv (~~~x) := w_not x
theorem v_add (x y : Wd) : IntKind.u32.wrap (wv x + wv y) = wv (x + y) := w_add x y
theorem v_add_ (x y : Wd) : (wv x + wv y) % (4294967296 : Int) = wv (x + y) := w_add_ x y
theorem v_shr3 (x : Wd) : wv x / (8 : Int) = wv (x >>> 3) := w_shr3 x
theorem v_shr10 (x : Wd) : wv x / (1024 : Int) = wv (x >>> 10) := w_shr10 x
theorem v_shl24_ (x : Wd) : (wv x * (16777216 : Int)) % (4294967296 : Int) = wv (x <<< 24) := w_shl24_ x
theorem v_shl16_ (x : Wd) : (wv x * (65536 : Int)) % (4294967296 : Int) = wv (x <<< 16) := w_shl16_ x
theorem v_shl8_ (x : Wd) : (wv x * (256 : Int)) % (4294967296 : Int) = wv (x <<< 8) := w_shl8_ x
theorem v_byte_ (b : UInt8) : (b.toNat : Int) % (4294967296 : Int) = wv (bw b) := w_byte_ b
theorem v_byte (b : UInt8) : IntKind.u32.wrap (b.toNat : Int) = wv (bw b) := w_byte b
theorem v_rot_ (x : Wd) (n : Nat) (h1 : 1 ≤ n) (h2 : n ≤ 31) : bits .or .u32 (wv x * 2 ^ (32 - n) % (4294967296 : Int)) (wv x / 2 ^ n) = wv (x.rotateRight n) := w_rot_ x n h1 h2

/-- The exclusive or of a word turned right by some numbers. -/
def turnR (x : Wd) (ns : List Nat) : Wd := ns.foldl (fun acc n => acc ^^^ x.rotateRight n) 0
theorem turnR_snoc (x : Wd) (l : List Nat) (n : Nat) : turnR x (l ++ [n]) = turnR x l ^^^ x.rotateRight n := by simp [turnR]

theorem and31 (n : Nat) (h1 : 1 ≤ n) (h2 : n ≤ 31) : bits .and .u64 (IntKind.u64.wrap (-(n : Int))) 31 = ((32 - n : Nat) : Int) := by
  have h : IntKind.u64.wrap (-(n : Int)) = ((18446744073709551616 - n : Nat) : Int) := by
    rw [IntKind.wrap_u64]
    omega
  have h2 := u64_and_nat (18446744073709551616 - n) 31 (by omega) (by omega)
  rw [h]
  refine h2.trans ?_
  rw [nat_mask5]
  omega
end Go.Proofs.YtnhlpiomfljlcaaDoor
