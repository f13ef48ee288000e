/- The reference's digest: words as numbers of 64 bits; right, first, rounds. The reference's digest: the plain law. -/
import Derived.Test.YtnhlpiomfljlcaaDoorDgFD
namespace Go.Proofs.YtnhlpiomfljlcaaDoor
section
set_option linter.unusedVariables false
set_option linter.unusedSimpArgs false
open Go.RowKit

theorem vv_and (x y : Wd) : bits .and .u64 (wv x) (wv y) = wv (x &&& y) := by
  have h1 := x.isLt; have h2 := y.isLt
  rw [wv_nat, wv_nat, wv_nat, u64_and_nat _ _ (by omega) (by omega), BitVec.toNat_and]
theorem vv_xor (x y : Wd) : bits .xor .u64 (wv x) (wv y) = wv (x ^^^ y) := by
  have h1 := x.isLt; have h2 := y.isLt
  rw [wv_nat, wv_nat, wv_nat, u64_xor_nat _ _ (by omega) (by omega), BitVec.toNat_xor]
theorem vv_not (x : Wd) : 4294967295 - wv x = wv (~~~x) := by
  have h1 := x.isLt
  rw [wv_nat, wv_nat, BitVec.toNat_not]
  omega
theorem vv_shr (x : Wd) (k : Nat) : wv x / ((2 ^ k : Nat) : Int) = wv (x >>> k) := w_shr x k
theorem vv_shr3 (x : Wd) : wv x / (8 : Int) = wv (x >>> 3) := w_shr x 3
theorem vv_shr10 (x : Wd) : wv x / (1024 : Int) = wv (x >>> 10) := w_shr x 10
theorem vv_add2 (a b : Wd) : (wv a + wv b) % 4294967296 = wv (a + b) := v_add_ a b
theorem vv_mod (a : Wd) : wv a % 4294967296 = wv a := by have := wv_lo a; have := wv_hi a; omega
theorem vv_addm (x : Int) (a b : Wd) (h : x % 4294967296 = wv a) : (x + wv b) % 4294967296 = wv (a + b) := by
  rw [← vv_add2, ← h]
  omega
theorem vv_addmm (x y : Int) (a b : Wd) (h : x % 4294967296 = wv a) (h2 : y % 4294967296 = wv b) : (x + y) % 4294967296 = wv (a + b) := by
  rw [← vv_add2, ← h, ← h2]
  omega

theorem rot_nat (x : Wd) (n : Nat) (h1 : 1 ≤ n) (h2 : n ≤ 31) : bits .or .u64 (wv x / 2 ^ n) (wv x * 2 ^ (32 - n)) % 4294967296 = wv (x.rotateRight n) := by
  have hx := x.isLt
  have e1 : (2 : Int) ^ (32 - n) = ((2 ^ (32 - n) : Nat) : Int) := by simp
  have e2 : (2 : Int) ^ n = ((2 ^ n : Nat) : Int) := by simp
  have hb : x.toNat * 2 ^ (32 - n) < 2 ^ 64 := by
    have : 2 ^ (32 - n) ≤ 2 ^ 31 := Nat.pow_le_pow_right (by omega) (by omega)
    calc x.toNat * 2 ^ (32 - n) ≤ x.toNat * 2 ^ 31 := Nat.mul_le_mul_left _ this
      _ < 2 ^ 32 * 2 ^ 31 := Nat.mul_lt_mul_of_pos_right hx (by decide)
      _ ≤ 2 ^ 64 := by decide
  have hd : x.toNat / 2 ^ n < 2 ^ 64 := Nat.lt_of_le_of_lt (Nat.div_le_self _ _) (by omega)
  have h3 := u64_or_nat (x.toNat / 2 ^ n) (x.toNat * 2 ^ (32 - n)) (by simpa using hd) (by simpa using hb)
  have e3 : wv x / 2 ^ n = ((x.toNat / 2 ^ n : Nat) : Int) := by rw [wv_nat, e2]; simp
  have e4 : wv x * 2 ^ (32 - n) = ((x.toNat * 2 ^ (32 - n) : Nat) : Int) := by rw [wv_nat, e1]; simp
  rw [e3, e4, h3, wv_nat]
  have e5 : ((x.toNat / 2 ^ n) ||| (x.toNat * 2 ^ (32 - n))) % 2 ^ 32 = (x.rotateRight n).toNat := by
    unfold BitVec.rotateRight
    rw [Nat.mod_eq_of_lt (show n < 32 by omega)]
    unfold BitVec.rotateRightAux
    rw [BitVec.toNat_or, BitVec.toNat_ushiftRight, BitVec.toNat_shiftLeft, Nat.or_mod_two_pow, Nat.shiftRight_eq_div_pow, Nat.shiftLeft_eq]
    congr 1
    exact Nat.mod_eq_of_lt (Nat.lt_of_le_of_lt (Nat.div_le_self _ _) hx)
  rw [← e5]
  omega

set_option maxHeartbeats 1000000 in
theorem right_any (x : Wd) (n : Nat) (h1 : 1 ≤ n) (h2 : n ≤ 31) (w : World) :
    Calls Tryd.prog 69 #[.int .u64 (wv x), .int .u64 (n : Int)] w fun e w' => e = .returned (.int .u64 (wv (x.rotateRight n))) ∧ w = w' := by
  have hr := rot_nat x n h1 h2
  have lo := wv_lo x
  have hi := wv_hi x
  have hb : wv x * 2 ^ (32 - n) < 18446744073709551616 := by
    have e1 : (2 : Int) ^ (32 - n) = ((2 ^ (32 - n) : Nat) : Int) := by simp
    have : 2 ^ (32 - n) ≤ 2 ^ 31 := Nat.pow_le_pow_right (by omega) (by omega)
    have h3 : x.toNat * 2 ^ (32 - n) ≤ x.toNat * 2 ^ 31 := Nat.mul_le_mul_left _ this
    have h4 := x.isLt
    rw [wv_nat, e1, ← Int.natCast_mul]
    omega
  have hb0 : 0 ≤ wv x * 2 ^ (32 - n) := Int.mul_nonneg lo (Int.pow_nonneg (by decide))
  have HR := Lib.hid hr
  clear hr
  have n1 : (n : Int) ≤ 31 := by omega
  have n2 : (1 : Int) ≤ n := by omega
  go_enter Tryd.func69, Tryd.ntmps69
  go_wp2_with fail
  go_ret
  exact ⟨by rw [← HR.out]; rfl, rfl⟩
end

section
set_option linter.unusedVariables false
set_option linter.unusedSimpArgs false
open Go.RowKit

/-- The state behind so many blocks. -/
def stF (l : List Wd) (bs : List UInt8) : Nat → List Wd
  | 0 => l
  | q + 1 => mixW (stF l bs q) ((bs.drop (64 * q)).take 64)
theorem stF_len (l : List Wd) (bs : List UInt8) (h : l.length = 8) : ∀ q, (stF l bs q).length = 8
  | 0 => h
  | q + 1 => mixW_len _ _ (stF_len l bs h q)
theorem stF_shift (l : List Wd) (bs : List UInt8) : ∀ q, stF (mixW l (bs.take 64)) (bs.drop 64) q = stF l bs (q + 1)
  | 0 => by simp [stF]
  | q + 1 => by
    rw [stF, stF_shift l bs q]
    conv => rhs; rw [stF]
    rw [List.drop_drop, show 64 + 64 * q = 64 * (q + 1) by omega]
theorem eat_blocks : ∀ (q : Nat) (l : List Wd) (bs : List UInt8) (n : Nat), bs.length = 64 * q → bs.length < 64 * (n + 1) → (eat n l bs).1 = stF l bs q
  | 0, l, bs, n, h, _ => by rw [eat_short l bs (by omega)]; rfl
  | q + 1, l, bs, 0, h, h2 => by omega
  | q + 1, l, bs, n + 1, h, h2 => by
    rw [eat, if_pos (by omega), eat_blocks q _ _ n (by rw [List.length_drop]; omega) (by rw [List.length_drop]; omega), stF_shift]
theorem took_blocks (bs : List UInt8) (q : Nat) (h : bs.length = 64 * q) : (took bs).1 = stF hTab bs q := eat_blocks q _ _ _ h (by omega)

/-- A word, byte by byte. -/
def hw (bs : List UInt8) (t : Nat) : Nat → Nat
  | 0 => 0
  | i + 1 => 256 * hw bs t i + (bs.getD (4 * t + i) 0).toNat
theorem hw_lt (bs : List UInt8) (t : Nat) : ∀ i, hw bs t i < 256 ^ i
  | 0 => by simp [hw]
  | i + 1 => by
    have := hw_lt bs t i
    have h2 := (bs.getD (4 * t + i) 0).toNat_lt
    rw [hw, Nat.pow_succ]
    omega
theorem hw4 (bs : List UInt8) (t : Nat) : hw bs t 4 = (wordAt bs t).toNat := by
  have h0 := (bs.getD (4 * t) 0).toNat_lt
  have h1 := (bs.getD (4 * t + 1) 0).toNat_lt
  have h2 := (bs.getD (4 * t + 2) 0).toNat_lt
  have h3 := (bs.getD (4 * t + 3) 0).toNat_lt
  unfold wordAt
  simp only [hw, Nat.add_zero, Nat.mul_zero, Nat.zero_add, BitVec.toNat_or, BitVec.toNat_shiftLeft, bw_toNat]
  generalize (bs.getD (4 * t) 0).toNat = b0 at *
  generalize (bs.getD (4 * t + 1) 0).toNat = b1 at *
  generalize (bs.getD (4 * t + 2) 0).toNat = b2 at *
  generalize (bs.getD (4 * t + 3) 0).toNat = b3 at *
  have e0 : b0 <<< 24 % 2 ^ 32 = b0 <<< 24 := Nat.mod_eq_of_lt (by rw [Nat.shiftLeft_eq]; omega)
  have e1 : b1 <<< 16 % 2 ^ 32 = b1 <<< 16 := Nat.mod_eq_of_lt (by rw [Nat.shiftLeft_eq]; omega)
  have e2 : b2 <<< 8 % 2 ^ 32 = b2 <<< 8 := Nat.mod_eq_of_lt (by rw [Nat.shiftLeft_eq]; omega)
  rw [e0, e1, e2]
  have s1 : b0 <<< 24 ||| b1 <<< 16 = (b0 <<< 8 + b1) <<< 16 := by
    rw [Nat.shiftLeft_add_eq_or_of_lt (by omega), Nat.shiftLeft_or_distrib, ← Nat.shiftLeft_add]
  rw [s1]
  have s2 : (b0 <<< 8 + b1) <<< 16 ||| b2 <<< 8 = ((b0 <<< 8 + b1) <<< 8 + b2) <<< 8 := by
    rw [Nat.shiftLeft_add_eq_or_of_lt (by omega) (b0 <<< 8 + b1), Nat.shiftLeft_or_distrib, ← Nat.shiftLeft_add]
  rw [s2, ← Nat.shiftLeft_add_eq_or_of_lt (by omega)]
  simp only [Nat.shiftLeft_eq]
  omega

/-- A word as a number of 64 bits in memory. -/
def uval (x : Wd) : Value := .int .u64 (wv x)
def uz : Value := .int .u64 0
theorem uval_zero : uval 0 = uz := rfl
def upart (n : Nat) (l : List Wd) : Array Value := (l.map uval ++ List.replicate (n - l.length) uz).toArray
theorem upart_size (n : Nat) (l : List Wd) (h : l.length ≤ n) : (upart n l).size = n := by simp [upart]; omega
theorem upart_get (n : Nat) (l : List Wd) (i : Nat) (h : i < l.length) : (upart n l)[i]? = some (.int .u64 (wv (l.getD i 0))) := by
  simp [upart, List.getElem?_append_left, h, List.getD_eq_getElem?_getD, List.getElem?_eq_getElem h, uval]
theorem upart_zero (n : Nat) (l : List Wd) (i : Nat) (h : l.length ≤ i) (hn : i < n) : (upart n l)[i]? = some uz := by
  have h2 : i - l.length < n - l.length := by omega
  simp [upart, List.getElem?_append_right, h, List.getElem?_replicate, h2]
theorem upart_push (n : Nat) (l : List Wd) (x : Wd) (h : l.length < n) : (upart n l).setIfInBounds l.length (uval x) = upart n (l ++ [x]) := by
  unfold upart
  apply Array.toList_inj.1
  rw [Array.toList_setIfInBounds]
  simp only [List.map_append, List.map_cons, List.map_nil, List.length_append, List.length_cons, List.length_nil, Nat.zero_add, List.append_assoc]
  rw [show n - l.length = (n - (l.length + 1)) + 1 by omega, List.replicate_succ, List.set_append_right _ _ (by simp)]
  simp
theorem upart_full (n : Nat) (l : List Wd) (h : l.length = n) : upart n l = (l.map uval).toArray := by simp [upart, h]
theorem upart_set (n : Nat) (l : List Wd) (i : Nat) (y : Wd) (h : l.length = n) : (upart n l).setIfInBounds i (uval y) = upart n (l.set i y) := by
  rw [upart_full n l h, upart_full n _ (by rw [List.length_set]; exact h), List.map_set]
  simp
theorem upart_one (n : Nat) (l : List Wd) : (upart n l).all (·.oneCell') = true := by
  unfold upart
  apply all_oneCell_toArray
  intro v hv
  rcases List.mem_append.1 hv with h | h
  · obtain ⟨b, _, rfl⟩ := List.mem_map.1 h; rfl
  · rw [List.eq_of_mem_replicate h]; rfl
theorem urounds_cells : upart 64 kTab = #[.int .u64 1116352408, .int .u64 1899447441, .int .u64 3049323471, .int .u64 3921009573, .int .u64 961987163, .int .u64 1508970993, .int .u64 2453635748, .int .u64 2870763221, .int .u64 3624381080, .int .u64 310598401, .int .u64 607225278, .int .u64 1426881987, .int .u64 1925078388, .int .u64 2162078206, .int .u64 2614888103, .int .u64 3248222580, .int .u64 3835390401, .int .u64 4022224774, .int .u64 264347078, .int .u64 604807628, .int .u64 770255983, .int .u64 1249150122, .int .u64 1555081692, .int .u64 1996064986, .int .u64 2554220882, .int .u64 2821834349, .int .u64 2952996808, .int .u64 3210313671, .int .u64 3336571891, .int .u64 3584528711, .int .u64 113926993, .int .u64 338241895, .int .u64 666307205, .int .u64 773529912, .int .u64 1294757372, .int .u64 1396182291, .int .u64 1695183700, .int .u64 1986661051, .int .u64 2177026350, .int .u64 2456956037, .int .u64 2730485921, .int .u64 2820302411, .int .u64 3259730800, .int .u64 3345764771, .int .u64 3516065817, .int .u64 3600352804, .int .u64 4094571909, .int .u64 275423344, .int .u64 430227734, .int .u64 506948616, .int .u64 659060556, .int .u64 883997877, .int .u64 958139571, .int .u64 1322822218, .int .u64 1537002063, .int .u64 1747873779, .int .u64 1955562222, .int .u64 2024104815, .int .u64 2227730452, .int .u64 2361852424, .int .u64 2428436474, .int .u64 2756734187, .int .u64 3204031479, .int .u64 3329325298] := by kernel_rfl
theorem ufirst_cells : upart 8 hTab = #[.int .u64 1779033703, .int .u64 3144134277, .int .u64 1013904242, .int .u64 2773480762, .int .u64 1359893119, .int .u64 2600822924, .int .u64 528734635, .int .u64 1541459225] := by kernel_rfl
theorem uzero64_cells : upart 64 [] = #[.int .u64 0, .int .u64 0, .int .u64 0, .int .u64 0, .int .u64 0, .int .u64 0, .int .u64 0, .int .u64 0, .int .u64 0, .int .u64 0, .int .u64 0, .int .u64 0, .int .u64 0, .int .u64 0, .int .u64 0, .int .u64 0, .int .u64 0, .int .u64 0, .int .u64 0, .int .u64 0, .int .u64 0, .int .u64 0, .int .u64 0, .int .u64 0, .int .u64 0, .int .u64 0, .int .u64 0, .int .u64 0, .int .u64 0, .int .u64 0, .int .u64 0, .int .u64 0, .int .u64 0, .int .u64 0, .int .u64 0, .int .u64 0, .int .u64 0, .int .u64 0, .int .u64 0, .int .u64 0, .int .u64 0, .int .u64 0, .int .u64 0, .int .u64 0, .int .u64 0, .int .u64 0, .int .u64 0, .int .u64 0, .int .u64 0, .int .u64 0, .int .u64 0, .int .u64 0, .int .u64 0, .int .u64 0, .int .u64 0, .int .u64 0, .int .u64 0, .int .u64 0, .int .u64 0, .int .u64 0, .int .u64 0, .int .u64 0, .int .u64 0, .int .u64 0] := by kernel_rfl

theorem uzero8_cells : upart 8 [] = #[.int .u64 0, .int .u64 0, .int .u64 0, .int .u64 0, .int .u64 0, .int .u64 0, .int .u64 0, .int .u64 0] := by kernel_rfl

theorem turnR2 (x : Wd) (a b : Nat) : turnR x [a, b] = x.rotateRight a ^^^ x.rotateRight b := by simp [turnR]
theorem turnR3 (x : Wd) (a b c : Nat) : turnR x [a, b, c] = x.rotateRight a ^^^ x.rotateRight b ^^^ x.rotateRight c := by simp [turnR]

theorem vfacts {W w : World} {I : Nat → Option Obj} {F : List (Nat × Obj)} {g : Nat} {t : TypeId} {s0 s1 s2 s3 s4 s5 s6 s7 : Wd} (h : St W w I ((g, .cells (upart 8 [s0, s1, s2, s3, s4, s5, s6, s7]) t (0, 0)) :: F)) :
    w.cell? ⟨g, 0, none⟩ = some (.int .u64 (wv s0)) ∧ w.cell? ⟨g, 1, none⟩ = some (.int .u64 (wv s1)) ∧ w.cell? ⟨g, 2, none⟩ = some (.int .u64 (wv s2)) ∧ w.cell? ⟨g, 3, none⟩ = some (.int .u64 (wv s3)) ∧ w.cell? ⟨g, 4, none⟩ = some (.int .u64 (wv s4)) ∧ w.cell? ⟨g, 5, none⟩ = some (.int .u64 (wv s5)) ∧ w.cell? ⟨g, 6, none⟩ = some (.int .u64 (wv s6)) ∧ w.cell? ⟨g, 7, none⟩ = some (.int .u64 (wv s7)) := by
  have c := fun i => h.cell (g := g) (cs := upart 8 [s0, s1, s2, s3, s4, s5, s6, s7]) (t := t) (fr := (0, 0)) (by simp) i
  exact ⟨c 0, c 1, c 2, c 3, c 4, c 5, c 6, c 7⟩
theorem upart8 (s0 s1 s2 s3 s4 s5 s6 s7 : Wd) : upart 8 [s0, s1, s2, s3, s4, s5, s6, s7] = #[.int .u64 (wv s0), .int .u64 (wv s1), .int .u64 (wv s2), .int .u64 (wv s3), .int .u64 (wv s4), .int .u64 (wv s5), .int .u64 (wv s6), .int .u64 (wv s7)] := rfl
theorem eight8 (l : List Wd) (hl : l.length = 8) : ∃ a0 a1 a2 a3 a4 a5 a6 a7, l = [a0, a1, a2, a3, a4, a5, a6, a7] := by
  match l, hl with
  | [a0, a1, a2, a3, a4, a5, a6, a7], _ => exact ⟨_, _, _, _, _, _, _, _, rfl⟩
end
end Go.Proofs.YtnhlpiomfljlcaaDoor
