/- Numbers read from digits, in plain Lean. strconv.ParseUint: walks. -/
import Derived.Test.YtjcekmmieihllaaDoorBase
import Derived.Lib.ItoaNum
import Derived.Test.YtjcekmmieihllaaDoorGlyPA
import Derived.Lib.IfaceEq
import Derived.Lib.ConvBytes
import Derived.Laws.Strings3
import Derived.Laws.Closers25
import Derived.Laws.Closers25b
import Derived.BigGuard
namespace Go.Proofs.YtjcekmmieihllaaDoor
section
set_option linter.unusedVariables false
set_option linter.unusedSimpArgs false

/-- What a byte counts as a digit; 99: it is none. -/
def dgv (c : UInt8) : Nat := if 48 ≤ c.toNat ∧ c.toNat ≤ 57 then c.toNat - 48 else if 65 ≤ c.toNat ∧ c.toNat ≤ 90 then c.toNat - 55 else if 97 ≤ c.toNat ∧ c.toNat ≤ 122 then c.toNat - 87 else 99
/-- The number that digits say, none above M. -/
def pU (base M : Nat) : Nat → List UInt8 → Option Nat
  | acc, [] => some acc
  | acc, c :: r => if base ≤ dgv c then none else if M < acc * base + dgv c then none else pU base M (acc * base + dgv c) r
/-- The number that a text says. -/
def pN (base M : Nat) (l : List UInt8) : Option Nat := if l = [] then none else pU base M 0 l
theorem pU_le (base M : Nat) : ∀ (l : List UInt8) (acc u : Nat), acc ≤ M → pU base M acc l = some u → u ≤ M
  | [], acc, u, h, e => by simp [pU] at e; omega
  | c :: r, acc, u, h, e => by
    simp only [pU] at e
    split at e
    · cases e
    · split at e
      · cases e
      · exact pU_le base M r _ u (by omega) e
theorem pN_le (base M : Nat) (l : List UInt8) (u : Nat) (e : pN base M l = some u) : u ≤ M := by
  unfold pN at e
  split at e
  · cases e
  · exact pU_le base M l 0 u (by omega) e
theorem pU_append (base M : Nat) : ∀ (l m : List UInt8) (acc : Nat), pU base M acc (l ++ m) = (pU base M acc l).bind fun a => pU base M a m
  | [], m, acc => rfl
  | c :: r, m, acc => by
    simp only [List.cons_append, pU]
    split
    · rfl
    · split
      · rfl
      · exact pU_append base M r m _
theorem dgv_dec (n : Nat) (h : n < 10) : dgv (UInt8.ofNat (48 + n)) = n := by
  unfold dgv
  have e : (UInt8.ofNat (48 + n)).toNat = 48 + n := by rw [UInt8.toNat_ofNat']; omega
  rw [e, if_pos (by omega)]
  omega
theorem pU_dec1 (M n : Nat) (h10 : n < 10) (hm : n ≤ M) : pU 10 M 0 (Lib.decDigits n) = some n := by
  rw [Lib.decDigits, dif_pos h10]
  simp only [pU]
  rw [dgv_dec n h10, if_neg (by omega), if_neg (by omega)]
  simp
theorem pU_dec (M : Nat) : ∀ (k n : Nat), n < 10 ^ k → n ≤ M → pU 10 M 0 (Lib.decDigits n) = some n
  | 0, n, h, hm => pU_dec1 M n (by simp at h; omega) hm
  | k + 1, n, h, hm => by
    by_cases h10 : n < 10
    · exact pU_dec1 M n h10 hm
    · rw [Lib.decDigits, dif_neg h10, pU_append, pU_dec M k (n / 10) (by rw [Nat.pow_succ] at h; omega) (by omega)]
      simp only [Option.bind_some, pU]
      rw [dgv_dec _ (by omega), if_neg (by omega), if_neg (by omega)]
      congr 1
      omega
theorem decD_ne (n : Nat) : Lib.decDigits n ≠ [] := by
  rw [Lib.decDigits]
  split <;> simp
theorem pN_dec (M : Nat) (n : Nat) (hm : n ≤ M) (h : n < 10 ^ 20) : pN 10 M (Lib.decDigits n) = some n := by
  rw [pN, if_neg (decD_ne n)]
  exact pU_dec M 20 n h hm
/-- Decimal digits are digits. -/
theorem decD_all : ∀ (k n : Nat), n < 10 ^ k → ∀ c ∈ Lib.decDigits n, 48 ≤ c.toNat ∧ c.toNat ≤ 57
  | 0, n, h, c, hc => by
    rw [Lib.decDigits, dif_pos (by simp at h; omega)] at hc
    simp at h hc
    subst h; subst hc
    decide
  | k + 1, n, h, c, hc => by
    by_cases h10 : n < 10
    · rw [Lib.decDigits, dif_pos h10] at hc
      rw [List.mem_singleton] at hc
      subst hc
      have e : (UInt8.ofNat (48 + n)).toNat = 48 + n := by rw [UInt8.toNat_ofNat']; omega
      omega
    · rw [Lib.decDigits, dif_neg h10] at hc
      rcases List.mem_append.1 hc with hc | hc
      · exact decD_all k (n / 10) (by rw [Nat.pow_succ] at h; omega) c hc
      · rw [List.mem_singleton] at hc
        subst hc
        have e : (UInt8.ofNat (48 + n % 10)).toNat = 48 + n % 10 := by rw [UInt8.toNat_ofNat']; omega
        omega
end

section
set_option linter.unusedVariables false
set_option linter.unusedSimpArgs false
open Go.RowKit Go.Lib Go.Shelf

/-- A letter, made small. -/
def lowN (c : UInt8) : Nat := (c ||| 32).toNat
theorem lowN_facts (c : UInt8) : lowN c < 256 ∧ (¬ (48 ≤ c.toNat ∧ c.toNat ≤ 57) → (97 ≤ lowN c ∧ lowN c ≤ 122 → dgv c = lowN c - 87) ∧ (¬ (97 ≤ lowN c ∧ lowN c ≤ 122) → dgv c = 99)) ∧ bits .or .u8 (c.toNat : Int) 32 = (lowN c : Int) := by
  have h : ∀ n, n < 256 → lowN (UInt8.ofNat n) < 256 ∧ (¬ (48 ≤ (UInt8.ofNat n).toNat ∧ (UInt8.ofNat n).toNat ≤ 57) → (97 ≤ lowN (UInt8.ofNat n) ∧ lowN (UInt8.ofNat n) ≤ 122 → dgv (UInt8.ofNat n) = lowN (UInt8.ofNat n) - 87) ∧ (¬ (97 ≤ lowN (UInt8.ofNat n) ∧ lowN (UInt8.ofNat n) ≤ 122) → dgv (UInt8.ofNat n) = 99)) ∧ bits .or .u8 ((UInt8.ofNat n).toNat : Int) 32 = (lowN (UInt8.ofNat n) : Int) := by decide +kernel
  have := h c.toNat c.toNat_lt
  rwa [UInt8.ofNat_toNat] at this
theorem lower_any (c : UInt8) (w : World) : Calls Tryd.prog 94 #[.int .u8 (c.toNat : Int)] w fun e w' => e = .returned (.int .u8 (lowN c)) ∧ w = w' := by
  have hb := (lowN_facts c).2.2
  have HB := Lib.hid hb
  clear hb
  go_enter Tryd.func94, Tryd.ntmps94
  go_wp2
  go_ret
  exact ⟨congrArg (fun z => Ending.returned (.int .u8 z)) HB.out, rfl⟩
theorem St.conv0 {W w : World} {I : Nat → Option Obj} {F : List (Nat × Obj)} (h : St W w I F) (e : TypeId) (s : ByteArray) : St W (Lib.bytesWorld w e s) I F :=
  h.belowTo ⟨rfl, rfl, rfl, by rw [Lib.bytesWorld_size]; omega, fun k hk => Lib.bytesWorld_at_old w e s k hk⟩
/-- What is answered of the inner package: a number, or one of its two errors. -/
def PinPost (W : World) (I : Nat → Option Obj) (F : List (Nat × Obj)) (r : Option Nat) (e : Ending) (w' : World) : Prop :=
  St W w' I F ∧ match r with
  | some u => e = .returned (.tuple #[.int .u64 u, .nilIface])
  | none => ∃ (x k : Int), e = .returned (.tuple #[.int .u64 x, .iface 158 (.int .i64 k)]) ∧ (k = 2 ∨ k = 1)
/-- A number, or an error. -/
def PuPost (W : World) (I : Nat → Option Obj) (F : List (Nat × Obj)) (r : Option Nat) (e : Ending) (w' : World) : Prop :=
  St W w' I F ∧ match r with
  | some u => e = .returned (.tuple #[.int .u64 u, .nilIface])
  | none => ∃ (x : Int) (t : TypeId) (p : Value), e = .returned (.tuple #[.int .u64 x, .iface t p])
end
end Go.Proofs.YtjcekmmieihllaaDoor
