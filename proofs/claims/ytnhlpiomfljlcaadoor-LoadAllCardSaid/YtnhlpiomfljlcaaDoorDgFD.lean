/- SHA-256 in plain Lean: what is left over, the end, the hash. digest: some digests side by side; the functions as the laws meet them. -/
import Derived.Test.YtnhlpiomfljlcaaDoorDigPure
import Derived.Test.YtnhlpiomfljlcaaDoorQtail
import Derived.Test.YtnhlpiomfljlcaaDoorSha
import Derived.Test.YtnhlpiomfljlcaaDoorParts
import Derived.Test.YtnhlpiomfljlcaaDoorHashB
namespace Go.Proofs.YtnhlpiomfljlcaaDoor
section
set_option linter.unusedVariables false
set_option linter.unusedSimpArgs false
open Go.RowKit

theorem eat_mod : ∀ (n : Nat) (l : List Wd) (bs : List UInt8), bs.length < 64 * (n + 1) → (eat n l bs).2.length = bs.length % 64
  | 0, l, bs, h => by simp only [eat]; omega
  | n + 1, l, bs, h => by
    rw [eat]
    split
    · rw [eat_mod n _ _ (by rw [List.length_drop]; omega), List.length_drop]; omega
    · simp only []; omega
theorem took_mod (bs : List UInt8) : (took bs).2.length = bs.length % 64 := eat_mod _ _ _ (by omega)

/-- How many zeros stand behind. -/
def padZ (n : Nat) : Nat := (119 - n % 64) % 64
/-- The last eight bytes: how many bits, modulo 2^64. -/
def lenByte (n i : Nat) : UInt8 := UInt8.ofNat (n * 8 % 18446744073709551616 / 2 ^ (56 - 8 * i))
/-- What the state takes in the end. -/
def endTo (bs : List UInt8) (i : Nat) : List UInt8 := (bs ++ [128] ++ List.replicate (padZ bs.length) 0) ++ (List.range i).map (lenByte bs.length)
/-- The state in the end, and its bytes. -/
def endState (bs : List UInt8) : List Wd := (took (endTo bs 8)).1
def hashByte (l : List Wd) (i : Nat) : UInt8 := UInt8.ofNat ((l.getD (i / 4) 0).toNat / 2 ^ (24 - 8 * (i % 4)))
def hashOf (bs : List UInt8) : List UInt8 := (List.range 32).map (hashByte (endState bs))
end

section
set_option linter.unusedVariables false
set_option linter.unusedSimpArgs false
open Go.RowKit

/-- A hash as a value's cells. -/
def HV (bs : List UInt8) : Array Value := bcells (hashOf bs)
theorem hashOf_len (bs : List UInt8) : (hashOf bs).length = 32 := by simp [hashOf]
theorem eq_HV (bs : List UInt8) (w : World) : (Op.equalIn 10000 50 (.agg (HV bs)) (.agg (HV bs))).run Tryd.prog w = .ok true w := by
  rw [HV, eq_bcells _ _ (hashOf_len _) (hashOf_len _)]
  simp
end
end Go.Proofs.YtnhlpiomfljlcaaDoor
