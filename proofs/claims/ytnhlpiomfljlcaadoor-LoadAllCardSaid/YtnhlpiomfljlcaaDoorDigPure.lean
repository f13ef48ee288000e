/- digest: bytes taken in blocks. -/
import Derived.Test.YtnhlpiomfljlcaaDoorMixPure
namespace Go.Proofs.YtnhlpiomfljlcaaDoor
set_option linter.unusedVariables false
set_option linter.unusedSimpArgs false
open Go.RowKit

/-- Blocks of 64 go into the state as long as there is one. -/
def eat : Nat → List Wd → List UInt8 → List Wd × List UInt8
  | 0, l, bs => (l, bs)
  | n + 1, l, bs => if 64 ≤ bs.length then eat n (mixW l (bs.take 64)) (bs.drop 64) else (l, bs)

theorem eat_short (l : List Wd) (bs : List UInt8) (h : bs.length < 64) : ∀ n, eat n l bs = (l, bs)
  | 0 => rfl
  | n + 1 => by rw [eat, if_neg (by omega)]

theorem eat_fuel : ∀ (n : Nat) (l : List Wd) (bs : List UInt8), bs.length < 64 * (n + 1) → ∀ k, eat (n + k) l bs = eat n l bs
  | 0, l, bs, h, k => by rw [eat_short l bs (by omega), eat_short l bs (by omega)]
  | n + 1, l, bs, h, k => by
    rw [show n + 1 + k = (n + k) + 1 by omega, eat, eat]
    split
    · exact eat_fuel n _ _ (by rw [List.length_drop]; omega) k
    · rfl

theorem eat_any {m n : Nat} (l : List Wd) (bs : List UInt8) (hm : bs.length < 64 * (m + 1)) (hn : bs.length < 64 * (n + 1)) : eat m l bs = eat n l bs := by
  rcases Nat.le_total m n with h | h
  · rw [show n = m + (n - m) by omega, eat_fuel m l bs hm]
  · rw [show m = n + (m - n) by omega, eat_fuel n l bs hn]

/-- The state and the rest behind bytes. -/
def took (bs : List UInt8) : List Wd × List UInt8 := eat bs.length hTab bs

theorem eat_rest : ∀ (n : Nat) (l : List Wd) (bs : List UInt8), bs.length < 64 * (n + 1) → (eat n l bs).2.length < 64
  | 0, l, bs, h => by simpa [eat] using h
  | n + 1, l, bs, h => by
    rw [eat]
    split
    · exact eat_rest n _ _ (by rw [List.length_drop]; omega)
    · simp only []; omega

theorem mixW_len (l : List Wd) (bs : List UInt8) (h : l.length = 8) : (mixW l bs).length = 8 := by
  simp [mixW, roundsTo_len l _ h, h]

theorem eat_state : ∀ (n : Nat) (l : List Wd) (bs : List UInt8), l.length = 8 → (eat n l bs).1.length = 8
  | 0, l, bs, h => h
  | n + 1, l, bs, h => by
    rw [eat]
    split
    · exact eat_state n _ _ (mixW_len _ _ h)
    · exact h

theorem eat_append : ∀ (n : Nat) (l : List Wd) (bs cs : List UInt8) (m k : Nat), bs.length < 64 * (n + 1) → (bs ++ cs).length < 64 * (m + 1) → ((eat n l bs).2 ++ cs).length < 64 * (k + 1) →
    eat m l (bs ++ cs) = eat k (eat n l bs).1 ((eat n l bs).2 ++ cs)
  | 0, l, bs, cs, m, k, h1, h2, h3 => eat_any l _ h2 (by simpa [eat] using h3)
  | n + 1, l, bs, cs, m, k, h1, h2, h3 => by
    by_cases h : 64 ≤ bs.length
    · rw [eat, if_pos h] at h3 ⊢
      cases m with
      | zero => rw [List.length_append] at h2; omega
      | succ m =>
        rw [eat, if_pos (by rw [List.length_append]; omega), List.take_append_of_le_length h, List.drop_append_of_le_length h]
        exact eat_append n _ (bs.drop 64) cs m k (by rw [List.length_drop]; omega) (by rw [← List.drop_append_of_le_length h, List.length_drop]; omega) h3
    · rw [eat, if_neg h] at h3 ⊢
      exact eat_any l _ h2 h3

theorem took_append (bs cs : List UInt8) (k : Nat) (hk : ((took bs).2 ++ cs).length < 64 * (k + 1)) : took (bs ++ cs) = eat k (took bs).1 ((took bs).2 ++ cs) :=
  eat_append bs.length hTab bs cs _ k (by omega) (by omega) hk
theorem took_rest (bs : List UInt8) : (took bs).2.length < 64 := eat_rest _ _ _ (by omega)
theorem took_state (bs : List UInt8) : (took bs).1.length = 8 := eat_state _ _ _ hTab_len

end Go.Proofs.YtnhlpiomfljlcaaDoor
