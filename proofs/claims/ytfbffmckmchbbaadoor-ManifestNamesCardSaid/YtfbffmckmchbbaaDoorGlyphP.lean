/- Names of letters of any kind: what is asked of a text, in plain Lean. -/
import Derived.Lib.DecodeN
import Derived.Lib.RuneBytes
import Derived.Laws.RangeAny
import Derived.Shelf.Unicode.CaseLaid
import Derived.Shelf.Unicode.PredsPay
import Derived.Lib.TrimU
namespace Go.Proofs.YtfbffmckmchbbaaDoor
set_option linter.unusedVariables false
set_option linter.unusedSimpArgs false
open Go.RowKit Go.Lib

/-- Is the byte at a place none of a rune's? -/
def brokenAt (s : ByteArray) (pos : Nat) : Bool := (Utf8.decode s pos).1 == 65533 && (Utf8.decode s pos).2 == 1
/-- The runes of a text: where each begins. -/
def runesFrom (s : ByteArray) : Nat → Nat → List Nat
  | 0, _ => []
  | f + 1, pos => if pos < s.size then pos :: runesFrom s f (pos + (Utf8.decode s pos).2) else []
def runesOf (s : ByteArray) : List Nat := runesFrom s s.size 0

def foldPiece (s : ByteArray) (pos : Nat) : List UInt8 := if brokenAt s pos then [s.get! pos] else Lib.encodeRune (toLowerU ((Utf8.decode s pos).1 : Int))
def foldOf (s : ByteArray) : List UInt8 := (runesOf s).flatMap (foldPiece s)

def partOk (c : Int) (first : Bool) : Bool := isLetterU c || (!first && (isDigitU c || c == 45 || c == 95 || c == 46))
def placeOk (s : ByteArray) (pos : Nat) (first : Bool) : Bool := !brokenAt s pos && partOk ((Utf8.decode s pos).1 : Int) first
def allOk (s : ByteArray) : List Nat → Nat → Bool
  | [], _ => true
  | pos :: l, i => placeOk s pos (i == 0) && allOk s l (i + 1)
def nameOk (s : ByteArray) : Bool := decide (1 ≤ (runesOf s).length) && decide ((runesOf s).length ≤ 24) && allOk s (runesOf s) 0

theorem width_le (s : ByteArray) (pos : Nat) (h : pos < s.size) : pos + (Utf8.decode s pos).2 ≤ s.size := by
  rw [decode_at]
  unfold decodeN
  repeat' split
  all_goals simp only []
  all_goals omega
theorem runesFrom_end (s : ByteArray) (f pos : Nat) (h : ¬ pos < s.size) : runesFrom s f pos = [] := by
  cases f with
  | zero => rfl
  | succ f => simp [runesFrom, h]
theorem runesFrom_step (s : ByteArray) (f pos : Nat) (h : pos < s.size) : runesFrom s (f + 1) pos = pos :: runesFrom s f (pos + (Utf8.decode s pos).2) := by simp [runesFrom, h]
theorem runesFrom_len (s : ByteArray) : ∀ (f pos : Nat), (runesFrom s f pos).length ≤ s.size - pos
  | 0, pos => by simp [runesFrom]
  | f + 1, pos => by
    by_cases h : pos < s.size
    · rw [runesFrom_step s f pos h]
      have := runesFrom_len s f (pos + (Utf8.decode s pos).2)
      have := width_pos s pos
      simp
      omega
    · rw [runesFrom_end s _ _ h]; simp
theorem runesOf_len (s : ByteArray) : (runesOf s).length ≤ s.size := by unfold runesOf; have := runesFrom_len s s.size 0; simpa using this
theorem runesFrom_lt (s : ByteArray) : ∀ (f pos : Nat), ∀ p ∈ runesFrom s f pos, p < s.size
  | 0, pos, p, h => by simp [runesFrom] at h
  | f + 1, pos, p, h => by
    by_cases hp : pos < s.size
    · rw [runesFrom_step s f pos hp] at h
      rcases List.mem_cons.1 h with rfl | h
      · exact hp
      · exact runesFrom_lt s f _ p h
    · rw [runesFrom_end s _ _ hp] at h; simp at h
theorem runesOf_lt (s : ByteArray) : ∀ p ∈ runesOf s, p < s.size := runesFrom_lt s s.size 0
theorem allOk_append (s : ByteArray) : ∀ (l m : List Nat) (i : Nat), allOk s (l ++ m) i = (allOk s l i && allOk s m (i + l.length))
  | [], m, i => by simp [allOk]
  | p :: l, m, i => by
    simp only [List.cons_append, allOk, List.length_cons]
    rw [allOk_append s l m (i + 1), Bool.and_assoc, show i + 1 + l.length = i + (l.length + 1) by omega]
theorem foldPiece_len (s : ByteArray) (pos : Nat) : (foldPiece s pos).length ≤ 4 := by
  unfold foldPiece
  split
  · simp
  · have := Lib.encodeRuneZ_length (toLowerU ((Utf8.decode s pos).1 : Int))
    simp [Lib.encodeRune]
    omega
theorem foldPieces_len (s : ByteArray) (l : List Nat) : (l.flatMap (foldPiece s)).length ≤ 4 * l.length := by
  induction l with
  | nil => simp
  | cons p l ih =>
    have := foldPiece_len s p
    simp only [List.flatMap_cons, List.length_append, List.length_cons]
    omega
theorem foldOf_len (s : ByteArray) : (foldOf s).length ≤ 4 * s.size := by
  have := foldPieces_len s (runesOf s)
  have := runesOf_len s
  unfold foldOf
  omega

/-- What follows in a text from a place on. -/
def tailOf (s : ByteArray) (pos : Nat) : ByteArray := s.extract pos s.size
theorem tailOf_size (s : ByteArray) (pos : Nat) : (tailOf s pos).size = s.size - pos := by simp [tailOf]
theorem get_lt (s : ByteArray) (k : Nat) (h : k < s.size) : s.get! k = s[k]'h := by have := get_at s k h; simpa using this
theorem tailOf_get (s : ByteArray) (pos k : Nat) (h : pos + k < s.size) : (tailOf s pos).get! k = s.get! (pos + k) := by
  have h1 : k < (tailOf s pos).size := by rw [tailOf_size]; omega
  rw [get_lt _ _ h1, get_lt _ _ h]
  simp [tailOf, ByteArray.getElem_extract]
theorem decode_tail (s : ByteArray) (pos : Nat) (h : pos < s.size) : Utf8.decode (tailOf s pos) 0 = Utf8.decode s pos := by
  rw [decode_at, decode_at, tailOf_size]
  have hb : ∀ k, pos + k < s.size → ((tailOf s pos).get! (0 + k)).toNat = (s.get! (pos + k)).toNat := fun k hk => by rw [Nat.zero_add, tailOf_get s pos k hk]
  have e0 := hb 0 (by omega)
  simp only [Nat.add_zero, Nat.sub_zero] at e0 ⊢
  rw [e0]
  unfold decodeN
  by_cases n1 : 1 < s.size - pos
  · rw [hb 1 (by omega)]
    by_cases n2 : 2 < s.size - pos
    · rw [hb 2 (by omega)]
      by_cases n3 : 3 < s.size - pos
      · rw [hb 3 (by omega)]
      · simp only [n3, false_and, and_false, if_false]
    · have n3 : ¬ 3 < s.size - pos := by omega
      simp only [n2, n3, false_and, and_false, if_false]
  · have n2 : ¬ 2 < s.size - pos := by omega
    have n3 : ¬ 3 < s.size - pos := by omega
    simp only [n1, n2, n3, false_and, and_false, if_false]
theorem broken_tail (s : ByteArray) (pos : Nat) (h : pos < s.size) : brokenAt (tailOf s pos) 0 = brokenAt s pos := by unfold brokenAt; rw [decode_tail s pos h]
theorem tail_tail (s : ByteArray) (pos k : Nat) (h : pos + k ≤ s.size) : tailOf (tailOf s pos) k = tailOf s (pos + k) := by
  apply ByteArray.ext
  simp only [tailOf, ByteArray.size_extract, ByteArray.data_extract, Array.extract_extract]
  congr 1
  omega

/-- What the document's decoder finds at a text's head. -/
def refBroken (s : ByteArray) (pos : Nat) : Bool := brokenAt s pos
def refNumber (s : ByteArray) (pos : Nat) : Nat := if brokenAt s pos then (s.get! pos).toNat else (Utf8.decode s pos).1
def refBytes (s : ByteArray) (pos : Nat) : ByteArray := s.extract pos (pos + (Utf8.decode s pos).2)

/-- A rune's number, no surrogate half. -/
def ROk (r : Int) : Prop := (0 ≤ r ∧ r < 55296) ∨ (57344 ≤ r ∧ r ≤ 1114111)
theorem ROk.range {r : Int} (h : ROk r) : -2147483648 ≤ r ∧ r ≤ 2147483647 := by unfold ROk at h; omega
theorem rune_ok (s : ByteArray) (pos : Nat) : ROk ((Utf8.decode s pos).1 : Int) := by
  rw [decode_at]
  have h0 := (s.get! pos).toNat_lt
  unfold decodeN ROk
  repeat' split
  all_goals simp only []
  all_goals omega
def rowLow (x : CaseRow) : Bool :=
  if x.delta 1 > 1114111 then (decide (x.2.1 + 1 < 55296) || (decide (57344 ≤ x.1) && decide (x.2.1 + 1 ≤ 1114111)))
  else (decide (0 ≤ (x.1 : Int) + x.delta 1) && decide ((x.2.1 : Int) + x.delta 1 < 55296)) || (decide (57344 ≤ (x.1 : Int) + x.delta 1) && decide ((x.2.1 : Int) + x.delta 1 ≤ 1114111))
set_option maxRecDepth 1000000 in
theorem rowsLow : caseT.all rowLow = true := by decide
theorem caseA_low (i : Nat) (hi : i < caseA.size) : rowLow (caseA.getD i (0, 0, 0, 0, 0)) = true := by
  have hm : caseA.getD i (0, 0, 0, 0, 0) ∈ caseT := by
    unfold caseA at hi ⊢
    simp only [List.size_toArray] at hi
    simp [Array.getD, hi]
  exact List.all_eq_true.1 rowsLow _ hm
theorem toLowerU_ok (r : Int) (h : ROk r) : ROk (toLowerU r) := by
  unfold toLowerU
  split
  · split
    · unfold ROk at *; omega
    · exact h
  · unfold toR lookupGo
    cases hi : lookupIdx caseA r (caseA.size + 1) 0 caseA.size with
    | none => exact h
    | some i =>
      obtain ⟨hil, hlo, hhi⟩ := lookupIdx_some caseA r _ _ _ i hi
      have hx := caseA_low i hil
      simp only [Option.map_some]
      generalize caseA.getD i (0, 0, 0, 0, 0) = x at *
      unfold rowLow at hx
      unfold convertR
      split at hx
      · rename_i h1
        rw [if_pos h1]
        simp only [Bool.or_eq_true, Bool.and_eq_true, decide_eq_true_eq] at hx
        unfold ROk at *
        omega
      · rename_i h1
        rw [if_neg h1]
        simp only [Bool.or_eq_true, Bool.and_eq_true, decide_eq_true_eq] at hx
        unfold ROk at *
        omega
end Go.Proofs.YtfbffmckmchbbaaDoor
