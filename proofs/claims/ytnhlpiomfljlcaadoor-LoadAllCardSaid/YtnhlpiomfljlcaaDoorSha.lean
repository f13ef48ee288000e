/- The digest, as a function on lists of bytes. -/
import Derived.Test.YtnhlpiomfljlcaaDoorWords
namespace Go.Proofs.YtnhlpiomfljlcaaDoor
set_option linter.unusedVariables false
set_option linter.unusedSimpArgs false
open Go.RowKit

def wz : Value := .int .u32 0
/-- A word as it lies in memory. -/
def wval (x : Wd) : Value := .int .u32 (wv x)
theorem wval_zero : wval 0 = wz := rfl

def sig0 (x : Wd) : Wd := turnR x [7, 18] ^^^ (x >>> 3)
def sig1 (x : Wd) : Wd := turnR x [17, 19] ^^^ (x >>> 10)
def wordAt (bs : List UInt8) (t : Nat) : Wd := ((bw (bs.getD (4 * t) 0) <<< 24 ||| bw (bs.getD (4 * t + 1) 0) <<< 16) ||| bw (bs.getD (4 * t + 2) 0) <<< 8) ||| bw (bs.getD (4 * t + 3) 0)
def shaNextW (l : List Wd) (t : Nat) : Wd := l.getD (t - 16) 0 + sig0 (l.getD (t - 15) 0) + l.getD (t - 7) 0 + sig1 (l.getD (t - 2) 0)
def schedTo (bs : List UInt8) : Nat → List Wd
  | 0 => []
  | t + 1 => schedTo bs t ++ [if t < 16 then wordAt bs t else shaNextW (schedTo bs t) t]
def sched (bs : List UInt8) : List Wd := schedTo bs 64
theorem schedTo_len (bs : List UInt8) (t : Nat) : (schedTo bs t).length = t := by
  induction t with
  | zero => rfl
  | succ t ih => simp [schedTo, ih]

/-- The cells of an array of which so much is written. -/
def part (n : Nat) (l : List Wd) : Array Value := (l.map wval ++ List.replicate (n - l.length) wz).toArray
theorem part_size (n : Nat) (l : List Wd) (h : l.length ≤ n) : (part n l).size = n := by simp [part]; omega
theorem part_get (n : Nat) (l : List Wd) (i : Nat) (h : i < l.length) : (part n l)[i]? = some (wval (l.getD i 0)) := by
  simp [part, List.getElem?_append_left, h, List.getD_eq_getElem?_getD, List.getElem?_eq_getElem h]
theorem part_zero (n : Nat) (l : List Wd) (i : Nat) (h : l.length ≤ i) (hn : i < n) : (part n l)[i]? = some wz := by
  have h2 : i - l.length < n - l.length := by omega
  simp [part, List.getElem?_append_right, h, List.getElem?_replicate, h2]
theorem part_push (n : Nat) (l : List Wd) (x : Wd) (h : l.length < n) : (part n l).setIfInBounds l.length (wval x) = part n (l ++ [x]) := by
  unfold part
  apply Array.toList_inj.1
  rw [Array.toList_setIfInBounds]
  simp only [List.map_append, List.map_cons, List.map_nil, List.length_append, List.length_cons, List.length_nil, Nat.zero_add, List.append_assoc]
  rw [show n - l.length = (n - (l.length + 1)) + 1 by omega, List.replicate_succ, List.set_append_right _ _ (by simp)]
  simp
theorem part_full (n : Nat) (l : List Wd) (h : l.length = n) : part n l = (l.map wval).toArray := by simp [part, h]
end Go.Proofs.YtnhlpiomfljlcaaDoor
