/- mac: the chapter's example. -/
import Derived.Test.YtjkepnddmpgljaaMacSum
import Derived.Test.YtjkepnddmpgljaaText
import Derived.Lib.SlBytesConst
namespace Go.Proofs.Ytjkepnddmpgljaa
set_option linter.unusedVariables false
set_option linter.unusedSimpArgs false
open Go.RowKit

theorem mac_text : textOf (hashOf (macOut [74, 101, 102, 101] ([119, 104, 97, 116, 32, 100, 111, 32, 121, 97, 32, 119, 97, 110, 116, 32] ++ [102, 111, 114, 32, 110, 111, 116, 104, 105, 110, 103, 63]))) = [53, 98, 100, 99, 99, 49, 52, 54, 98, 102, 54, 48, 55, 53, 52, 101, 54, 97, 48, 52, 50, 52, 50, 54, 48, 56, 57, 53, 55, 53, 99, 55, 53, 97, 48, 48, 51, 102, 48, 56, 57, 100, 50, 55, 51, 57, 56, 51, 57, 100, 101, 99, 53, 56, 98, 57, 54, 52, 101, 99, 51, 56, 52, 51] := by kernel_rfl

/-- mac.Sum of parts that were laid side by side just now. -/
theorem msum_new {W w : World} {I : Nat → Option Obj} {F : List (Nat × Obj)} (key : Part) (ps : List Part) {n0 n : Nat} (hst : St W w I F) (hn0 : n0 = w.heap.size) (hn : n = ps.length) (hkey : key.In W I) (hkl : key.bs.length ≤ 1000000)
    (hsrc : ∀ p ∈ ps, p.In W I) (hlen : (cat ps).length ≤ 1000000) (hpl : n ≤ 9223372036854775806) :
    Calls Try.prog 23 #[.slice key.A key.bs.length key.c, .slice (some ⟨n0, 0, none⟩) n n] (w.alloc (.cells (ps.map Part.val).toArray 22)) fun e w' => e = .returned (.agg (HV (macOut key.bs (cat ps)))) ∧ St W w' I F := by
  subst hn0
  obtain ⟨J, hle, hJ, h1⟩ := (hst.alloc (.cells (ps.map Part.val).toArray 22)).freeze
  refine (msum key ps h1 hn (Part.In_mono hle hkey) hkl ?_ (fun p hp => Part.In_mono hle (hsrc p hp)) hlen hpl).mono ?_
  · intro i p hi
    unfold roCell
    simp only [hJ]
    rw [Nat.zero_add]
    simp [hi]
  · rintro e w' ⟨he, h'⟩
    exact ⟨he, h'.less hle⟩

set_option maxRecDepth 10000 in
set_option maxHeartbeats 1000000 in
theorem macAlive {W w : World} {I : Nat → Option Obj} {F : List (Nat × Obj)} (hst : St W w I F) :
    Calls Try.prog 21 #[] w fun e w' => e = .returned (.bool true) ∧ St W w' I F := by
  obtain ⟨J1, le1, e1, h1⟩ := (hst.alloc (.cells #[.int .u8 74, .int .u8 101, .int .u8 102, .int .u8 101] 5 (4, 5))).freeze
  obtain ⟨J2, le2, e2, h2⟩ := (h1.alloc (.cells #[.int .u8 119, .int .u8 104, .int .u8 97, .int .u8 116, .int .u8 32, .int .u8 100, .int .u8 111, .int .u8 32, .int .u8 121, .int .u8 97, .int .u8 32, .int .u8 119, .int .u8 97, .int .u8 110, .int .u8 116, .int .u8 32] 5 (16, 17))).freeze
  obtain ⟨J3, le3, e3, h3⟩ := (h2.alloc (.cells #[.int .u8 102, .int .u8 111, .int .u8 114, .int .u8 32, .int .u8 110, .int .u8 111, .int .u8 116, .int .u8 104, .int .u8 105, .int .u8 110, .int .u8 103, .int .u8 63] 5 (12, 13))).freeze
  simp only [World.size_alloc] at e1 e2 e3
  have i1 : Part.In ⟨some ⟨w.heap.size, 0, none⟩, 4, [74, 101, 102, 101]⟩ W J3 := part_lit (le3 _ _ (le2 _ _ e1)) (by intro j u hj; simpa [bval] using hj)
  have i2 : Part.In ⟨some ⟨w.heap.size + 1, 0, none⟩, 16, [119, 104, 97, 116, 32, 100, 111, 32, 121, 97, 32, 119, 97, 110, 116, 32]⟩ W J3 := part_lit (le3 _ _ e2) (by intro j u hj; simpa [bval] using hj)
  have i3 : Part.In ⟨some ⟨w.heap.size + 1 + 1, 0, none⟩, 12, [102, 111, 114, 32, 110, 111, 116, 104, 105, 110, 103, 63]⟩ W J3 := part_lit e3 (by intro j u hj; simpa [bval] using hj)
  have c1 := msum_new ⟨some ⟨w.heap.size, 0, none⟩, 4, [74, 101, 102, 101]⟩ [⟨some ⟨w.heap.size + 1, 0, none⟩, 16, [119, 104, 97, 116, 32, 100, 111, 32, 121, 97, 32, 119, 97, 110, 116, 32]⟩, ⟨some ⟨w.heap.size + 1 + 1, 0, none⟩, 12, [102, 111, 114, 32, 110, 111, 116, 104, 105, 110, 103, 63]⟩] h3 (n0 := w.heap.size + 1 + 1 + 1) (n := 2) (by simp) rfl i1 (by show 4 ≤ 1000000; omega) (in_cons i2 (in_cons i3 in_nil)) (by show 28 ≤ 1000000; omega) (by omega)
  have ec : cat [⟨some ⟨w.heap.size + 1, 0, none⟩, 16, [119, 104, 97, 116, 32, 100, 111, 32, 121, 97, 32, 119, 97, 110, 116, 32]⟩, ⟨some ⟨w.heap.size + 1 + 1, 0, none⟩, 12, [102, 111, 114, 32, 110, 111, 116, 104, 105, 110, 103, 63]⟩] = [119, 104, 97, 116, 32, 100, 111, 32, 121, 97, 32, 119, 97, 110, 116, 32] ++ [102, 111, 114, 32, 110, 111, 116, 104, 105, 110, 103, 63] := by simp [cat]
  rw [ec] at c1
  have c2 := fun w (h : St W w J3 F) => text_any (hashOf (macOut [74, 101, 102, 101] ([119, 104, 97, 116, 32, 100, 111, 32, 121, 97, 32, 119, 97, 110, 116, 32] ++ [102, 111, 114, 32, 110, 111, 116, 104, 105, 110, 103, 63]))) (hashOf_len _) h
  rw [mac_text] at c2
  have eHV : HV (macOut [74, 101, 102, 101] ([119, 104, 97, 116, 32, 100, 111, 32, 121, 97, 32, 119, 97, 110, 116, 32] ++ [102, 111, 114, 32, 110, 111, 116, 104, 105, 110, 103, 63])) = bcells (hashOf (macOut [74, 101, 102, 101] ([119, 104, 97, 116, 32, 100, 111, 32, 121, 97, 32, 119, 97, 110, 116, 32] ++ [102, 111, 114, 32, 110, 111, 116, 104, 105, 110, 103, 63]))) := rfl
  rw [← eHV] at c2
  simp only [] at c1
  generalize HV (macOut [74, 101, 102, 101] ([119, 104, 97, 116, 32, 100, 111, 32, 121, 97, 32, 119, 97, 110, 116, 32] ++ [102, 111, 114, 32, 110, 111, 116, 104, 105, 110, 103, 63])) = X at *
  simp only [Part.val, List.map_cons, List.map_nil, List.length_cons, List.length_nil, Nat.zero_add, Nat.reduceAdd] at c1
  have C1 := Lib.hid c1; have C2 := Lib.hid c2; have HLE := Lib.hid ((le1.trans le2).trans le3)
  clear h1 hst h2 h3 c1 c2 le1 le2 le3 e1 e2 e3 i1 i2 i3 eHV ec
  have kc := fun (w : World) (C : Array Value) (n c : Nat) => Lib.run_convert_bytes_const (P := Try.prog) w 22 5 C n c Try.underlying22 Try.underlying5
  have kc2 := fun (w : World) (o : Obj) (C : Array Value) (n c : Nat) => kc (w.alloc o) C n c
  have kc3 := fun (w : World) (o o' : Obj) (C : Array Value) (n c : Nat) => kc ((w.alloc o).alloc o') C n c
  simp only [World.size_alloc] at kc2 kc3
  go_enter Try.func21, Try.ntmps21
  go_wp2_with fail
  refine C1.out.mono ?_
  rintro e w3 ⟨rfl, h4⟩
  clear C1
  go_wp2_with fail
  refine (C2.out _ h4).mono ?_
  rintro e w4 ⟨rfl, h5⟩
  have h6 := St.less HLE.out h5
  clear C2 HLE h4 h5
  go_wp2_with fail
  go_ret
  exact ⟨rfl, h6⟩
end Go.Proofs.Ytjkepnddmpgljaa
