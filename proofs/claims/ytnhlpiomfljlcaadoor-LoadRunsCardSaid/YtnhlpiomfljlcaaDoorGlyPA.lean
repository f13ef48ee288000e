/- Names of letters of any kind: what is asked of a text, in plain Lean. glyph.Name: walks. -/
import Derived.Lib.DecodeN
import Derived.Lib.RuneBytes
import Derived.Laws.RangeAny
import Derived.Shelf.Unicode.CaseLaid
import Derived.Shelf.Unicode.PredsPay
import Derived.Lib.TrimU
import Derived.Test.YtnhlpiomfljlcaaDoorTabs
import Derived.Test.YtnhlpiomfljlcaaDoorSlices
import Derived.Lib.OthersKept
import Derived.WalkKit
namespace Go.Proofs.YtnhlpiomfljlcaaDoor
section
set_option linter.unusedVariables false
set_option linter.unusedSimpArgs false
open Go.RowKit Go.Lib

/-- Is the byte at a place none of a rune's? -/
def brokenAt (s : ByteArray) (pos : Nat) : Bool := (Utf8.decode s pos).1 == 65533 && (Utf8.decode s pos).2 == 1
/-- The runes of a text: where each begins. -/
def runesFrom (s : ByteArray) : Nat → Nat → List Nat
  | 0, _ => []
  | f + 1, pos => if pos < s.size then pos :: runesFrom s f (pos + (Utf8.decode s pos).2) else []
def runesOf (s : ByteArray) : List Nat := runesFrom s s.size 0

def foldPiece (s : ByteArray) (pos : Nat) : List UInt8 := if brokenAt s pos then [s.get! pos] else Lib.encodeRune (toLowerU ((Utf8.decode s pos).1 : Int))
def foldOf (s : ByteArray) : List UInt8 := (runesOf s).flatMap (foldPiece s)

def partOk (c : Int) (first : Bool) : Bool := isLetterU c || (!first && (isDigitU c || c == 45 || c == 95 || c == 46))
def placeOk (s : ByteArray) (pos : Nat) (first : Bool) : Bool := !brokenAt s pos && partOk ((Utf8.decode s pos).1 : Int) first
def allOk (s : ByteArray) : List Nat → Nat → Bool
  | [], _ => true
  | pos :: l, i => placeOk s pos (i == 0) && allOk s l (i + 1)
def nameOk (s : ByteArray) : Bool := decide (1 ≤ (runesOf s).length) && decide ((runesOf s).length ≤ 24) && allOk s (runesOf s) 0

theorem width_le (s : ByteArray) (pos : Nat) (h : pos < s.size) : pos + (Utf8.decode s pos).2 ≤ s.size := by
  rw [decode_at]
  unfold decodeN
  repeat' split
  all_goals simp only []
  all_goals omega
theorem runesFrom_end (s : ByteArray) (f pos : Nat) (h : ¬ pos < s.size) : runesFrom s f pos = [] := by
  cases f with
  | zero => rfl
  | succ f => simp [runesFrom, h]
theorem runesFrom_step (s : ByteArray) (f pos : Nat) (h : pos < s.size) : runesFrom s (f + 1) pos = pos :: runesFrom s f (pos + (Utf8.decode s pos).2) := by simp [runesFrom, h]
theorem runesFrom_len (s : ByteArray) : ∀ (f pos : Nat), (runesFrom s f pos).length ≤ s.size - pos
  | 0, pos => by simp [runesFrom]
  | f + 1, pos => by
    by_cases h : pos < s.size
    · rw [runesFrom_step s f pos h]
      have := runesFrom_len s f (pos + (Utf8.decode s pos).2)
      have := width_pos s pos
      simp
      omega
    · rw [runesFrom_end s _ _ h]; simp
theorem runesOf_len (s : ByteArray) : (runesOf s).length ≤ s.size := by unfold runesOf; have := runesFrom_len s s.size 0; simpa using this
theorem runesFrom_lt (s : ByteArray) : ∀ (f pos : Nat), ∀ p ∈ runesFrom s f pos, p < s.size
  | 0, pos, p, h => by simp [runesFrom] at h
  | f + 1, pos, p, h => by
    by_cases hp : pos < s.size
    · rw [runesFrom_step s f pos hp] at h
      rcases List.mem_cons.1 h with rfl | h
      · exact hp
      · exact runesFrom_lt s f _ p h
    · rw [runesFrom_end s _ _ hp] at h; simp at h
theorem runesOf_lt (s : ByteArray) : ∀ p ∈ runesOf s, p < s.size := runesFrom_lt s s.size 0
theorem allOk_append (s : ByteArray) : ∀ (l m : List Nat) (i : Nat), allOk s (l ++ m) i = (allOk s l i && allOk s m (i + l.length))
  | [], m, i => by simp [allOk]
  | p :: l, m, i => by
    simp only [List.cons_append, allOk, List.length_cons]
    rw [allOk_append s l m (i + 1), Bool.and_assoc, show i + 1 + l.length = i + (l.length + 1) by omega]
theorem foldPiece_len (s : ByteArray) (pos : Nat) : (foldPiece s pos).length ≤ 4 := by
  unfold foldPiece
  split
  · simp
  · have := Lib.encodeRuneZ_length (toLowerU ((Utf8.decode s pos).1 : Int))
    simp [Lib.encodeRune]
    omega
theorem foldPieces_len (s : ByteArray) (l : List Nat) : (l.flatMap (foldPiece s)).length ≤ 4 * l.length := by
  induction l with
  | nil => simp
  | cons p l ih =>
    have := foldPiece_len s p
    simp only [List.flatMap_cons, List.length_append, List.length_cons]
    omega
theorem foldOf_len (s : ByteArray) : (foldOf s).length ≤ 4 * s.size := by
  have := foldPieces_len s (runesOf s)
  have := runesOf_len s
  unfold foldOf
  omega

/-- What follows in a text from a place on. -/
def tailOf (s : ByteArray) (pos : Nat) : ByteArray := s.extract pos s.size
theorem tailOf_size (s : ByteArray) (pos : Nat) : (tailOf s pos).size = s.size - pos := by simp [tailOf]
theorem get_lt (s : ByteArray) (k : Nat) (h : k < s.size) : s.get! k = s[k]'h := by have := get_at s k h; simpa using this
theorem tailOf_get (s : ByteArray) (pos k : Nat) (h : pos + k < s.size) : (tailOf s pos).get! k = s.get! (pos + k) := by
  have h1 : k < (tailOf s pos).size := by rw [tailOf_size]; omega
  rw [get_lt _ _ h1, get_lt _ _ h]
  simp [tailOf, ByteArray.getElem_extract]
theorem decode_tail (s : ByteArray) (pos : Nat) (h : pos < s.size) : Utf8.decode (tailOf s pos) 0 = Utf8.decode s pos := by
  rw [decode_at, decode_at, tailOf_size]
  have hb : ∀ k, pos + k < s.size → ((tailOf s pos).get! (0 + k)).toNat = (s.get! (pos + k)).toNat := fun k hk => by rw [Nat.zero_add, tailOf_get s pos k hk]
  have e0 := hb 0 (by omega)
  simp only [Nat.add_zero, Nat.sub_zero] at e0 ⊢
  rw [e0]
  unfold decodeN
  by_cases n1 : 1 < s.size - pos
  · rw [hb 1 (by omega)]
    by_cases n2 : 2 < s.size - pos
    · rw [hb 2 (by omega)]
      by_cases n3 : 3 < s.size - pos
      · rw [hb 3 (by omega)]
      · simp only [n3, false_and, and_false, if_false]
    · have n3 : ¬ 3 < s.size - pos := by omega
      simp only [n2, n3, false_and, and_false, if_false]
  · have n2 : ¬ 2 < s.size - pos := by omega
    have n3 : ¬ 3 < s.size - pos := by omega
    simp only [n1, n2, n3, false_and, and_false, if_false]
theorem broken_tail (s : ByteArray) (pos : Nat) (h : pos < s.size) : brokenAt (tailOf s pos) 0 = brokenAt s pos := by unfold brokenAt; rw [decode_tail s pos h]
theorem tail_tail (s : ByteArray) (pos k : Nat) (h : pos + k ≤ s.size) : tailOf (tailOf s pos) k = tailOf s (pos + k) := by
  apply ByteArray.ext
  simp only [tailOf, ByteArray.size_extract, ByteArray.data_extract, Array.extract_extract]
  congr 1
  omega

/-- What the document's decoder finds at a text's head. -/
def refBroken (s : ByteArray) (pos : Nat) : Bool := brokenAt s pos
def refNumber (s : ByteArray) (pos : Nat) : Nat := if brokenAt s pos then (s.get! pos).toNat else (Utf8.decode s pos).1
def refBytes (s : ByteArray) (pos : Nat) : ByteArray := s.extract pos (pos + (Utf8.decode s pos).2)

/-- A rune's number, no surrogate half. -/
def ROk (r : Int) : Prop := (0 ≤ r ∧ r < 55296) ∨ (57344 ≤ r ∧ r ≤ 1114111)
theorem ROk.range {r : Int} (h : ROk r) : -2147483648 ≤ r ∧ r ≤ 2147483647 := by unfold ROk at h; omega
theorem rune_ok (s : ByteArray) (pos : Nat) : ROk ((Utf8.decode s pos).1 : Int) := by
  rw [decode_at]
  have h0 := (s.get! pos).toNat_lt
  unfold decodeN ROk
  repeat' split
  all_goals simp only []
  all_goals omega
def rowLow (x : CaseRow) : Bool :=
  if x.delta 1 > 1114111 then (decide (x.2.1 + 1 < 55296) || (decide (57344 ≤ x.1) && decide (x.2.1 + 1 ≤ 1114111)))
  else (decide (0 ≤ (x.1 : Int) + x.delta 1) && decide ((x.2.1 : Int) + x.delta 1 < 55296)) || (decide (57344 ≤ (x.1 : Int) + x.delta 1) && decide ((x.2.1 : Int) + x.delta 1 ≤ 1114111))
set_option maxRecDepth 1000000 in
theorem rowsLow : caseT.all rowLow = true := by decide
theorem caseA_low (i : Nat) (hi : i < caseA.size) : rowLow (caseA.getD i (0, 0, 0, 0, 0)) = true := by
  have hm : caseA.getD i (0, 0, 0, 0, 0) ∈ caseT := by
    unfold caseA at hi ⊢
    simp only [List.size_toArray] at hi
    simp [Array.getD, hi]
  exact List.all_eq_true.1 rowsLow _ hm
theorem toLowerU_ok (r : Int) (h : ROk r) : ROk (toLowerU r) := by
  unfold toLowerU
  split
  · split
    · unfold ROk at *; omega
    · exact h
  · unfold toR lookupGo
    cases hi : lookupIdx caseA r (caseA.size + 1) 0 caseA.size with
    | none => exact h
    | some i =>
      obtain ⟨hil, hlo, hhi⟩ := lookupIdx_some caseA r _ _ _ i hi
      have hx := caseA_low i hil
      simp only [Option.map_some]
      generalize caseA.getD i (0, 0, 0, 0, 0) = x at *
      unfold rowLow at hx
      unfold convertR
      split at hx
      · rename_i h1
        rw [if_pos h1]
        simp only [Bool.or_eq_true, Bool.and_eq_true, decide_eq_true_eq] at hx
        unfold ROk at *
        omega
      · rename_i h1
        rw [if_neg h1]
        simp only [Bool.or_eq_true, Bool.and_eq_true, decide_eq_true_eq] at hx
        unfold ROk at *
        omega
end

section
set_option linter.unusedVariables false
set_option linter.unusedSimpArgs false
open Go.RowKit Go.Lib

section
variable {W w w' : World} {I : Nat → Option Obj} {L : List (Nat × Obj)}
theorem St.belowTo (h : St W w I L) (hb : Below w.heap.size w w') : St W w' I L :=
  ⟨hb.os.trans h.os, hb.tape.trans h.tape, hb.output.trans h.output, fun p hp => (hb.block p.1 (h.lt hp)).trans (h.own p hp), h.nodup,
   fun b o hb' => (hb.block b (Array.getElem?_eq_some_iff.1 (h.imm b o hb')).1).trans (h.imm b o hb'), h.apart⟩
/-- Go's tables lie among what turns no more. -/
structure TB (W : World) (I : Nat → Option Obj) : Prop where
  tabs : Tabs W
  le : Le (fun b => W.heap[b]?) I
theorem TB.start (h : Tabs W) : TB W (fun b => W.heap[b]?) := ⟨h, Le.refl _⟩
theorem TB.more {J : Nat → Option Obj} (h : TB W I) (k : Le I J) : TB W J := ⟨h.tabs, h.le.trans k⟩
theorem TB.on (t : TB W I) (h : St W w I L) : Tabs w := t.tabs.below (h.below t.le)
/-- A text's iterator goes on. -/
theorem St.iter {b : Nat} {s : ByteArray} {pos : Nat} (pos' : Nat) (h : St W w I ((b, .stringIter s pos) :: L)) : St W (w.iterAt b s pos') I ((b, .stringIter s pos') :: L) := by
  have hb := h.own (b, .stringIter s pos) (by simp)
  have hn := h.nodup
  simp only [List.map_cons, List.nodup_cons] at hn
  refine ⟨h.os, h.tape, h.output, fun p hp => ?_, h.nodup, fun c o hc => ?_, fun p hp => ?_⟩
  · rcases List.mem_cons.1 hp with rfl | hp
    · exact Lib.iterAt_heap w b s pos pos' hb
    · rw [Lib.iterAt_other _ _ _ _ _ (fun e => hn.1 (by rw [← e]; exact List.mem_map_of_mem (f := (·.1)) hp))]
      exact h.own p (by simp [hp])
  · rw [Lib.iterAt_other _ _ _ _ _ (fun e => ?_)]
    · exact h.imm c o hc
    · have := h.apart (b, _) (List.mem_cons_self ..)
      simp only at this
      rw [e, this] at hc
      cases hc
  · rcases List.mem_cons.1 hp with rfl | hp
    · exact h.apart (b, .stringIter s pos) (by simp)
    · exact h.apart p (by simp [hp])
end

set_option maxRecDepth 100000 in
set_option maxHeartbeats 1000000 in
theorem broken_any {W w : World} {I : Nat → Option Obj} {L : List (Nat × Obj)} (t : TB W I) (s : ByteArray) (pos : Nat) (hp : pos < s.size) (h : St W w I L) :
    Calls Tryd.prog 55 #[.string s, .int .i64 pos, .int .i32 (Utf8.decode s pos).1] w fun e w' => e = .returned (.bool (brokenAt s pos)) ∧ St W w' I L := by
  have hT := (t.on h).utf8
  have hd := decode_tail s pos hp
  have hz : (tailOf s pos).size ≠ 0 := by rw [tailOf_size]; omega
  obtain ⟨c, hc⟩ : ∃ c, (Utf8.decode s pos).1 = c := ⟨_, rfl⟩
  obtain ⟨k, hk⟩ : ∃ k, (Utf8.decode s pos).2 = k := ⟨_, rfl⟩
  have hbr : brokenAt s pos = (c == 65533 && k == 1) := by unfold brokenAt; rw [hc, hk]
  have cD := Tryd.utf8_DecodeRuneInString (tailOf s pos) w hT
  simp only [Lib.decodeGo, hz, if_false, hd, hc, hk] at cD
  rw [hbr, hc]
  have hlo : (0 : Int) ≤ (pos : Int) ∧ (pos : Int) ≤ (s.size : Int) := ⟨by omega, by omega⟩
  have CD := Lib.hid cD
  clear cD hT hd hz hbr hc hk t
  by_cases h1 : (c : Int) = 65533
  · obtain rfl : c = 65533 := by omega
    go_enter Tryd.func55, Tryd.ntmps55
    go_wp2_with fail
    refine CD.out.mono ?_
    rintro e w1 ⟨rfl, hb⟩
    have h2 := h.belowTo hb
    have H2 := Lib.hid h2
    clear h2 hb h CD
    by_cases hk : k = 1
    · subst hk
      go_wp2_with fail
      go_ret
      exact ⟨rfl, H2.out⟩
    · have hk' : ¬ (k : Int) = 1 := by omega
      have hkb : (k == 1) = false := by simpa using hk
      go_wp2_with fail
      go_ret
      exact ⟨by simp [hkb]; omega, H2.out⟩
  · have hcb : (c == 65533) = false := by
      have : ¬ c = 65533 := by omega
      simpa using this
    have H := Lib.hid h
    clear h
    go_enter Tryd.func55, Tryd.ntmps55
    go_wp2_with fail
    go_ret
    exact ⟨by simp [hcb], H.out⟩

set_option maxRecDepth 100000 in
set_option maxHeartbeats 1000000 in
theorem part_any {W w : World} {I : Nat → Option Obj} {L : List (Nat × Obj)} (t : TB W I) (r : Int) (first : Bool) (hlo : -2147483648 ≤ r) (hhi : r ≤ 2147483647) (h : St W w I L) :
    Calls Tryd.prog 60 #[.int .i32 r, .bool first] w fun e w' => e = .returned (.bool (partOk r first)) ∧ St W w' I L := by
  have cL := fun (v : World) (hv : St W v I L) => Tryd.unicode_IsLetter_all r v hlo hhi (t.on hv).props (t.on hv).letter
  have cD := fun (v : World) (hv : St W v I L) => Tryd.unicode_IsDigit_all r v hlo hhi (t.on hv).digit
  have CL := Lib.hid cL; have CD := Lib.hid cD; have H := Lib.hid h
  clear cL cD h t
  unfold partOk
  generalize isLetterU r = bl at *
  generalize isDigitU r = bd at *
  go_enter Tryd.func60, Tryd.ntmps60
  go_wp2_with fail
  refine (CL.out _ H.out).mono ?_
  rintro e w1 ⟨rfl, hb⟩
  have H1 := Lib.hid (H.out.belowTo hb)
  clear hb H CL
  cases bl with
  | true =>
    go_wp2_with fail
    go_ret
    exact ⟨rfl, H1.out⟩
  | false =>
    cases first with
    | true =>
      go_wp2_with fail
      go_ret
      exact ⟨rfl, H1.out⟩
    | false =>
      go_wp2_with fail
      refine (CD.out _ H1.out).mono ?_
      rintro e w2 ⟨rfl, hb⟩
      have H2 := Lib.hid (H1.out.belowTo hb)
      clear hb H1 CD
      cases bd with
      | true =>
        go_wp2_with fail
        go_ret
        exact ⟨rfl, H2.out⟩
      | false =>
        go_wp2_with fail
        all_goals
          go_ret
          exact ⟨by simp_all, H2.out⟩

set_option maxRecDepth 100000 in
set_option maxHeartbeats 2000000 in
theorem name_any {W w : World} {I : Nat → Option Obj} {L : List (Nat × Obj)} (t : TB W I) (s : ByteArray) (hs : s.size ≤ 140737488355328) (h : St W w I L) :
    Calls Tryd.prog 32 #[.string s] w fun e w' => e = .returned (.int .i64 (if nameOk s then 0 else 41)) ∧ St W w' I L := by
  obtain ⟨it, hit⟩ : ∃ it, it = w.heap.size := ⟨_, rfl⟩
  have h1 := h.alloc (.stringIter s 0)
  rw [← hit] at h1
  have H1 := Lib.hid h1
  clear h1 h
  obtain ⟨R, hR⟩ : ∃ R : Int, R = (if nameOk s then 0 else 41) := ⟨_, rfl⟩
  rw [← hR]
  have HR := Lib.hid hR
  clear hR
  go_enter Tryd.func32, Tryd.ntmps32
  go_wp2_with fail
  rw [← hit]
  have HIT := Lib.hid hit
  clear hit
  go_loopw [3] (fun n wr => ∃ (fuel pos : Nat) (don : List Nat), n = .int .i64 don.length ∧ runesOf s = don ++ runesFrom s fuel pos ∧ s.size ≤ pos + fuel ∧ allOk s don 0 = true ∧ St W wr I ((it, .stringIter s pos) :: L)) (fun _ wr => s.size - wr.iterPos it)
  case atStart => exact ⟨s.size, 0, [], rfl, rfl, by omega, rfl, H1.out⟩
  case round =>
    obtain ⟨fuel, pos, don, rfl, hro, hfu, hall, hst⟩ := hrel
    clear H1
    have hiter : wr.heap[it]? = some (.stringIter s pos) := hst.own (it, _) (by simp)
    have hdl : don.length ≤ s.size := by have := runesOf_len s; rw [hro, List.length_append] at this; omega
    by_cases hp : pos < s.size
    · have hnx : ∀ ty, (Instr.next (.pointer (some ⟨it, 0, none⟩)) true ty).run Tryd.prog wr = _ := fun ty => Lib.run_next_any_at wr it s pos ty hiter hp
      have hwd := Lib.width_pos s pos
      have hrl := Lib.rune_le s pos
      have h2 := hst.iter (pos + (Utf8.decode s pos).2)
      obtain ⟨f, rfl⟩ : ∃ f, fuel = f + 1 := ⟨fuel - 1, by omega⟩
      rw [runesFrom_step s f pos hp] at hro
      have hro2 : runesOf s = (don ++ [pos]) ++ runesFrom s f (pos + (Utf8.decode s pos).2) := by rw [hro]; simp
      have hok : nameOk s = true → placeOk s pos (don.length == 0) = true := fun hn => by
        simp only [nameOk, Bool.and_eq_true] at hn
        have h3 := hn.2
        rw [hro, allOk_append, allOk] at h3
        simp only [Bool.and_eq_true, Nat.zero_add] at h3
        exact h3.2.1
      have HOK := Lib.hid hok; have HRO := Lib.hid hro2; have H2 := Lib.hid h2; have HALL := Lib.hid hall; have HI := Lib.hid hiter
      clear hok hro hro2 h2 hall hst
      go_wp2_with fail
      refine (broken_any t s pos hp H2.out).mono ?_
      rintro e w1 ⟨rfl, h3⟩
      have H3 := Lib.hid h3
      clear h3 H2 hiter
      cases hbr : brokenAt s pos with
      | true =>
        have hno : nameOk s = false := by
          cases hn : nameOk s with
          | false => rfl
          | true => have := HOK.out hn; rw [placeOk, hbr] at this; simp at this
        go_wp2_with fail
        go_ret
        exact ⟨by rw [HR.out, hno]; rfl, St.weaken (A := [_]) H3.out⟩
      | false =>
        go_wp2_with fail
        refine (part_any t _ _ (by omega) (by omega) H3.out).mono ?_
        rintro e w2 ⟨rfl, h4⟩
        have H4 := Lib.hid h4
        clear h4 H3
        have hfe : ((don.length : Int) == 0) = (don.length == 0) := by
          by_cases hd : don.length = 0
          · rw [hd]; rfl
          · have h1 : ¬ (don.length : Int) = 0 := by omega
            rw [beq_eq_false_iff_ne.2 h1, beq_eq_false_iff_ne.2 hd]
        rw [hfe]
        cases hq : partOk ((Utf8.decode s pos).1 : Int) (don.length == 0) with
        | true =>
          have hal2 : allOk s (don ++ [pos]) 0 = true := by
            rw [allOk_append, HALL.out, allOk, allOk, placeOk, hbr, Nat.zero_add, hq]; rfl
          have HAL2 := Lib.hid hal2
          clear hal2 hfe hq
          go_wp2_with fail
          go_roundw
          case rel =>
            exact ⟨f, _, don ++ [pos], by simp, HRO.out, by omega, HAL2.out, H4.out⟩
          case measure =>
            have h5 : w2.heap[it]? = some (.stringIter s (pos + (Utf8.decode s pos).2)) := H4.out.own (it, _) (by simp)
            simp only [World.iterPos, h5, HI.out]
            omega
        | false =>
          have hno : nameOk s = false := by
            cases hn : nameOk s with
            | false => rfl
            | true => have := HOK.out hn; rw [placeOk, hbr, hq] at this; simp at this
          have HNO := Lib.hid hno
          clear hno hfe hq
          go_wp2_with fail
          go_ret
          exact ⟨by rw [HR.out, HNO.out]; rfl, St.weaken (A := [_]) H4.out⟩
    · have hend : runesOf s = don := by rw [hro, runesFrom_end s _ _ hp, List.append_nil]
      have hnx : ∀ ty, (Instr.next (.pointer (some ⟨it, 0, none⟩)) true ty).run Tryd.prog wr = _ := fun ty => Lib.run_next_end_at wr it s pos ty hiter hp
      have hnm : nameOk s = (decide (1 ≤ don.length) && decide (don.length ≤ 24)) := by rw [nameOk, hend, hall, Bool.and_true]
      have HNM := Lib.hid hnm
      have H2 := Lib.hid hst
      clear hst hiter hro hall hnm hend
      by_cases h1 : don.length < 1
      · have h1' : (don.length : Int) < 1 := by omega
        go_wp2_with fail
        go_ret
        exact ⟨by rw [HR.out, HNM.out]; simp [show ¬ 1 ≤ don.length by omega], St.weaken (A := [_]) H2.out⟩
      · by_cases h24 : 24 < don.length
        · have h1' : (24 : Int) < don.length := by omega
          go_wp2_with fail
          go_ret
          exact ⟨by rw [HR.out, HNM.out]; simp [show ¬ don.length ≤ 24 by omega], St.weaken (A := [_]) H2.out⟩
        · have h1' : ¬ (24 : Int) < don.length := by omega
          go_wp2_with fail
          go_ret
          exact ⟨by rw [HR.out, HNM.out]; simp [show don.length ≤ 24 by omega, show 1 ≤ don.length by omega], St.weaken (A := [_]) H2.out⟩
end
end Go.Proofs.YtnhlpiomfljlcaaDoor
