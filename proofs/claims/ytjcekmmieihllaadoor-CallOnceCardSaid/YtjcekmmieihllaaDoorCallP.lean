/- call: what is known of one; as text and back: in plain Lean. -/
import Derived.Test.YtjcekmmieihllaaDoorGlyL
import Derived.Test.YtjcekmmieihllaaDoorTxC
import Derived.Test.YtjcekmmieihllaaDoorPnR
namespace Go.Proofs.YtjcekmmieihllaaDoor
set_option linter.unusedVariables false
set_option linter.unusedSimpArgs false
set_option linter.unnecessarySimpa false
open Go.RowKit Go.Lib

/-- What a client asks. -/
structure Cl where
  client : Int
  kind : Int
  slot : Int
  job : Int
  name : ByteArray
structure Cl.Ok (c : Cl) : Prop where
  c0 : -9223372036854775808 ≤ c.client
  c1 : c.client ≤ 9223372036854775807
  k0 : -9223372036854775808 ≤ c.kind
  k1 : c.kind ≤ 9223372036854775807
  s0 : -9223372036854775808 ≤ c.slot
  s1 : c.slot ≤ 9223372036854775807
  j0 : -9223372036854775808 ≤ c.job
  j1 : c.job ≤ 9223372036854775807
  n1 : c.name.size ≤ 1000000000
def empB : ByteArray := ⟨#[]⟩
def Cl.cells (c : Cl) : Array Value := #[.int .i64 c.client, .int .i64 c.kind, .int .i64 c.slot, .int .i64 c.job, .string c.name]
def Cl.val (c : Cl) : Value := .agg c.cells
def zC : Cl := ⟨0, 0, 0, 0, empB⟩
def emp (x : ByteArray) : Bool := x.toList == (⟨#[]⟩ : ByteArray).toList
theorem emp_iff (x : ByteArray) : emp x = true ↔ x = empB := by
  unfold emp empB
  rw [beq_iff_eq, ByteArray.toList_eq, ByteArray.toList_eq]
  constructor
  · intro h
    apply ByteArray.ext
    exact Array.toList_inj.1 h
  · rintro rfl; rfl
def rightC (c : Cl) : Bool :=
  (decide (0 ≤ c.client) && decide (c.client ≤ 7)) &&
  (if c.kind = 1 then (c.slot == 0 && c.job == 0) && nameOk c.name
   else if c.kind = 2 then (c.slot == 0 && emp c.name) && (decide (0 ≤ c.job) && decide (c.job ≤ 1073741824))
   else if c.kind = 3 ∨ c.kind = 6 then (c.slot == 0 && c.job == 0) && emp c.name
   else if c.kind = 4 ∨ c.kind = 5 then (c.job == 0 && emp c.name) && (decide (0 ≤ c.slot) && decide (c.slot ≤ 255))
   else false)
/-- The kinds' words. -/
def cwordsL : List (List UInt8) := [[], [105, 110, 115, 116, 97, 108, 108], [99, 97, 110, 99, 101, 108], [115, 116, 97, 116, 117, 115], [103, 111, 111, 100], [98, 97, 100], [114, 101, 98, 111, 111, 116]]
def tailC (c : Cl) : List UInt8 := if c.kind = 1 then [32] ++ showOf c.name else if c.kind = 2 then [32] ++ Lib.itoa c.job else if c.kind = 4 ∨ c.kind = 5 then [32] ++ Lib.itoa c.slot else []
/-- A call in words. -/
def textC (c : Cl) : List UInt8 := if rightC c = true then Lib.itoa c.client ++ ([32] ++ (cwordsL.getD c.kind.toNat [] ++ tailC c)) else []
/-- A text's words, cut at blanks, rune by rune. -/
def splR (s : ByteArray) : List Nat → List UInt8 → List (List UInt8)
  | [], cur => [cur]
  | p :: ps, cur => if (Utf8.decode s p).1 = 32 then cur :: splR s ps [] else splR s ps (cur ++ Lib.encodeRune ((Utf8.decode s p).1 : Int))
def wordsOf (s : ByteArray) : List (List UInt8) := splR s (runesOf s) []
def numI (x : List UInt8) : Int := match pN 10 4611686018427387903 x with | none => -1 | some n => (n : Int)
def idxB (ws : List ByteArray) (x : List UInt8) : Int := Lib.idxOfS ws ⟨x.toArray⟩
def cwordsB : List ByteArray := cwordsL.map fun z => ⟨z.toArray⟩
/-- The call that words say, whether it can be or not. -/
def pC (l : List (List UInt8)) : Cl :=
  ⟨numI (l.getD 0 []), idxB cwordsB (l.getD 1 []), if idxB cwordsB (l.getD 1 []) = 4 ∨ idxB cwordsB (l.getD 1 []) = 5 then numI (l.getD 2 []) else 0,
   if idxB cwordsB (l.getD 1 []) = 2 then numI (l.getD 2 []) else 0, if idxB cwordsB (l.getD 1 []) = 1 then ⟨(readR (l.getD 2 [])).1.toArray⟩ else empB⟩
/-- What is read of a text. -/
def parseC (t : ByteArray) : Cl × Int := if (rightC (pC (wordsOf t)) && (textC (pC (wordsOf t)) == t.data.toList)) = true then (pC (wordsOf t), 0) else (zC, 241)

/-- Bytes cut at blanks. -/
def splA (cur : List UInt8) : List UInt8 → List (List UInt8)
  | [] => [cur]
  | c :: r => if c = 32 then cur :: splA [] r else splA (cur ++ [c]) r
theorem splA_word : ∀ (w cur r : List UInt8), (∀ c ∈ w, c ≠ 32) → splA cur (w ++ 32 :: r) = (cur ++ w) :: splA [] r
  | [], cur, r, _ => by simp [splA]
  | c :: w, cur, r, h => by
    rw [List.cons_append, splA, if_neg (h c (List.mem_cons_self ..)), splA_word w _ r (fun x hx => h x (List.mem_cons_of_mem _ hx))]
    simp
theorem splA_last : ∀ (w cur : List UInt8), (∀ c ∈ w, c ≠ 32) → splA cur w = [cur ++ w]
  | [], cur, _ => by simp [splA]
  | c :: w, cur, h => by
    rw [splA, if_neg (h c (List.mem_cons_self ..)), splA_last w _ (fun x hx => h x (List.mem_cons_of_mem _ hx))]
    simp
theorem ascii_decode (s : ByteArray) (p : Nat) (hb : (s.get! p).toNat < 128) : Utf8.decode s p = ((s.get! p).toNat, 1) := by
  rw [Lib.decode_at]
  unfold Lib.decodeN
  rw [if_pos hb]
theorem enc_ascii (c : UInt8) (h : c.toNat < 128) : Lib.encodeRune ((c.toNat : Nat) : Int) = [c] := by
  unfold Lib.encodeRune
  rw [Lib.encodeRuneZ_one (by omega) (by omega)]
  simp
theorem get_lt' (s : ByteArray) (p : Nat) (hp : p < s.data.toList.length) : s.data.toList[p] = s.get! p := by
  have hp2 : p < s.size := by rw [Array.length_toList] at hp; exact hp
  rw [get_lt s p hp2]
  rfl
theorem splR_ascii (s : ByteArray) (ha : ∀ p, p < s.size → (s.get! p).toNat < 128) : ∀ (f pos : Nat) (cur : List UInt8), s.size - pos ≤ f → pos ≤ s.size →
    splR s (runesFrom s f pos) cur = splA cur (s.data.toList.drop pos)
  | 0, pos, cur, h, h2 => by
    have hp : pos = s.size := by omega
    subst hp
    have hd : s.data.toList.drop s.size = [] := List.drop_eq_nil_of_le (by rw [Array.length_toList]; exact Nat.le_refl _)
    rw [show runesFrom s 0 s.size = [] from rfl, splR, hd, splA]
  | f + 1, pos, cur, h, h2 => by
    by_cases hp : pos < s.size
    · have hl : pos < s.data.toList.length := by rw [Array.length_toList]; exact hp
      have hg := get_lt' s pos hl
      rw [runesFrom_step s f pos hp, ascii_decode s pos (ha pos hp), List.drop_eq_getElem_cons hl, hg, splA, splR, ascii_decode s pos (ha pos hp)]
      simp only
      by_cases hc : s.get! pos = 32
      · rw [if_pos (by rw [hc]; rfl), if_pos hc, splR_ascii s ha f (pos + 1) [] (by omega) (by omega)]
      · rw [if_neg (fun h => hc (UInt8.toNat_inj.1 (by rw [h]; rfl))), if_neg hc, splR_ascii s ha f (pos + 1) _ (by omega) (by omega), enc_ascii _ (ha pos hp)]
    · have hp : pos = s.size := by omega
      subst hp
      have hd : s.data.toList.drop s.size = [] := List.drop_eq_nil_of_le (by rw [Array.length_toList]; exact Nat.le_refl _)
      rw [runesFrom_end s _ _ hp, splR, hd, splA]
theorem wordsOf_ascii (l : List UInt8) (ha : ∀ c ∈ l, c.toNat < 128) : wordsOf ⟨l.toArray⟩ = splA [] l := by
  have h := splR_ascii ⟨l.toArray⟩ (fun p hp => by
    have hp2 : p < (⟨l.toArray⟩ : ByteArray).data.toList.length := by rw [Array.length_toList]; exact hp
    rw [← get_lt' _ p hp2]
    exact ha _ (by
      have := List.getElem_mem hp2
      simpa using this)) (⟨l.toArray⟩ : ByteArray).size 0 [] (by omega) (by omega)
  simp only [List.drop_zero] at h
  exact h
/-- A name's text has no blank, and is plain. -/
def okB (c : UInt8) : Prop := c ≠ 32 ∧ c.toNat < 128
theorem okB_dec (n : Nat) (h : n < 10 ^ 20) : ∀ c ∈ Lib.decDigits n, okB c := fun c hc => by
  have := decD_all 20 n h c hc
  refine ⟨fun h2 => ?_, by omega⟩
  rw [h2] at this
  exact absurd this.1 (by decide)
theorem okB_hex (n : Nat) (h : n < 16) : okB (hexd n) := by
  have := hexd_ne n h
  refine ⟨fun h2 => ?_, by omega⟩
  rw [h2] at this
  exact absurd this.2.1 (by decide)
theorem partOk_32 (f : Bool) : partOk 32 f = false := by cases f <;> decide +kernel
theorem okB_piece (s : ByteArray) (p : Nat) (hn : (Utf8.decode s p).1 ≠ 32) : ∀ c ∈ showPiece s p, okB c := by
  intro c hc
  unfold showPiece at hc
  split at hc
  · have d1 : (s.get! p).toNat / 16 < 16 := by have := (s.get! p).toNat_lt; omega
    have d2 : (s.get! p).toNat % 16 < 16 := by omega
    simp only [List.mem_cons, List.not_mem_nil, or_false] at hc
    rcases hc with rfl | rfl | rfl | rfl
    · exact ⟨by decide, by decide⟩
    · exact ⟨by decide, by decide⟩
    · exact okB_hex _ d1
    · exact okB_hex _ d2
  · split at hc
    · rename_i h
      generalize (Utf8.decode s p).1 = d at *
      unfold plainC at h
      simp only [Bool.and_eq_true, decide_eq_true_eq, Bool.not_eq_true', beq_eq_false_iff_ne, ne_eq] at h
      obtain ⟨⟨⟨h1, h2⟩, h3⟩, h4⟩ := h
      have e : Lib.encodeRune (d : Int) = [UInt8.ofNat d] := by
        unfold Lib.encodeRune
        rw [Lib.encodeRuneZ_one (by omega) (by omega)]
        rfl
      rw [e] at hc
      simp only [List.mem_cons, List.not_mem_nil, or_false] at hc
      subst hc
      have e2 : (UInt8.ofNat d).toNat = d := by rw [UInt8.toNat_ofNat']; omega
      refine ⟨fun h => hn ?_, by omega⟩
      rw [← e2, h]
      rfl
    · have hr := Lib.rune_le s p
      simp only [List.mem_append, List.mem_cons, List.not_mem_nil, or_false] at hc
      rcases hc with ((rfl | rfl | rfl) | hc) | rfl
      · exact ⟨by decide, by decide⟩
      · exact ⟨by decide, by decide⟩
      · exact ⟨by decide, by decide⟩
      · have := hexD_all 8 _ (by omega) c hc
        refine ⟨fun h2 => ?_, by omega⟩
        rw [h2] at this
        exact absurd this.2.1 (by decide)
      · exact ⟨by decide, by decide⟩
theorem allOk_ne (s : ByteArray) : ∀ (l : List Nat) (i : Nat), allOk s l i = true → ∀ p ∈ l, (Utf8.decode s p).1 ≠ 32
  | [], _, _, p, hp => by simp at hp
  | q :: l, i, h, p, hp => by
    unfold allOk at h
    rw [Bool.and_eq_true] at h
    rcases List.mem_cons.1 hp with rfl | hp
    · intro e
      have h1 := h.1
      unfold placeOk at h1
      rw [Bool.and_eq_true, e] at h1
      have := partOk_32 (i == 0)
      rw [show ((32 : Nat) : Int) = 32 from rfl, this] at h1
      exact absurd h1.2 (by decide)
    · exact allOk_ne s l (i + 1) h.2 p hp
theorem okB_name (s : ByteArray) (h : nameOk s = true) : ∀ c ∈ showOf s, okB c := by
  intro c hc
  unfold showOf at hc
  obtain ⟨p, hp, hc⟩ := List.mem_flatMap.1 hc
  unfold nameOk at h
  simp only [Bool.and_eq_true] at h
  exact okB_piece s p (allOk_ne s _ 0 h.2 p hp) c hc
theorem itoa_nn (n : Int) (h : 0 ≤ n) : Lib.itoa n = Lib.decDigits n.toNat := by
  unfold Lib.itoa
  rw [if_neg (by omega)]
theorem okB_cword (k : Nat) : ∀ c ∈ cwordsL.getD k [], okB c := by
  intro c hc
  match k, hc with
  | 0, hc => simp [cwordsL] at hc
  | 1, hc => simp [cwordsL] at hc; rcases hc with rfl | rfl | rfl | rfl | rfl | rfl | rfl <;> exact ⟨by decide, by decide⟩
  | 2, hc => simp [cwordsL] at hc; rcases hc with rfl | rfl | rfl | rfl | rfl | rfl <;> exact ⟨by decide, by decide⟩
  | 3, hc => simp [cwordsL] at hc; rcases hc with rfl | rfl | rfl | rfl | rfl | rfl <;> exact ⟨by decide, by decide⟩
  | 4, hc => simp [cwordsL] at hc; rcases hc with rfl | rfl | rfl | rfl <;> exact ⟨by decide, by decide⟩
  | 5, hc => simp [cwordsL] at hc; rcases hc with rfl | rfl | rfl <;> exact ⟨by decide, by decide⟩
  | 6, hc => simp [cwordsL] at hc; rcases hc with rfl | rfl | rfl | rfl | rfl | rfl <;> exact ⟨by decide, by decide⟩
  | k + 7, hc => simp [cwordsL] at hc
theorem numI_dec (n : Int) (h0 : 0 ≤ n) (h : n ≤ 4611686018427387903) : numI (Lib.itoa n) = n := by
  unfold numI
  rw [itoa_nn n h0, pN_dec _ _ (by omega) (by omega)]
  simp only
  omega
theorem rightC_facts (c : Cl) (h : rightC c = true) : 0 ≤ c.client ∧ c.client ≤ 7 ∧ ((c.kind = 1 ∧ c.slot = 0 ∧ c.job = 0 ∧ nameOk c.name = true) ∨ (c.kind = 2 ∧ c.slot = 0 ∧ c.name = empB ∧ 0 ≤ c.job ∧ c.job ≤ 1073741824) ∨ ((c.kind = 3 ∨ c.kind = 6) ∧ c.slot = 0 ∧ c.job = 0 ∧ c.name = empB) ∨ ((c.kind = 4 ∨ c.kind = 5) ∧ c.job = 0 ∧ c.name = empB ∧ 0 ≤ c.slot ∧ c.slot ≤ 255)) := by
  unfold rightC at h
  simp only [Bool.and_eq_true, decide_eq_true_eq] at h
  obtain ⟨⟨h1, h2⟩, h3⟩ := h
  refine ⟨h1, h2, ?_⟩
  split at h3
  · simp only [Bool.and_eq_true, beq_iff_eq] at h3
    exact .inl ⟨by assumption, h3.1.1, h3.1.2, h3.2⟩
  · split at h3
    · simp only [Bool.and_eq_true, beq_iff_eq, decide_eq_true_eq, emp_iff] at h3
      exact .inr (.inl ⟨by assumption, h3.1.1, h3.1.2, h3.2.1, h3.2.2⟩)
    · split at h3
      · simp only [Bool.and_eq_true, beq_iff_eq, emp_iff] at h3
        exact .inr (.inr (.inl ⟨by assumption, h3.1.1, h3.1.2, h3.2⟩))
      · split at h3
        · simp only [Bool.and_eq_true, beq_iff_eq, decide_eq_true_eq, emp_iff] at h3
          exact .inr (.inr (.inr ⟨by assumption, h3.1.1, h3.1.2, h3.2.1, h3.2.2⟩))
        · cases h3
theorem cIdx_word : ∀ k : Nat, 1 ≤ k → k ≤ 6 → idxB cwordsB (cwordsL.getD k []) = (k : Int) := by
  intro k h1 h2
  have : k = 1 ∨ k = 2 ∨ k = 3 ∨ k = 4 ∨ k = 5 ∨ k = 6 := by omega
  rcases this with rfl | rfl | rfl | rfl | rfl | rfl <;> decide +kernel
/-- A call's words are that call. -/
theorem parse_textC (c : Cl) (h : rightC c = true) : parseC ⟨(textC c).toArray⟩ = (c, 0) := by
  suffices hs : pC (wordsOf ⟨(textC c).toArray⟩) = c by
    unfold parseC
    rw [hs, h, if_pos]
    simp
  obtain ⟨c0, c1, hk⟩ := rightC_facts c h
  have okc : ∀ x ∈ Lib.itoa c.client, okB x := by rw [itoa_nn _ c0]; exact okB_dec _ (by omega)
  have n0 := numI_dec c.client c0 (by omega)
  have okw := okB_cword c.kind.toNat
  have two : ∀ (t : List UInt8), (∀ x ∈ t, okB x) → textC c = Lib.itoa c.client ++ ([32] ++ (cwordsL.getD c.kind.toNat [] ++ ([32] ++ t))) → wordsOf ⟨(textC c).toArray⟩ = [Lib.itoa c.client, cwordsL.getD c.kind.toNat [], t] := fun t ht e => by
    rw [wordsOf_ascii, e]
    · rw [show Lib.itoa c.client ++ ([32] ++ (cwordsL.getD c.kind.toNat [] ++ ([32] ++ t))) = Lib.itoa c.client ++ 32 :: (cwordsL.getD c.kind.toNat [] ++ 32 :: t) from rfl,
        splA_word _ _ _ (fun x hx => (okc x hx).1), splA_word _ _ _ (fun x hx => (okw x hx).1), splA_last _ _ (fun x hx => (ht x hx).1)]
      rfl
    · intro x hx
      rw [e] at hx
      simp only [List.mem_append, List.mem_singleton] at hx
      rcases hx with hx | rfl | hx | rfl | hx
      · exact (okc x hx).2
      · decide
      · exact (okw x hx).2
      · decide
      · exact (ht x hx).2
  have tx : textC c = Lib.itoa c.client ++ ([32] ++ (cwordsL.getD c.kind.toNat [] ++ tailC c)) := if_pos h
  rcases hk with ⟨k, s0, j0, hn⟩ | ⟨k, s0, hn, j0, j1⟩ | ⟨k, s0, j0, hn⟩ | ⟨k, j0, hn, s0, s1⟩
  · have e := two (showOf c.name) (okB_name _ hn) (by rw [tx]; unfold tailC; rw [if_pos k])
    have hi := cIdx_word c.kind.toNat (by omega) (by omega)
    rw [e]
    unfold pC
    simp only [List.getD_cons_zero, List.getD_cons_succ]
    rw [hi, n0, show ((c.kind.toNat : Nat) : Int) = c.kind by omega, if_neg (by omega), if_neg (by omega), if_pos k, readR_show]
    cases c
    simp only at s0 j0 ⊢
    subst s0; subst j0
    congr 1
  · have e := two (Lib.itoa c.job) (by rw [itoa_nn _ j0]; exact okB_dec _ (by omega)) (by rw [tx]; unfold tailC; rw [if_neg (by omega), if_pos k])
    have hi := cIdx_word c.kind.toNat (by omega) (by omega)
    have n1 := numI_dec c.job j0 (by omega)
    rw [e]
    unfold pC
    simp only [List.getD_cons_zero, List.getD_cons_succ]
    rw [hi, n0, show ((c.kind.toNat : Nat) : Int) = c.kind by omega, if_neg (by omega), if_pos k, if_neg (by omega), n1]
    cases c
    simp only at s0 hn ⊢
    subst s0; subst hn
    rfl
  · have e : wordsOf ⟨(textC c).toArray⟩ = [Lib.itoa c.client, cwordsL.getD c.kind.toNat []] := by
      have tl : tailC c = [] := by unfold tailC; rw [if_neg (by omega), if_neg (by omega), if_neg (by omega)]
      rw [tl, List.append_nil] at tx
      rw [wordsOf_ascii, tx]
      · rw [show Lib.itoa c.client ++ ([32] ++ cwordsL.getD c.kind.toNat []) = Lib.itoa c.client ++ 32 :: cwordsL.getD c.kind.toNat [] from rfl,
          splA_word _ _ _ (fun x hx => (okc x hx).1), splA_last _ _ (fun x hx => (okw x hx).1)]
        rfl
      · intro x hx
        rw [tx] at hx
        simp only [List.mem_append, List.mem_singleton] at hx
        rcases hx with hx | rfl | hx
        · exact (okc x hx).2
        · decide
        · exact (okw x hx).2
    have hi := cIdx_word c.kind.toNat (by omega) (by omega)
    rw [e]
    unfold pC
    simp only [List.getD_cons_zero, List.getD_cons_succ]
    rw [hi, n0, show ((c.kind.toNat : Nat) : Int) = c.kind by omega, if_neg (by omega), if_neg (by omega), if_neg (by omega)]
    cases c
    simp only at s0 j0 hn ⊢
    subst s0; subst j0; subst hn
    rfl
  · have e := two (Lib.itoa c.slot) (by rw [itoa_nn _ s0]; exact okB_dec _ (by omega)) (by rw [tx]; unfold tailC; rw [if_neg (by omega), if_neg (by omega), if_pos k])
    have hi := cIdx_word c.kind.toNat (by omega) (by omega)
    have n1 := numI_dec c.slot s0 (by omega)
    rw [e]
    unfold pC
    simp only [List.getD_cons_zero, List.getD_cons_succ]
    rw [hi, n0, show ((c.kind.toNat : Nat) : Int) = c.kind by omega, if_pos k, if_neg (by omega), if_neg (by omega), n1]
    cases c
    simp only at j0 hn ⊢
    subst j0; subst hn
    rfl
end Go.Proofs.YtjcekmmieihllaaDoor
