/- What is cut off a text and what is left: the runes, and how they are shown: plain Lean. -/
import Derived.Test.YtpjfmgifddoppaaDoorGlyF
namespace Go.Proofs.YtpjfmgifddoppaaDoor
set_option linter.unusedVariables false
set_option linter.unusedSimpArgs false
open Go.RowKit Go.Lib

set_option maxHeartbeats 2000000 in
theorem decodeN_cut (n m b0 b1 b2 b3 c1 c2 c3 : Nat) (hm : (decodeN n b0 b1 b2 b3).2 ≤ m) (hmn : m ≤ n) (h1 : 1 < m → c1 = b1) (h2 : 2 < m → c2 = b2) (h3 : 3 < m → c3 = b3) :
    decodeN m b0 c1 c2 c3 = decodeN n b0 b1 b2 b3 := by
  unfold decodeN at hm ⊢
  by_cases n1 : 1 < m
  · rw [h1 n1]
    have p1 : 1 < n := by omega
    by_cases n2 : 2 < m
    · rw [h2 n2]
      have p2 : 2 < n := by omega
      by_cases n3 : 3 < m
      · rw [h3 n3]
        have p3 : 3 < n := by omega
        simp only [n1, n2, n3, p1, p2, p3, true_and]
      · simp only [n1, n2, n3, p1, p2, true_and, false_and, and_false, if_false] at hm ⊢
        repeat' split
        all_goals first
          | rfl
          | (simp_all; done)
          | (exfalso; simp_all; omega)
    · have n3 : ¬ 3 < m := by omega
      simp only [n1, n2, n3, p1, true_and, false_and, and_false, if_false] at hm ⊢
      repeat' split
      all_goals first
        | rfl
        | (simp_all; done)
        | (exfalso; simp_all; omega)
  · have n2 : ¬ 2 < m := by omega
    have n3 : ¬ 3 < m := by omega
    simp only [n1, n2, n3, false_and, and_false, if_false] at hm ⊢
    repeat' split
    all_goals first
      | rfl
      | (simp_all; done)
      | (exfalso; simp_all; omega)
theorem head_get (s : ByteArray) (p k : Nat) (hp : p ≤ s.size) (h : k < p) : (s.extract 0 p).get! k = s.get! k := by
  have h1 : k < (s.extract 0 p).size := by simp; omega
  rw [get_lt _ _ h1, get_lt _ _ (by omega)]
  simp [ByteArray.getElem_extract]
theorem head_size (s : ByteArray) (p : Nat) (hp : p ≤ s.size) : (s.extract 0 p).size = p := by simp; omega
theorem decode_head (s : ByteArray) (p q : Nat) (hp : p ≤ s.size) (h : q + (Utf8.decode s q).2 ≤ p) : Utf8.decode (s.extract 0 p) q = Utf8.decode s q := by
  have hw := Lib.width_pos s q
  rw [decode_at s q] at h ⊢
  rw [decode_at (s.extract 0 p) q, head_size s p hp, head_get s p q hp (by rw [decode_at] at hw; omega)]
  rw [decode_at] at hw
  refine decodeN_cut _ _ _ _ _ _ _ _ _ (by omega) (by omega) ?_ ?_ ?_
  all_goals
    intro hh
    rw [head_get s p _ hp (by omega)]
theorem decode_shift (s : ByteArray) (p q : Nat) (h : p + q < s.size) : Utf8.decode (tailOf s p) q = Utf8.decode s (p + q) := by
  rw [← decode_tail (tailOf s p) q (by rw [tailOf_size]; omega), tail_tail s p q (by omega), decode_tail s (p + q) h]
theorem runes_shift (s : ByteArray) (p : Nat) : ∀ (f q : Nat), (runesFrom (tailOf s p) f q).map (p + ·) = runesFrom s f (p + q)
  | 0, q => rfl
  | f + 1, q => by
    by_cases h : p + q < s.size
    · rw [runesFrom_step s f _ h, runesFrom_step (tailOf s p) f q (by rw [tailOf_size]; omega), decode_shift s p q h, List.map_cons, runes_shift s p f, Nat.add_assoc]
    · rw [runesFrom_end s _ _ h, runesFrom_end (tailOf s p) _ _ (by rw [tailOf_size]; omega)]
      rfl
theorem runes_head (s : ByteArray) (p : Nat) (hp : p ≤ s.size) : ∀ (f q k : Nat), s.size - q ≤ f → q ≤ p → (runesFrom s f q)[k]? = some p ∨ ((runesFrom s f q).length ≤ k ∧ p = s.size) →
    ∀ g, p - q ≤ g → runesFrom (s.extract 0 p) g q = (runesFrom s f q).take k ∧ (runesFrom s f q).drop k = runesFrom s (s.size - p) p
  | 0, q, k, hf, hq, hk, g, hg => by
    have hqe : q = s.size ∧ p = s.size := by omega
    obtain ⟨rfl, rfl⟩ := hqe
    refine ⟨?_, ?_⟩
    · rw [runesFrom_end _ _ _ (by rw [head_size s _ hp]; omega)]
      simp [runesFrom]
    · simp [runesFrom]
  | f + 1, q, k, hf, hq, hk, g, hg => by
    by_cases hs : q < s.size
    · have hw := Lib.width_pos s q
      have hwl := width_le s q hs
      rw [runesFrom_step s f q hs] at hk ⊢
      cases k with
      | zero =>
        have hpq : p = q := by
          rcases hk with hk | ⟨hk, _⟩
          · simpa using hk.symm
          · simp at hk
        subst hpq
        refine ⟨?_, ?_⟩
        · rw [runesFrom_end _ _ _ (by rw [head_size s _ hp]; omega)]
          simp
        · rw [List.drop_zero]
          have e : s.size - p = (s.size - p - 1) + 1 := by omega
          rw [e, runesFrom_step s _ p hs]
          congr 1
          exact runes_fuel s _ _ _ (by omega) (by omega)
      | succ k =>
        have hk2 : (runesFrom s f (q + (Utf8.decode s q).2))[k]? = some p ∨ ((runesFrom s f (q + (Utf8.decode s q).2)).length ≤ k ∧ p = s.size) := by
          simpa using hk
        have hqp : q + (Utf8.decode s q).2 ≤ p := by
          rcases hk2 with h | ⟨_, h⟩
          · exact (runes_take s f _ (by omega) hwl k p h).2
          · omega
        obtain ⟨g, rfl⟩ : ∃ x, g = x + 1 := ⟨g - 1, by omega⟩
        obtain ⟨i1, i2⟩ := runes_head s p hp f _ k (by omega) hqp hk2 g (by omega)
        rw [runesFrom_step (s.extract 0 p) g q (by rw [head_size s p hp]; omega), decode_head s p q hp hqp, i1]
        refine ⟨rfl, ?_⟩
        rw [List.drop_succ_cons]
        exact i2
    · have hqe : q = s.size ∧ p = s.size := by omega
      obtain ⟨rfl, rfl⟩ := hqe
      rw [runesFrom_end s _ _ hs, runesFrom_end (s.extract 0 s.size) _ _ (by rw [head_size s _ hp]; omega), runesFrom_end s _ _ hs]
      simp
where
  runes_fuel (s : ByteArray) : ∀ (f g q : Nat), s.size - q ≤ f → s.size - q ≤ g → runesFrom s f q = runesFrom s g q
  | f, g, q, hf, hg => by
    by_cases hs : q < s.size
    · obtain ⟨f, rfl⟩ : ∃ x, f = x + 1 := ⟨f - 1, by omega⟩
      obtain ⟨g, rfl⟩ : ∃ x, g = x + 1 := ⟨g - 1, by omega⟩
      have hw := Lib.width_pos s q
      rw [runesFrom_step s f q hs, runesFrom_step s g q hs, runes_fuel s f g _ (by omega) (by omega)]
    · rw [runesFrom_end s _ _ hs, runesFrom_end s _ _ hs]
theorem cut_split (s : ByteArray) (k : Nat) : runesOf (s.extract 0 (cutAt s k)) = (runesOf s).take k ∧ (runesOf (tailOf s (cutAt s k))).map (cutAt s k + ·) = (runesOf s).drop k := by
  have hp := cutAt_le s k
  have hk : (runesFrom s s.size 0)[k]? = some (cutAt s k) ∨ ((runesFrom s s.size 0).length ≤ k ∧ cutAt s k = s.size) := by
    unfold cutAt runesOf
    cases h : (runesFrom s s.size 0)[k]? with
    | none => exact .inr ⟨List.getElem?_eq_none_iff.1 h, rfl⟩
    | some p => exact .inl rfl
  obtain ⟨i1, i2⟩ := runes_head s (cutAt s k) hp s.size 0 k (by omega) (Nat.zero_le _) hk (cutAt s k) (by omega)
  refine ⟨?_, ?_⟩
  · unfold runesOf
    rw [head_size s _ hp]
    exact i1
  · unfold runesOf
    rw [runes_shift, tailOf_size, i2]
    rfl
theorem showPiece_tail (s : ByteArray) (p q : Nat) (h : p + q < s.size) : showPiece (tailOf s p) q = showPiece s (p + q) := by
  unfold showPiece brokenAt
  rw [decode_shift s p q h, tailOf_get s p q h]
theorem showPiece_head (s : ByteArray) (p q : Nat) (hp : p ≤ s.size) (h : q + (Utf8.decode s q).2 ≤ p) : showPiece (s.extract 0 p) q = showPiece s q := by
  have hw := Lib.width_pos s q
  unfold showPiece brokenAt
  rw [decode_head s p q hp h, head_get s p q hp (by omega)]
theorem flat_congr {α β : Type} {f g : α → List β} : ∀ (l : List α), (∀ x ∈ l, f x = g x) → l.flatMap f = l.flatMap g
  | [], _ => rfl
  | x :: l, h => by rw [List.flatMap_cons, List.flatMap_cons, h x (by simp), flat_congr l fun y hy => h y (by simp [hy])]
theorem runes_ends (s : ByteArray) : ∀ (f q k p : Nat), s.size - q ≤ f → q ≤ s.size → (runesFrom s f q)[k]? = some p ∨ ((runesFrom s f q).length ≤ k ∧ p = s.size) → ∀ x ∈ (runesFrom s f q).take k, x + (Utf8.decode s x).2 ≤ p
  | 0, q, k, p, hf, hq, hk, x, hx => by simp [runesFrom] at hx
  | f + 1, q, k, p, hf, hq, hk, x, hx => by
    by_cases hs : q < s.size
    · have hw := Lib.width_pos s q
      have hwl := width_le s q hs
      rw [runesFrom_step s f q hs] at hk hx
      cases k with
      | zero => simp at hx
      | succ k =>
        have hk2 : (runesFrom s f (q + (Utf8.decode s q).2))[k]? = some p ∨ ((runesFrom s f (q + (Utf8.decode s q).2)).length ≤ k ∧ p = s.size) := by
          simpa using hk
        rw [List.take_succ_cons, List.mem_cons] at hx
        rcases hx with rfl | hx
        · rcases hk2 with h | ⟨_, h⟩
          · exact (runes_take s f _ (by omega) hwl k p h).2
          · omega
        · exact runes_ends s f _ k p (by omega) hwl hk2 x hx
    · rw [runesFrom_end s _ _ hs] at hx
      simp at hx
theorem cut_shows (s : ByteArray) (k : Nat) : showOf (s.extract 0 (cutAt s k)) ++ showOf (tailOf s (cutAt s k)) = showOf s := by
  obtain ⟨i1, i2⟩ := cut_split s k
  have hp := cutAt_le s k
  have hk : (runesFrom s s.size 0)[k]? = some (cutAt s k) ∨ ((runesFrom s s.size 0).length ≤ k ∧ cutAt s k = s.size) := by
    unfold cutAt runesOf
    cases h : (runesFrom s s.size 0)[k]? with
    | none => exact .inr ⟨List.getElem?_eq_none_iff.1 h, rfl⟩
    | some p => exact .inl rfl
  unfold showOf
  have e1 : (runesOf (s.extract 0 (cutAt s k))).flatMap (showPiece (s.extract 0 (cutAt s k))) = ((runesOf s).take k).flatMap (showPiece s) := by
    rw [i1]
    exact flat_congr _ fun x hx => showPiece_head s _ x hp (runes_ends s s.size 0 k _ (by omega) (Nat.zero_le _) hk x hx)
  have e2 : (runesOf (tailOf s (cutAt s k))).flatMap (showPiece (tailOf s (cutAt s k))) = ((runesOf s).drop k).flatMap (showPiece s) := by
    rw [← i2, List.flatMap_map]
    refine flat_congr _ fun x hx => showPiece_tail s _ x ?_
    have := runesOf_lt _ x hx
    rw [tailOf_size] at this
    omega
  rw [e1, e2, ← List.flatMap_append, List.take_append_drop]
theorem cut_counts (s : ByteArray) (n : Int) : (((runesOf (cutOf s n)).length : Nat) : Int) = max 0 (min n ((runesOf s).length : Nat)) ∧ (runesOf (cutOf s n)).length + (runesOf (tailOf s (cutOf s n).size)).length = (runesOf s).length := by
  obtain ⟨i1, i2⟩ := cut_split s n.toNat
  unfold cutOf
  rw [head_size s _ (cutAt_le s _)]
  have i3 := congrArg List.length i1
  have i4 := congrArg List.length i2
  simp only [List.length_map, List.length_take, List.length_drop] at i3 i4
  rw [i3, i4]
  constructor <;> omega
theorem shown_plain (s : ByteArray) : ∀ c ∈ showOf s, 32 ≤ c.toNat ∧ c.toNat ≤ 126 ∧ c ≠ 34 := by
  intro c hc
  unfold showOf at hc
  obtain ⟨p, hp, hc⟩ := List.mem_flatMap.1 hc
  unfold showPiece at hc
  split at hc
  · have h1 := s.get! p
    have d1 : (s.get! p).toNat / 16 < 16 := by have := (s.get! p).toNat_lt; omega
    have d2 : (s.get! p).toNat % 16 < 16 := by omega
    have g1 := hexd_ne _ d1
    have g2 := hexd_ne _ d2
    simp only [List.mem_cons, List.not_mem_nil, or_false] at hc
    rcases hc with rfl | rfl | rfl | rfl
    · decide
    · decide
    · refine ⟨by omega, by omega, fun h => ?_⟩
      rw [h] at g1
      exact absurd g1.2.1 (by decide)
    · refine ⟨by omega, by omega, fun h => ?_⟩
      rw [h] at g2
      exact absurd g2.2.1 (by decide)
  · split at hc
    · rename_i h
      generalize (Utf8.decode s p).1 = d at *
      unfold plainC at h
      simp only [Bool.and_eq_true, decide_eq_true_eq, Bool.not_eq_true', beq_eq_false_iff_ne, ne_eq] at h
      obtain ⟨⟨⟨h1, h2⟩, h3⟩, h4⟩ := h
      have e : Lib.encodeRune (d : Int) = [UInt8.ofNat d] := by
        unfold Lib.encodeRune
        rw [Lib.encodeRuneZ_one (by omega) (by omega)]
        rfl
      rw [e] at hc
      simp only [List.mem_cons, List.not_mem_nil, or_false] at hc
      subst hc
      have e2 : (UInt8.ofNat d).toNat = d := by rw [UInt8.toNat_ofNat']; omega
      refine ⟨by omega, by omega, fun h => h3 ?_⟩
      rw [← e2, h]
      rfl
    · rw [List.mem_append, List.mem_append] at hc
      rcases hc with (hc | hc) | hc
      · simp only [List.mem_cons, List.not_mem_nil, or_false] at hc
        rcases hc with rfl | rfl | rfl <;> decide
      · have hr := rune_ok s p
        have g1 := hexD_all 6 (Utf8.decode s p).1 (by unfold ROk at hr; omega) c hc
        refine ⟨by omega, by omega, fun h => ?_⟩
        rw [h] at g1
        exact absurd g1.2.1 (by decide)
      · simp only [List.mem_cons, List.not_mem_nil, or_false] at hc
        subst hc
        decide
end Go.Proofs.YtpjfmgifddoppaaDoor
