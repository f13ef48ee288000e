/- slot: a slot as bytes, and back, in plain Lean. -/
import Derived.Test.YtpjfmgifddoppaaDoorCodM
import Derived.Test.YtpjfmgifddoppaaDoorSlX
namespace Go.Proofs.YtpjfmgifddoppaaDoor
set_option linter.unusedVariables false
set_option linter.unusedSimpArgs false
open Go.RowKit Go.Lib

def sBy1 (s : Slt) : List UInt8 := leB s.st.toNat 1
def sBy2 (s : Slt) : List UInt8 := sBy1 s ++ leB s.tr.toNat 1
def sBy3 (s : Slt) : List UInt8 := sBy2 s ++ leB s.ver.toNat 8
def sBy4 (s : Slt) : List UInt8 := sBy3 s ++ leB s.sz.toNat 4
/-- A slot as bytes. -/
def sBy (s : Slt) : List UInt8 := sBy4 s ++ s.dig
def sByR (s : Slt) : List UInt8 := if rightS s = true then sBy s else []
theorem sBy_lens (s : Slt) : (sBy1 s).length = 1 ∧ (sBy2 s).length = 2 ∧ (sBy3 s).length = 10 ∧ (sBy4 s).length = 14 := by
  simp [sBy4, sBy3, sBy2, sBy1, leB_len]
theorem sBy_len (s : Slt) (h : s.dig.length = 32) : (sBy s).length = 46 := by
  unfold sBy
  rw [List.length_append, (sBy_lens s).2.2.2, h]
theorem right_small (s : Slt) (h : rightS s = true) : 0 ≤ s.st ∧ s.st ≤ 4 ∧ 0 ≤ s.tr ∧ s.tr ≤ 7 ∧ 0 ≤ s.ver ∧ s.ver ≤ 281474976710656 ∧ 0 ≤ s.sz ∧ s.sz ≤ 65536 := by
  have h1 := right_bounds s h
  have h2 := right_st s h
  omega
/-- A slot of 46 bytes, whether it can be or not. -/
def sOf (b : List UInt8) : Slt := ⟨leV (b.take 1), leV ((b.drop 1).take 1), leV ((b.drop 2).take 8), leV ((b.drop 10).take 4), b.drop 14⟩
theorem sOf_by (s : Slt) (h : rightS s = true) : sOf (sBy s) = s := by
  have hb := right_small s h
  have e1 : (sBy s).take 1 = leB s.st.toNat 1 := by unfold sBy sBy4 sBy3 sBy2 sBy1; simp [leB]
  have e2 : ((sBy s).drop 1).take 1 = leB s.tr.toNat 1 := by unfold sBy sBy4 sBy3 sBy2 sBy1; simp [leB]
  have e3 : ((sBy s).drop 2).take 8 = leB s.ver.toNat 8 := by
    unfold sBy sBy4 sBy3
    have := (sBy_lens s).2.1
    rw [List.append_assoc, List.append_assoc, List.drop_left' this, List.take_left' (leB_len 8 _)]
  have e4 : ((sBy s).drop 10).take 4 = leB s.sz.toNat 4 := by
    unfold sBy sBy4
    have := (sBy_lens s).2.2.1
    rw [List.append_assoc, List.drop_left' this, List.take_left' (leB_len 4 _)]
  have e5 : (sBy s).drop 14 = s.dig := by
    unfold sBy
    rw [List.drop_left' (sBy_lens s).2.2.2]
  unfold sOf
  rw [e1, e2, e3, e4, e5, leV_leB 1 _ (by omega), leV_leB 1 _ (by omega), leV_leB 8 _ (by omega), leV_leB 4 _ (by omega)]
  cases s
  simp only at hb ⊢
  congr 1 <;> omega
theorem sBy_inj (s t : Slt) (hs : rightS s = true) (ht : rightS t = true) (h : sBy s = sBy t) : s = t := by
  rw [← sOf_by s hs, ← sOf_by t ht, h]
theorem text_inj (s t : Slt) (ls : s.dig.length = 32) (lt : t.dig.length = 32) (hs : rightS s = true) (ht : rightS t = true) (h : textS s = textS t) : s = t := by
  have h1 := parse_text s hs ls
  have h2 := parse_text t ht lt
  rw [h] at h1
  rw [h1] at h2
  exact (Prod.mk.inj h2).1
theorem by_same (s t : Slt) (hs : rightS s = true) (ht : rightS t = true) : (sBy s == sBy t) = sameS s t := by
  rw [Bool.eq_iff_iff, beq_iff_eq, same_iff]
  exact ⟨sBy_inj s t hs ht, fun h => by rw [h]⟩
theorem text_same (s t : Slt) (ls : s.dig.length = 32) (lt : t.dig.length = 32) (hs : rightS s = true) (ht : rightS t = true) : (textS s == textS t) = sameS s t := by
  rw [Bool.eq_iff_iff, beq_iff_eq, same_iff]
  exact ⟨text_inj s t ls lt hs ht, fun h => by rw [h]⟩
theorem sOf_ok (b : List UInt8) (h : b.length = 46) : (sOf b).Ok := by
  have h1 := leV_lt (b.take 1)
  have h2 := leV_lt ((b.drop 1).take 1)
  have h3 := leV_lt ((b.drop 2).take 8)
  have h4 := leV_lt ((b.drop 10).take 4)
  have l1 : (b.take 1).length = 1 := by simp; omega
  have l2 : ((b.drop 1).take 1).length = 1 := by simp; omega
  have l3 : ((b.drop 2).take 8).length = 8 := by simp; omega
  have l4 : ((b.drop 10).take 4).length = 4 := by simp; omega
  rw [l1] at h1
  rw [l2] at h2
  rw [l3] at h3
  rw [l4] at h4
  refine ⟨by simp [sOf, h], ?_, ?_, ?_, ?_, ?_, ?_, ?_, ?_⟩ <;> simp only [sOf] <;> omega
end Go.Proofs.YtpjfmgifddoppaaDoor
