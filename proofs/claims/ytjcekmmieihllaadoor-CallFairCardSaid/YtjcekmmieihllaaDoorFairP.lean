/- CallFair: in plain Lean. -/
import Derived.Test.YtjcekmmieihllaaDoorLcn
namespace Go.Proofs.YtjcekmmieihllaaDoor
set_option linter.unusedVariables false
set_option linter.unusedSimpArgs false
set_option linter.unnecessarySimpa false
open Go.RowKit Go.Lib

def fP (j : Nat) (b : Bool) : Pn := ⟨nC (j : Int) 3 0, (j : Int) + 1, if b then 2 else 1, zR⟩
/-- Clients that all ask the same; which are taken up. -/
def fairD : Nat → List Bool → List Pn
  | _, [] => []
  | j, b :: bs => fP j b :: fairD (j + 1) bs
def freeN (bs : List Bool) : Nat := (bs.filter fun b => !b).length
theorem fairD_len : ∀ (j : Nat) (bs : List Bool), (fairD j bs).length = bs.length
  | _, [] => rfl
  | j, b :: bs => by rw [fairD, List.length_cons, List.length_cons, fairD_len]
theorem fairD_snoc : ∀ (j : Nat) (bs : List Bool) (b : Bool), fairD j (bs ++ [b]) = fairD j bs ++ [fP (j + bs.length) b]
  | j, [], b => rfl
  | j, a :: bs, b => by
    rw [List.cons_append, fairD, fairD, fairD_snoc, List.cons_append, List.length_cons, show j + 1 + bs.length = j + (bs.length + 1) by omega]
theorem fP_ok (j : Nat) (b : Bool) (h : j ≤ 900) : (fP j b).Ok := ⟨nC_ok _ _ _ (by omega) (by decide) (by decide), zR_ok, by show empB.size ≤ 1000000; decide⟩
theorem fairD_ok : ∀ (j : Nat) (bs : List Bool), j + bs.length ≤ 800 → AllOk (fairD j bs)
  | _, [], _ => fun p hp => by cases hp
  | j, b :: bs, h => fun p hp => by
    rw [List.length_cons] at h
    rw [fairD] at hp
    rcases List.mem_cons.1 hp with rfl | hp
    · exact fP_ok j b (by omega)
    · exact fairD_ok (j + 1) bs (by omega) p hp
theorem fP_one (j : Nat) (b : Bool) : (fP j b).stage = 1 ↔ b = false := by cases b <;> simp [fP]
theorem fairD_wait : ∀ (j : Nat) (bs : List Bool), waitD (fairD j bs) = freeN bs
  | _, [] => rfl
  | j, b :: bs => by
    rw [fairD, waitD_cons, fairD_wait]
    cases b with
    | false => rw [if_pos ((fP_one j false).2 rfl)]; unfold freeN; simp; omega
    | true => rw [if_neg (by rw [fP_one]; simp)]; unfold freeN; simp
theorem fairD_drop : ∀ (j : Nat) (bs : List Bool), dropN (fairD j bs) = bs.length
  | _, [] => rfl
  | j, b :: bs => by
    have ih := fairD_drop (j + 1) bs
    unfold dropN at ih ⊢
    rw [fairD, List.filter_cons_of_pos (by cases b <;> simp [fP]), List.length_cons, ih, List.length_cons]
theorem fairD_pick : ∀ (j : Nat) (bs : List Bool) (k : Nat), k < freeN bs → ∃ i, bs[i]? = some false ∧ pickD (fairD j bs) k = (fairD j (bs.set i true), (((j + i : Nat) : Int) + 1, nC ((j + i : Nat) : Int) 3 0))
  | _, [], k, h => by simp [freeN] at h
  | j, true :: bs, k, h => by
    obtain ⟨i, h1, h2⟩ := fairD_pick (j + 1) bs k (by unfold freeN at h ⊢; simpa using h)
    refine ⟨i + 1, by simpa using h1, ?_⟩
    rw [fairD, pick_step_no _ _ _ (by rw [fP_one]; simp), h2, show j + 1 + i = j + (i + 1) by omega]
    rfl
  | j, false :: bs, 0, h => by
    refine ⟨0, rfl, ?_⟩
    rw [fairD, pick_step_zero _ _ ((fP_one j false).2 rfl)]
    rfl
  | j, false :: bs, k + 1, h => by
    obtain ⟨i, h1, h2⟩ := fairD_pick (j + 1) bs k (by unfold freeN at h ⊢; simp at h; omega)
    refine ⟨i + 1, by simpa using h1, ?_⟩
    rw [fairD, pick_step_succ _ _ _ ((fP_one j false).2 rfl), h2, show j + 1 + i = j + (i + 1) by omega]
    rfl
theorem fairD_first : ∀ (i j : Nat) (bs : List Bool), pickD (fairD j (List.replicate i true ++ false :: bs)) 0 = (fairD j (List.replicate i true ++ true :: bs), (((j + i : Nat) : Int) + 1, nC ((j + i : Nat) : Int) 3 0))
  | 0, j, bs => by
    rw [List.replicate_zero, List.nil_append, fairD, pick_step_zero _ _ ((fP_one j false).2 rfl)]
    rfl
  | i + 1, j, bs => by
    rw [List.replicate_succ, List.cons_append, fairD, pick_step_no _ _ _ (by rw [fP_one]; simp), fairD_first, show j + 1 + i = j + (i + 1) by omega]
    rfl
theorem freeN_set : ∀ (bs : List Bool) (i : Nat), bs[i]? = some false → freeN (bs.set i true) + 1 = freeN bs
  | [], i, h => by simp at h
  | b :: bs, 0, h => by
    simp at h
    subst h
    unfold freeN
    simp
  | b :: bs, i + 1, h => by
    have ih := freeN_set bs i (by simpa using h)
    unfold freeN at ih ⊢
    rw [List.set_cons_succ]
    cases b <;> simp <;> omega
theorem freeN_rep (n : Nat) : freeN (List.replicate n false) = n := by unfold freeN; simp
theorem freeN_two (i n : Nat) : freeN (List.replicate i true ++ List.replicate n false) = n := by unfold freeN; simp
/-- All that have asked so far. -/
def askL (i m : Nat) : List Pn := fairD 0 (List.replicate (min i m) false) ++ List.replicate (m - min i m) zP
theorem askL_len (i m : Nat) : (askL i m).length = m := by
  unfold askL
  rw [List.length_append, fairD_len, List.length_replicate, List.length_replicate]
  omega
theorem askL_zero (m : Nat) : askL 0 m = List.replicate m zP := by
  unfold askL
  rw [Nat.zero_min]
  simp [fairD]
theorem askL_all (i m : Nat) (h : m ≤ i) : askL i m = fairD 0 (List.replicate m false) := by
  unfold askL
  rw [Nat.min_eq_right h]
  simp
theorem askL_ok (i m : Nat) (h : m ≤ 8) : AllOk (askL i m) := fun p hp => by
  unfold askL at hp
  rcases List.mem_append.1 hp with hp | hp
  · exact fairD_ok 0 _ (by rw [List.length_replicate]; omega) p hp
  · rw [List.eq_of_mem_replicate hp]; exact zP_ok
theorem fair_right (i : Nat) (h : i ≤ 7) : rightC (nC (i : Int) 3 0) = true := nC_right _ _ (by omega) (by decide)
theorem fair_wrong (i : Nat) (h : 8 ≤ i) : ¬ rightC (nC (i : Int) 3 0) = true := by
  unfold rightC nC
  have : decide ((i : Int) ≤ 7) = false := decide_eq_false (by omega)
  rw [this]
  simp
theorem fair_ask (i m : Nat) (hm : m ≤ 8) (hi : i ≤ 9) : ∃ n e : Int, askD (askL i m) ((min i m : Nat) : Int) (nC (i : Int) 3 0) = ((askL (i + 1) m, ((min (i + 1) m : Nat) : Int)), (n, e)) ∧ (i < m → e = 0) ∧ (¬ i < m → e ≠ 0) := by
  by_cases him : i < m
  · have h1 : min i m = i := by omega
    have h2 : min (i + 1) m = i + 1 := by omega
    refine ⟨(i : Int) + 1, 0, ?_, fun _ => rfl, fun h => absurd him h⟩
    have hget : (askL i m)[i]? = some zP := by
      unfold askL
      rw [h1, List.getElem?_append_right (by rw [fairD_len, List.length_replicate]; exact Nat.le_refl _), fairD_len, List.length_replicate, Nat.sub_self, List.getElem?_replicate, if_pos (by omega)]
    have hset : (askL i m).set i (fP i false) = askL (i + 1) m := by
      unfold askL
      rw [h1, h2, List.set_append_right _ _ (by rw [fairD_len, List.length_replicate]; exact Nat.le_refl _), fairD_len, List.length_replicate, Nat.sub_self]
      obtain ⟨r, hr⟩ : ∃ r, m - i = r + 1 := ⟨m - i - 1, by omega⟩
      rw [hr, List.replicate_succ, List.set_cons_zero, List.replicate_succ' (n := i), fairD_snoc, List.length_replicate, Nat.zero_add, show m - (i + 1) = r by omega]
      simp
    unfold askD
    rw [if_pos (fair_right i (by omega))]
    rw [show (nC (i : Int) 3 0).client.toNat = i from Int.toNat_natCast i, hget, h1, h2]
    dsimp only
    rw [if_pos (show zP.stage = 0 from rfl)]
    have e : (⟨nC (i : Int) 3 0, (i : Int) + 1, 1, zR⟩ : Pn) = fP i false := rfl
    rw [e, hset]
    rfl
  · have h1 : min i m = m := by omega
    have h2 : min (i + 1) m = m := by omega
    have h3 : askL (i + 1) m = askL i m := by unfold askL; rw [h1, h2]
    rw [h1, h2, h3]
    by_cases h8 : i ≤ 7
    · refine ⟨0, 242, ?_, fun h => absurd h him, fun _ => by decide⟩
      unfold askD
      rw [if_pos (fair_right i h8), show (nC (i : Int) 3 0).client.toNat = i from Int.toNat_natCast i, List.getElem?_eq_none (by rw [askL_len]; omega)]
    · refine ⟨0, 241, ?_, fun h => absurd h him, fun _ => by decide⟩
      unfold askD
      rw [if_neg (fair_wrong i (by omega))]
end Go.Proofs.YtjcekmmieihllaaDoor
