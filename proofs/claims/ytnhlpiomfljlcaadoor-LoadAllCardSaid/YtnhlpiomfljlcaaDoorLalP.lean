/- LoadAll: what the loader does, as data. -/
import Derived.Test.YtnhlpiomfljlcaaDoorLdLM
import Derived.Test.YtnhlpiomfljlcaaDoorRmake
namespace Go.Proofs.YtnhlpiomfljlcaaDoor
set_option linter.unusedVariables false
set_option linter.unusedSimpArgs false
open Go.RowKit Go.Lib

theorem fetched_plain (bs : List UInt8) (a m : Int) : fetched bs (first []) a m = (piece bs a m, 0) := by simp [fetched, first]
theorem piece_head (bs : List UInt8) : piece bs 0 2304 = bs.take 2304 := by
  unfold piece
  split
  · rename_i h
    have : bs.length = 0 := by omega
    rw [List.eq_nil_of_length_eq_zero this]; rfl
  · simp
theorem lal_first (all : List UInt8) (n : Nat) (hn : 1 ≤ n) : (LQ.start 0 [] 0).stepQ (some all) n = (true, { LQ.start 0 [] 0 with cnt := 1, out := [(-1, all.take 2304)], wants := -2 }) := by
  have hc : ¬ ((LQ.start 0 [] 0).wants = -2 ∨ n ≤ (LQ.start 0 [] 0).out.length) := by
    simp only [LQ.start, List.length_nil]; omega
  have ha : (LQ.start 0 [] 0).askQ = (0, 2304) := rfl
  have hf : fetched all (first (LQ.start 0 [] 0).fs) (LQ.start 0 [] 0).askQ.1 (LQ.start 0 [] 0).askQ.2 = (all.take 2304, 0) := by
    rw [ha, show (LQ.start 0 [] 0).fs = [] from rfl, fetched_plain, piece_head]
  rw [stepQ_sent all rfl rfl hc (by rw [hf]), hf]
  rfl
theorem lal_second (all : List UInt8) (n : Nat) : ({ LQ.start 0 [] 0 with cnt := 1, out := [(-1, all.take 2304)], wants := -2 } : LQ).stepQ (some all) n = (false, { LQ.start 0 [] 0 with cnt := 1, out := [(-1, all.take 2304)], wants := -2 }) :=
  stepQ_rest _ rfl rfl (.inl rfl)
/-- The loader behind i chunks. -/
def lalQ (h : Int) (m : Man) (i : Nat) : LQ := ⟨0, some (h, m), if i = m.n then -2 else i, 0, [], [], [], 1 + i⟩
theorem lal_go (h : Int) (m : Man) (o : Option (List UInt8)) (n : Nat) (hr : rightM m = true) (h0 : 0 ≤ h) (h1 : h ≤ 2304) (hn : m.n ≠ 0) :
    ({ LQ.start 0 [] 0 with cnt := 1, out := [], inn := [.go h m], wants := -2 } : LQ).stepQ o n = (true, lalQ h m 0) := by
  rw [stepQ_told (t := .go h m) (rest := []) o rfl rfl]
  simp [LQ.followQ, LQ.start, hr, h0, h1, lalQ, Ne.symm hn, triesOf]
  try decide
theorem piece_chunk (lead b : List UInt8) (ch i : Nat) (h1 : 1 ≤ ch) (hi : i * ch < b.length) :
    piece (lead ++ b) ((lead.length : Int) + (i : Int) * (ch : Int)) (min (ch : Int) ((b.length : Int) - (i : Int) * (ch : Int))) = chunkAt b ch i := by
  have e : (i : Int) * (ch : Int) = ((i * ch : Nat) : Int) := by rw [Int.natCast_mul]
  unfold piece chunkAt
  rw [e, if_neg (by rw [List.length_append]; omega)]
  rw [show ((lead.length : Int) + ((i * ch : Nat) : Int)).toNat = lead.length + i * ch by omega, List.drop_append, show (min (ch : Int) ((b.length : Int) - ((i * ch : Nat) : Int))).toNat = min ch (b.length - i * ch) by omega]
  rw [List.drop_of_length_le (by omega), List.nil_append, show lead.length + i * ch - lead.length = i * ch by omega]
  by_cases hc : ch ≤ b.length - i * ch
  · rw [Nat.min_eq_left hc]
  · rw [Nat.min_eq_right (by omega), List.take_of_length_le (by rw [List.length_drop]; omega), List.take_of_length_le (by rw [List.length_drop]; omega)]
theorem lal_step (lead b : List UInt8) (ch : Nat) (m : Man) (i n : Nat) (hr : rightM m = true) (hm : m.chunk = ch) (hs : m.size = b.length) (hi : i < m.n) (hn : 1 ≤ n) (h1 : 1 ≤ ch) (hlt : i * ch < b.length) :
    (lalQ lead.length m i).stepQ (some (lead ++ b)) n = (true, { lalQ lead.length m (i + 1) with out := [((i : Int), chunkAt b ch i)] }) := by
  have hw : (lalQ lead.length m i).wants = (i : Int) := by simp only [lalQ]; rw [if_neg (by omega)]
  have hc : ¬ ((lalQ lead.length m i).wants = -2 ∨ n ≤ (lalQ lead.length m i).out.length) := by
    rw [hw]; simp only [lalQ, List.length_nil]; omega
  have hsp : spanM m (i : Int) = ((i : Int) * (ch : Int), min (ch : Int) ((b.length : Int) - (i : Int) * (ch : Int))) := by
    unfold spanM; rw [if_pos ⟨hr, by omega, by omega⟩, hm, hs]
  have ha : (lalQ lead.length m i).askQ = ((lead.length : Int) + (i : Int) * (ch : Int), min (ch : Int) ((b.length : Int) - (i : Int) * (ch : Int))) := by
    unfold LQ.askQ; rw [hw, if_neg (by omega)]; simp only [lalQ, hsp]
  have hf : fetched (lead ++ b) (first (lalQ lead.length m i).fs) (lalQ lead.length m i).askQ.1 (lalQ lead.length m i).askQ.2 = (chunkAt b ch i, 0) := by
    rw [ha, show (lalQ lead.length m i).fs = [] from rfl, fetched_plain]
    simp only [piece_chunk lead b ch i h1 hlt]
  have hx : (lalQ lead.length m i).nextQ = if i + 1 = m.n then -2 else ((i + 1 : Nat) : Int) := by
    unfold LQ.nextQ; rw [hw]; simp only [lalQ]
    by_cases h : i + 1 = m.n
    · rw [if_pos h, if_pos (by omega)]
    · rw [if_neg h, if_neg (by omega)]; omega
  rw [stepQ_sent (lead ++ b) rfl rfl hc (by rw [hf]), hf, hw, hx]
  simp only [lalQ, List.nil_append, List.tail_nil, Nat.add_assoc]
theorem lal_end (h : Int) (m : Man) (o : Option (List UInt8)) (n : Nat) : (lalQ h m m.n).stepQ o n = (false, lalQ h m m.n) :=
  stepQ_rest o rfl rfl (.inl (by simp [lalQ]))
theorem take_chunk (b : List UInt8) (ch i : Nat) : b.take (i * ch) ++ chunkAt b ch i = b.take ((i + 1) * ch) := by
  rw [Nat.succ_mul, chunkAt, List.take_add]
/-- A manifest that was made. -/
theorem made_all {prod : ByteArray} {ver : Int} {ch : Nat} {bs : List UInt8} (h : mkOk prod ver ch bs = true) : 1 ≤ ch ∧ 1 ≤ mkN ch bs ∧ mkN ch bs ≤ 64 ∧ bs.length ≤ mkN ch bs * ch ∧ (∀ i, i < mkN ch bs → i * ch < bs.length) ∧ ∀ A c, rightM (madeM prod ver ch bs A (mkN ch bs) c) = true := by
  unfold mkOk at h
  rw [Bool.and_eq_true, decide_eq_true_eq] at h
  obtain ⟨h64, hr⟩ := h
  have hr2 : ∀ A c, rightM (madeM prod ver ch bs A (mkN ch bs) c) = true := fun A c => hr
  obtain ⟨_, _, _, s1, _, c1, _, _, hn, _⟩ := (rightM_iff _).1 (hr2 none 0)
  simp only [madeM] at s1 c1 hn
  obtain ⟨k1, k2, k3⟩ := cntM_span bs.length ch s1 (by omega)
  rw [← hn] at k1 k2 k3
  have e2 : (((mkN ch bs - 1 : Nat) : Int)) * (ch : Int) = (((mkN ch bs - 1) * ch : Nat) : Int) := by rw [Int.natCast_mul]
  have e3 : ((mkN ch bs : Nat) : Int) * (ch : Int) = ((mkN ch bs * ch : Nat) : Int) := by rw [Int.natCast_mul]
  rw [show ((mkN ch bs : Nat) : Int) - 1 = ((mkN ch bs - 1 : Nat) : Int) by omega, e2] at k2
  rw [e3] at k3
  refine ⟨by omega, by omega, h64, by omega, fun i hi => ?_, hr2⟩
  have : i * ch ≤ (mkN ch bs - 1) * ch := Nat.mul_le_mul_right _ (by omega)
  omega
end Go.Proofs.YtnhlpiomfljlcaaDoor
