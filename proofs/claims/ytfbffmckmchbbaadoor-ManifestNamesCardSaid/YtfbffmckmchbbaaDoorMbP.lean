/- manifest: its bytes, and what bytes say, in plain Lean. -/
import Derived.Test.YtfbffmckmchbbaaDoorManP
namespace Go.Proofs.YtfbffmckmchbbaaDoor
set_option linter.unusedVariables false
set_option linter.unusedSimpArgs false
open Go.RowKit Go.Lib

/-- A number in so many bytes, and back. -/
def leB : Nat → Nat → List UInt8
  | _, 0 => []
  | n, k + 1 => UInt8.ofNat (n % 256) :: leB (n / 256) k
def leV : List UInt8 → Nat
  | [] => 0
  | b :: bs => b.toNat + 256 * leV bs
theorem leB_len : ∀ (k n : Nat), (leB n k).length = k
  | 0, _ => rfl
  | k + 1, n => by simp [leB, leB_len k]
theorem leV_leB : ∀ (k n : Nat), n < 256 ^ k → leV (leB n k) = n
  | 0, n, h => by simp at h; subst h; rfl
  | k + 1, n, h => by
    have h1 : n / 256 < 256 ^ k := by rw [Nat.pow_succ] at h; omega
    simp only [leB, leV, leV_leB k _ h1]
    rw [UInt8.toNat_ofNat']
    omega
theorem leV_lt : ∀ bs : List UInt8, leV bs < 256 ^ bs.length
  | [] => by simp [leV]
  | b :: bs => by
    have h1 := leV_lt bs
    have h2 := b.toNat_lt
    simp only [leV, List.length_cons, Nat.pow_succ]
    omega
theorem leB_leV : ∀ bs : List UInt8, leB (leV bs) bs.length = bs
  | [] => rfl
  | b :: bs => by
    have h2 : b.toNat < 256 := b.toNat_lt
    have h1 := leB_leV bs
    simp only [leV, List.length_cons, leB]
    rw [show (b.toNat + 256 * leV bs) % 256 = b.toNat by omega, show (b.toNat + 256 * leV bs) / 256 = leV bs by omega, h1]
    simp
/-- A text's bytes. -/
def sB (s : ByteArray) : List UInt8 := s.data.toList
theorem sB_len (s : ByteArray) : (sB s).length = s.size := Array.length_toList
/-- A manifest's bytes; its chunks are given beside. -/
def mbytes (prod : ByteArray) (ver size chunk : Nat) (dig : List UInt8) (hs : List (List UInt8)) : List UInt8 :=
  leB prod.size 2 ++ (sB prod ++ (leB ver 8 ++ (leB size 4 ++ (leB chunk 2 ++ (dig ++ hs.flatten)))))

/-- What is left of the bytes; none: there was an error. -/
abbrev Rs := Option (List UInt8)
def tk (n : Nat) : Rs → List UInt8 × Rs
  | none => ([], none)
  | some r => if n ≤ r.length then (r.take n, some (r.drop n)) else ([], none)
def limR (L n : Nat) (s : Rs) : Rs := if n ≤ L then s else none
theorem tk_some {n : Nat} {s : Rs} {r' : List UInt8} (h : (tk n s).2 = some r') : s = some ((tk n s).1 ++ r') ∧ (tk n s).1.length = n := by
  unfold tk at h ⊢
  cases s with
  | none => simp at h
  | some r =>
    simp only at h ⊢
    by_cases hn : n ≤ r.length
    · rw [if_pos hn] at h ⊢
      simp only at h ⊢
      injection h with h
      subst h
      simp [hn]
    · rw [if_neg hn] at h; simp at h
theorem tk_app {x r : List UInt8} {n : Nat} (h : x.length = n) : tk n (some (x ++ r)) = (x, some r) := by
  unfold tk
  simp only [List.length_append]
  rw [if_pos (by omega)]
  subst h
  simp
theorem tk_none (n : Nat) : tk n none = ([], none) := rfl
theorem tk_len (n : Nat) (s : Rs) : (tk n s).1.length ≤ n := by
  unfold tk
  cases s with
  | none => simp
  | some r =>
    simp only
    by_cases hn : n ≤ r.length
    · rw [if_pos hn]; simp; omega
    · rw [if_neg hn]; simp

/-- The head of a manifest's bytes. -/
structure Hd where
  prod : List UInt8
  ver : Nat
  size : Nat
  chunk : Nat
  dig : List UInt8
  rest : Rs
def pad32 (b : List UInt8) : List UInt8 := b ++ List.replicate (32 - b.length) 0
theorem pad32_len {b : List UInt8} (h : b.length ≤ 32) : (pad32 b).length = 32 := by simp [pad32]; omega
theorem pad32_id {b : List UInt8} (h : b.length = 32) : pad32 b = b := by simp [pad32, h]
def hd1 (bs : List UInt8) : List UInt8 × Rs := tk 2 (some bs)
def hd2 (L : Nat) (bs : List UInt8) : List UInt8 × Rs := tk (leV (hd1 bs).1) (limR L (leV (hd1 bs).1) (hd1 bs).2)
def hd3 (L : Nat) (bs : List UInt8) : List UInt8 × Rs := tk 8 (hd2 L bs).2
def hd4 (L : Nat) (bs : List UInt8) : List UInt8 × Rs := tk 4 (hd3 L bs).2
def hd5 (L : Nat) (bs : List UInt8) : List UInt8 × Rs := tk 2 (hd4 L bs).2
def hd6 (L : Nat) (bs : List UInt8) : List UInt8 × Rs := tk 32 (hd5 L bs).2
def hd (L : Nat) (bs : List UInt8) : Hd := ⟨(hd2 L bs).1, leV (hd3 L bs).1, leV (hd4 L bs).1, leV (hd5 L bs).1, pad32 (hd6 L bs).1, (hd6 L bs).2⟩
def stN (s : Rs) : Nat → Rs
  | 0 => s
  | k + 1 => (tk 32 (stN s k)).2
def hsAt (s : Rs) (k : Nat) : List UInt8 := pad32 (tk 32 (stN s k)).1
def hsOf (s : Rs) (k : Nat) : List (List UInt8) := (List.range k).map (hsAt s)
theorem hsOf_len (s : Rs) (k : Nat) : (hsOf s k).length = k := by simp [hsOf]
theorem hsOf_succ (s : Rs) (k : Nat) : hsOf s (k + 1) = hsOf s k ++ [hsAt s k] := by simp [hsOf, List.range_succ]
theorem hsOf_32 (s : Rs) (k : Nat) : ∀ h ∈ hsOf s k, h.length = 32 := by
  intro h hh
  obtain ⟨j, _, rfl⟩ := List.mem_map.1 hh
  exact pad32_len (tk_len _ _)
/-- All that was read is there. -/
theorem stN_some (s : Rs) : ∀ (k : Nat) (r : List UInt8), stN s k = some r → s = some ((hsOf s k).flatten ++ r)
  | 0, r, h => by simpa [hsOf, stN] using h
  | k + 1, r, h => by
    obtain ⟨h1, h2⟩ := tk_some (s := stN s k) h
    have h3 := stN_some s k _ h1
    rw [hsOf_succ, List.flatten_append, List.append_assoc]
    have : hsAt s k = (tk 32 (stN s k)).1 := pad32_id h2
    rw [this]
    simpa using h3
theorem stN_app (l : List (List UInt8)) (r : List UInt8) (hl : ∀ h ∈ l, h.length = 32) : ∀ k, k ≤ l.length → stN (some (l.flatten ++ r)) k = some ((l.drop k).flatten ++ r) ∧ hsOf (some (l.flatten ++ r)) k = l.take k
  | 0, _ => by simp [stN, hsOf]
  | k + 1, h => by
    obtain ⟨h1, h2⟩ := stN_app l r hl k (by omega)
    obtain ⟨x, hx⟩ : ∃ x, l[k]? = some x := ⟨_, List.getElem?_eq_getElem (by omega)⟩
    have hd : l.drop k = x :: l.drop (k + 1) := by
      rw [List.drop_eq_getElem_cons (by omega)]
      congr 1
      have h9 := List.getElem?_eq_getElem (l := l) (i := k) (by omega)
      rw [h9] at hx
      injection hx
    have hx32 := hl x (List.mem_of_getElem? hx)
    have ht : tk 32 (stN (some (l.flatten ++ r)) k) = (x, some ((l.drop (k + 1)).flatten ++ r)) := by
      rw [h1, hd, List.flatten_cons, List.append_assoc]
      exact tk_app hx32
    refine ⟨?_, ?_⟩
    · show (tk 32 (stN (some (l.flatten ++ r)) k)).2 = _
      rw [ht]
    · rw [hsOf_succ, h2]
      unfold hsAt
      rw [ht, pad32_id hx32, List.take_add_one, hx]
      rfl
theorem stN_none (k : Nat) : stN none k = none := by
  induction k with
  | zero => rfl
  | succ k ih => show (tk 32 (stN none k)).2 = none; rw [ih]; rfl

/-- What the head says, where all of it is there. -/
theorem hd_some {L : Nat} {bs r : List UInt8} (h : (hd L bs).rest = some r) : (hd L bs).prod.length ≤ L ∧ (hd L bs).prod.length < 65536 ∧ (hd L bs).ver < 256 ^ 8 ∧ (hd L bs).size < 256 ^ 4 ∧ (hd L bs).chunk < 256 ^ 2 ∧ (hd L bs).dig.length = 32 ∧
    bs = leB (hd L bs).prod.length 2 ++ ((hd L bs).prod ++ (leB (hd L bs).ver 8 ++ (leB (hd L bs).size 4 ++ (leB (hd L bs).chunk 2 ++ ((hd L bs).dig ++ r))))) := by
  have h : (hd6 L bs).2 = some r := h
  obtain ⟨a6, b6⟩ := tk_some (s := (hd5 L bs).2) h
  obtain ⟨a5, b5⟩ := tk_some (s := (hd4 L bs).2) a6
  obtain ⟨a4, b4⟩ := tk_some (s := (hd3 L bs).2) a5
  obtain ⟨a3, b3⟩ := tk_some (s := (hd2 L bs).2) a4
  obtain ⟨a2, b2⟩ := tk_some (s := limR L (leV (hd1 bs).1) (hd1 bs).2) a3
  have hL : leV (hd1 bs).1 ≤ L := by
    unfold limR at a2
    by_cases h1 : leV (hd1 bs).1 ≤ L
    · exact h1
    · rw [if_neg h1] at a2; cases a2
  have hlim : limR L (leV (hd1 bs).1) (hd1 bs).2 = (hd1 bs).2 := if_pos hL
  have e2 : (tk (leV (hd1 bs).1) (hd1 bs).2).1 = (hd2 L bs).1 := by unfold hd2; rw [hlim]
  rw [hlim] at a2
  obtain ⟨a1, b1⟩ := tk_some (s := some bs) a2
  injection a1 with a1
  have hp : (hd2 L bs).1.length = leV (hd1 bs).1 := b2
  have hlt := leV_lt (hd1 bs).1
  have b1' : (hd1 bs).1.length = 2 := b1
  have l3 := leV_lt (hd3 L bs).1
  have l4 := leV_lt (hd4 L bs).1
  have l5 := leV_lt (hd5 L bs).1
  have b3' : (hd3 L bs).1.length = 8 := b3
  have b4' : (hd4 L bs).1.length = 4 := b4
  have b5' : (hd5 L bs).1.length = 2 := b5
  have b6' : (hd6 L bs).1.length = 32 := b6
  rw [b1'] at hlt
  rw [b3'] at l3
  rw [b4'] at l4
  rw [b5'] at l5
  refine ⟨by show (hd2 L bs).1.length ≤ L; omega, by show (hd2 L bs).1.length < 65536; omega, l3, l4, l5, pad32_len (by rw [b6']; omega), ?_⟩
  show bs = leB (hd2 L bs).1.length 2 ++ ((hd2 L bs).1 ++ (leB (leV (hd3 L bs).1) 8 ++ (leB (leV (hd4 L bs).1) 4 ++ (leB (leV (hd5 L bs).1) 2 ++ (pad32 (hd6 L bs).1 ++ r)))))
  rw [hp, pad32_id b6']
  have e1 := leB_leV (hd1 bs).1
  have e3 := leB_leV (hd3 L bs).1
  have e4 := leB_leV (hd4 L bs).1
  have e5 := leB_leV (hd5 L bs).1
  rw [b1'] at e1
  rw [b3'] at e3
  rw [b4'] at e4
  rw [b5'] at e5
  rw [e1, e3, e4, e5]
  rw [e2] at a1
  exact a1
theorem hd_app {L : Nat} {p : List UInt8} {v s c : Nat} {d r : List UInt8} (hp : p.length ≤ L) (hp2 : p.length < 65536) (hv : v < 256 ^ 8) (hs : s < 256 ^ 4) (hc : c < 256 ^ 2) (hd' : d.length = 32) :
    hd L (leB p.length 2 ++ (p ++ (leB v 8 ++ (leB s 4 ++ (leB c 2 ++ (d ++ r)))))) = ⟨p, v, s, c, d, some r⟩ := by
  have e1 : hd1 (leB p.length 2 ++ (p ++ (leB v 8 ++ (leB s 4 ++ (leB c 2 ++ (d ++ r)))))) = (leB p.length 2, some (p ++ (leB v 8 ++ (leB s 4 ++ (leB c 2 ++ (d ++ r)))))) := tk_app (leB_len _ _)
  have e2 : hd2 L (leB p.length 2 ++ (p ++ (leB v 8 ++ (leB s 4 ++ (leB c 2 ++ (d ++ r)))))) = (p, some (leB v 8 ++ (leB s 4 ++ (leB c 2 ++ (d ++ r))))) := by
    unfold hd2 limR
    rw [e1, leV_leB _ _ (by omega), if_pos hp]
    exact tk_app rfl
  have e3 : hd3 L (leB p.length 2 ++ (p ++ (leB v 8 ++ (leB s 4 ++ (leB c 2 ++ (d ++ r)))))) = (leB v 8, some (leB s 4 ++ (leB c 2 ++ (d ++ r)))) := by
    unfold hd3; rw [e2]; exact tk_app (leB_len _ _)
  have e4 : hd4 L (leB p.length 2 ++ (p ++ (leB v 8 ++ (leB s 4 ++ (leB c 2 ++ (d ++ r)))))) = (leB s 4, some (leB c 2 ++ (d ++ r))) := by
    unfold hd4; rw [e3]; exact tk_app (leB_len _ _)
  have e5 : hd5 L (leB p.length 2 ++ (p ++ (leB v 8 ++ (leB s 4 ++ (leB c 2 ++ (d ++ r)))))) = (leB c 2, some (d ++ r)) := by
    unfold hd5; rw [e4]; exact tk_app (leB_len _ _)
  have e6 : hd6 L (leB p.length 2 ++ (p ++ (leB v 8 ++ (leB s 4 ++ (leB c 2 ++ (d ++ r)))))) = (d, some r) := by
    unfold hd6; rw [e5]; exact tk_app hd'
  unfold hd
  rw [e2, e3, e4, e5, e6]
  simp only
  rw [leV_leB _ _ hv, leV_leB _ _ hs, leV_leB _ _ hc, pad32_id hd']

/-- A name is not long. -/
theorem width_four (s : ByteArray) (pos : Nat) : (Utf8.decode s pos).2 ≤ 4 := by
  rw [decode_at]
  unfold Lib.decodeN
  repeat' split
  all_goals simp only []
  all_goals omega
theorem runesFrom_cover (s : ByteArray) : ∀ (f pos : Nat), s.size - pos ≤ f → s.size - pos ≤ 4 * (runesFrom s f pos).length
  | 0, pos, h => by omega
  | f + 1, pos, h => by
    by_cases hp : pos < s.size
    · rw [runesFrom_step s f pos hp]
      have h1 := width_pos s pos
      have h2 := width_four s pos
      have h3 := runesFrom_cover s f (pos + (Utf8.decode s pos).2) (by omega)
      simp only [List.length_cons]
      omega
    · omega
theorem name_short {s : ByteArray} (h : nameOk s = true) : s.size ≤ 96 := by
  unfold nameOk at h
  simp only [Bool.and_eq_true, decide_eq_true_eq] at h
  have h1 := runesFrom_cover s s.size 0 (by omega)
  have h2 : (runesFrom s s.size 0).length ≤ 24 := h.1.2
  omega
/-- Bytes as a string. -/
def pA (l : List UInt8) : ByteArray := ⟨l.toArray⟩
theorem sB_pA (l : List UInt8) : sB (pA l) = l := rfl
theorem pA_size (l : List UInt8) : (pA l).size = l.length := by
  have := sB_len (pA l)
  rw [sB_pA] at this
  exact this.symm
/-- How many chunks are read; whether it is a manifest. -/
def pcnt (h : Hd) : Nat := (min (cntM h.size h.chunk) 65).toNat
def ownGood (bs : List UInt8) : Bool := decide (stN (hd 96 bs).rest (pcnt (hd 96 bs)) = some []) && rightB (pA (hd 96 bs).prod) (hd 96 bs).ver (hd 96 bs).size (hd 96 bs).chunk (pcnt (hd 96 bs))
def rsLen : Rs → Nat
  | none => 0
  | some r => r.length
theorem rightB_iff (p : ByteArray) (v s c : Int) (n : Nat) : rightB p v s c n = true ↔ nameOk p = true ∧ 1 ≤ v ∧ v ≤ 281474976710656 ∧ 1 ≤ s ∧ s ≤ 65536 ∧ 64 ≤ c ∧ c ≤ 1024 ∧ c % 64 = 0 ∧ (n : Int) = cntM s c ∧ n ≤ 64 := rightM_iff ⟨p, v, s, c, [], none, n, 0⟩
theorem pcnt_le (h : Hd) : pcnt h ≤ 65 := by unfold pcnt; omega
theorem flat32 : ∀ l : List (List UInt8), (∀ h ∈ l, h.length = 32) → l.flatten.length = 32 * l.length
  | [], _ => rfl
  | x :: l, h => by
    rw [List.flatten_cons, List.length_append, h x (List.mem_cons_self ..), flat32 l (fun y hy => h y (List.mem_cons_of_mem _ hy)), List.length_cons]
    omega
theorem hd_mb {L : Nat} {bs r : List UInt8} (h : (hd L bs).rest = some r) (L2 : Nat) (h2 : (hd L bs).prod.length ≤ L2) : hd L2 bs = hd L bs := by
  obtain ⟨a1, a2, a3, a4, a5, a6, a7⟩ := hd_some h
  have h9 := hd_app (L := L2) (r := r) h2 a2 a3 a4 a5 a6
  rw [← a7] at h9
  rw [h9, ← h]
/-- The document's answer and the program's. -/
theorem parse_eq {bs : List UInt8} {k : Nat} (h65 : k ≤ 65) (hpos : ∀ j, j < k → 0 < rsLen (stN (hd 65535 bs).rest j)) (hend : k = 65 ∨ rsLen (stN (hd 65535 bs).rest k) = 0) :
    (ownGood bs = true ↔ (stN (hd 65535 bs).rest k ≠ none ∧ rightB (pA (hd 65535 bs).prod) (hd 65535 bs).ver (hd 65535 bs).size (hd 65535 bs).chunk k = true ∧ mbytes (pA (hd 65535 bs).prod) (hd 65535 bs).ver (hd 65535 bs).size (hd 65535 bs).chunk (hd 65535 bs).dig (hsOf (hd 65535 bs).rest k) = bs)) ∧
    (ownGood bs = true → hd 65535 bs = hd 96 bs ∧ k = pcnt (hd 96 bs)) := by
  have back : ownGood bs = true → hd 65535 bs = hd 96 bs ∧ k = pcnt (hd 96 bs) ∧ stN (hd 96 bs).rest (pcnt (hd 96 bs)) = some [] ∧ rightB (pA (hd 96 bs).prod) (hd 96 bs).ver (hd 96 bs).size (hd 96 bs).chunk (pcnt (hd 96 bs)) = true := fun h => by
    unfold ownGood at h
    rw [Bool.and_eq_true, decide_eq_true_eq] at h
    obtain ⟨h1, h2⟩ := h
    have h3 := stN_some _ _ _ h1
    rw [List.append_nil] at h3
    obtain ⟨a1, _⟩ := hd_some h3
    have he := hd_mb h3 65535 (by omega)
    refine ⟨he, ?_, h1, h2⟩
    rw [he] at hpos hend
    have hc := pcnt_le (hd 96 bs)
    have hst : ∀ j, j ≤ pcnt (hd 96 bs) → rsLen (stN (hd 96 bs).rest j) = 32 * (pcnt (hd 96 bs) - j) := fun j hj => by
      have h9 := (stN_app (hsOf (hd 96 bs).rest (pcnt (hd 96 bs))) [] (hsOf_32 _ _) j (by rw [hsOf_len]; exact hj)).1
      rw [List.append_nil, ← h3] at h9
      rw [h9]
      show List.length _ = _
      rw [List.append_nil, flat32 _ (fun y hy => hsOf_32 _ _ y (List.mem_of_mem_drop hy)), List.length_drop, hsOf_len]
    rcases Nat.lt_trichotomy k (pcnt (hd 96 bs)) with hlt | hlt | hlt
    · rcases hend with h9 | h9
      · omega
      · have := hst k (by omega); omega
    · exact hlt
    · have h8 := hpos _ hlt
      have := hst _ (Nat.le_refl _)
      omega
  refine ⟨⟨fun h => ?_, fun ⟨h1, h2, h3⟩ => ?_⟩, fun h => ⟨(back h).1, (back h).2.1⟩⟩
  · obtain ⟨he, hk, h1, h2⟩ := back h
    rw [he, hk]
    refine ⟨by rw [h1]; simp, h2, ?_⟩
    have h3 := stN_some _ _ _ h1
    obtain ⟨_, _, _, _, _, _, a7⟩ := hd_some h3
    unfold mbytes
    rw [pA_size, sB_pA]
    rw [List.append_nil] at a7
    exact a7.symm
  · obtain ⟨r1, r2, r3, r4, r5, r6, r7, r8, r9, r10⟩ := (rightB_iff _ _ _ _ _).1 h2
    have hne : k ≠ 65 := by omega
    have h4 : stN (hd 65535 bs).rest k = some [] := by
      rcases hend with h9 | h9
      · exact absurd h9 hne
      · generalize stN (hd 65535 bs).rest k = S at *
        cases S with
        | none => exact absurd rfl h1
        | some r => rw [List.eq_nil_of_length_eq_zero (l := r) h9]
    have h5 := stN_some _ _ _ h4
    have h6 := name_short r1
    rw [pA_size] at h6
    have he := hd_mb h5 96 h6
    unfold ownGood
    rw [he]
    have hk : pcnt (hd 65535 bs) = k := by unfold pcnt; omega
    rw [hk, h4, h2]
    simp
theorem ownGood_bytes {bs : List UInt8} (h : ownGood bs = true) : mbytes (pA (hd 96 bs).prod) (hd 96 bs).ver (hd 96 bs).size (hd 96 bs).chunk (hd 96 bs).dig (hsOf (hd 96 bs).rest (pcnt (hd 96 bs))) = bs ∧ rightB (pA (hd 96 bs).prod) (hd 96 bs).ver (hd 96 bs).size (hd 96 bs).chunk (pcnt (hd 96 bs)) = true := by
  unfold ownGood at h
  rw [Bool.and_eq_true, decide_eq_true_eq] at h
  obtain ⟨h1, h2⟩ := h
  have h3 := stN_some _ _ _ h1
  obtain ⟨_, _, _, _, _, _, a7⟩ := hd_some h3
  unfold mbytes
  rw [pA_size, sB_pA]
  rw [List.append_nil] at a7
  exact ⟨a7.symm, h2⟩
/-- A manifest's bytes are it. -/
theorem own_mbytes {p : ByteArray} {v s c : Nat} {d : List UInt8} {hs : List (List UInt8)} (hd' : d.length = 32) (h32 : ∀ h ∈ hs, h.length = 32) (hr : rightB p v s c hs.length = true) : ownGood (mbytes p v s c d hs) = true ∧ hd 96 (mbytes p v s c d hs) = ⟨sB p, v, s, c, d, some hs.flatten⟩ ∧ pcnt (hd 96 (mbytes p v s c d hs)) = hs.length ∧ hsOf (some hs.flatten) hs.length = hs := by
  obtain ⟨r1, r2, r3, r4, r5, r6, r7, r8, r9, r10⟩ := (rightB_iff _ _ _ _ _).1 hr
  have h6 := name_short r1
  have e : hd 96 (mbytes p v s c d hs) = ⟨sB p, v, s, c, d, some hs.flatten⟩ := by
    unfold mbytes
    rw [← sB_len]
    exact hd_app (by rw [sB_len]; exact h6) (by rw [sB_len]; omega) (by omega) (by omega) (by omega) hd'
  have hk : pcnt (hd 96 (mbytes p v s c d hs)) = hs.length := by rw [e]; unfold pcnt; simp only; omega
  have hp : pA (sB p) = p := by unfold pA sB; simp
  obtain ⟨s1, s2⟩ := stN_app hs [] h32 hs.length (Nat.le_refl _)
  rw [List.append_nil] at s1 s2
  refine ⟨?_, e, hk, by rw [s2, List.take_length]⟩
  unfold ownGood
  rw [hk, e]
  simp only
  rw [s1, hp, hr, List.drop_length]
  simp
/-- Nothing less, nothing more. -/
theorem good_app {p x : List UInt8} (h : ownGood p = true) (h2 : ownGood (p ++ x) = true) : x = [] := by
  unfold ownGood at h
  rw [Bool.and_eq_true, decide_eq_true_eq] at h
  obtain ⟨h1, hr⟩ := h
  have h3 := stN_some _ _ _ h1
  rw [List.append_nil] at h3
  obtain ⟨a1, a2, a3, a4, a5, a6, a7⟩ := hd_some h3
  have e := hd_app (r := (hsOf (hd 96 p).rest (pcnt (hd 96 p))).flatten ++ x) a1 a2 a3 a4 a5 a6
  have e2 : p ++ x = leB (hd 96 p).prod.length 2 ++ ((hd 96 p).prod ++ (leB (hd 96 p).ver 8 ++ (leB (hd 96 p).size 4 ++ (leB (hd 96 p).chunk 2 ++ ((hd 96 p).dig ++ ((hsOf (hd 96 p).rest (pcnt (hd 96 p))).flatten ++ x)))))) := by
    conv => lhs; rw [a7]
    simp [List.append_assoc]
  rw [← e2] at e
  have hk : pcnt (hd 96 (p ++ x)) = pcnt (hd 96 p) := by rw [e]; rfl
  have h4 := (stN_app (hsOf (hd 96 p).rest (pcnt (hd 96 p))) x (hsOf_32 _ _) (pcnt (hd 96 p)) (by rw [hsOf_len]; exact Nat.le_refl _)).1
  unfold ownGood at h2
  rw [Bool.and_eq_true, decide_eq_true_eq] at h2
  have h5 := h2.1
  rw [hk, e] at h5
  simp only at h5
  rw [h4, List.drop_of_length_le (by rw [hsOf_len]; exact Nat.le_refl _)] at h5
  simpa using h5
/-- The same bytes: the same manifest. -/
theorem mbytes_inj {p p' : ByteArray} {v v' s s' c c' : Nat} {d d' : List UInt8} {hs hs' : List (List UInt8)} (h1 : d.length = 32) (h1' : d'.length = 32) (h2 : ∀ h ∈ hs, h.length = 32) (h2' : ∀ h ∈ hs', h.length = 32)
    (hr : rightB p v s c hs.length = true) (hr' : rightB p' v' s' c' hs'.length = true) (he : mbytes p v s c d hs = mbytes p' v' s' c' d' hs') : p = p' ∧ v = v' ∧ s = s' ∧ c = c' ∧ d = d' ∧ hs = hs' := by
  obtain ⟨_, a2, a3, a4⟩ := own_mbytes h1 h2 hr
  obtain ⟨_, b2, b3, b4⟩ := own_mbytes h1' h2' hr'
  rw [he, b2] at a2
  rw [he, b3] at a3
  injection a2 with e1 e2 e3 e4 e5 e6
  injection e6 with e6
  have hp : ∀ q : ByteArray, pA (sB q) = q := fun q => by unfold pA sB; simp
  refine ⟨by rw [← hp p, ← hp p', e1], e2.symm, e3.symm, e4.symm, e5.symm, ?_⟩
  rw [← a4, ← b4, e6, a3]
end Go.Proofs.YtfbffmckmchbbaaDoor
