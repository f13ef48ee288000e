/- strconv.ParseUint: walks. A text that is shown, read again: in plain Lean. -/
import Derived.Test.YtjcekmmieihllaaDoorPnumd62
import Derived.Test.YtjcekmmieihllaaDoorPnumx8
import Derived.Test.YtjcekmmieihllaaDoorPnumx32
import Derived.Lib.IfaceEq
import Derived.Lib.ConvBytes
import Derived.Laws.Strings3
import Derived.Laws.Closers25
import Derived.Laws.Closers25b
import Derived.BigGuard
import Derived.Test.YtjcekmmieihllaaDoorTxB
import Derived.Test.YtjcekmmieihllaaDoorNumA
import Derived.Lib.MapLaws
import Derived.Lib.Bytealg
namespace Go.Proofs.YtjcekmmieihllaaDoor
section
set_option linter.unusedVariables false
set_option linter.unusedSimpArgs false
open Go.RowKit Go.Lib Go.Shelf

section
variable {W w : World} {I : Nat → Option Obj} {F : List (Nat × Obj)}

/-- The error of the outer package. -/
structure ErrV (W : World) (I : Nat → Option Obj) : Prop where
  syn : ∃ t p, roCell I ⟨10, 0, none⟩ = some (.iface t p)
  ran : ∃ t p, roCell I ⟨11, 0, none⟩ = some (.iface t p)
theorem ErrV.more {J : Nat → Option Obj} (h : ErrV W I) (k : Le I J) : ErrV W J :=
  ⟨let ⟨t, p, e⟩ := h.syn; ⟨t, p, roCell_mono k e⟩, let ⟨t, p, e⟩ := h.ran; ⟨t, p, roCell_mono k e⟩⟩
set_option maxRecDepth 100000 in
theorem to_error (ev : ErrV W I) (fn s : ByteArray) (hs : s.size ≤ 1000000000) (base bits k : Int) (hk : k = 2 ∨ k = 1) (h : St W w I F) :
    Calls Tryd.prog 77 #[.string fn, .string s, .int .i64 base, .int .i64 bits, .iface 158 (.int .i64 k)] w fun e w' => (∃ t p, e = .returned (.iface t p)) ∧ St W w' I F := by
  obtain ⟨t1, p1, e1⟩ := ev.syn
  obtain ⟨t2, p2, e2⟩ := ev.ran
  rcases hk with rfl | rfl
  · exact (Tryd.strconv_toError_syntax fn s base bits _ w (by omega) (h.ro e1) (.inr ⟨_, _, rfl⟩)).mono fun e w' ⟨N, he, _, _, hb⟩ => ⟨⟨_, _, he⟩, h.belowTo hb⟩
  · exact (Tryd.strconv_toError_range fn s base bits _ w (by omega) (h.ro e2) (.inr ⟨_, _, rfl⟩)).mono fun e w' ⟨N, he, _, _, hb⟩ => ⟨⟨_, _, he⟩, h.belowTo hb⟩

set_option maxRecDepth 100000 in
theorem pu_d62 (ev : ErrV W I) (s : ByteArray) (hmax : s.size ≤ 1000000000) (h : St W w I F) :
    Calls Tryd.prog 62 #[.string s, .int .i64 10, .int .i64 62] w (PuPost W I F (pN 10 4611686018427387903 s.data.toList)) := by
  have kP := pin_d62 s hmax h
  obtain ⟨R, hR⟩ : ∃ R, pN 10 4611686018427387903 s.data.toList = R := ⟨_, rfl⟩
  rw [hR] at kP ⊢
  have KP := Lib.hid kP; have EV := Lib.hid ev
  clear kP h ev hR
  go_enter Tryd.func62, Tryd.ntmps62
  go_wp2_with fail
  refine KP.out.mono ?_
  rintro e w1 ⟨h1, he⟩
  have H1 := Lib.hid h1
  clear h1 KP
  cases R with
  | some u =>
    obtain rfl := he
    go_wp2_with fail
    go_ret2
    exact ⟨H1.out, rfl⟩
  | none =>
    obtain ⟨x, k, rfl, hk⟩ := he
    have kE := to_error EV.out ⟨#[80, 97, 114, 115, 101, 85, 105, 110, 116]⟩ s hmax 10 62 k hk H1.out
    have KE := Lib.hid kE
    clear kE hk H1
    go_wp2_with fail
    refine KE.out.mono ?_
    rintro e w2 ⟨⟨t, p, rfl⟩, h2⟩
    have H2 := Lib.hid h2
    clear h2 KE
    go_wp2_with fail
    go_ret2
    exact ⟨H2.out, _, _, _, rfl⟩

set_option maxRecDepth 100000 in
theorem pu_x8 (ev : ErrV W I) (s : ByteArray) (hmax : s.size ≤ 1000000000) (h : St W w I F) :
    Calls Tryd.prog 62 #[.string s, .int .i64 16, .int .i64 8] w (PuPost W I F (pN 16 255 s.data.toList)) := by
  have kP := pin_x8 s hmax h
  obtain ⟨R, hR⟩ : ∃ R, pN 16 255 s.data.toList = R := ⟨_, rfl⟩
  rw [hR] at kP ⊢
  have KP := Lib.hid kP; have EV := Lib.hid ev
  clear kP h ev hR
  go_enter Tryd.func62, Tryd.ntmps62
  go_wp2_with fail
  refine KP.out.mono ?_
  rintro e w1 ⟨h1, he⟩
  have H1 := Lib.hid h1
  clear h1 KP
  cases R with
  | some u =>
    obtain rfl := he
    go_wp2_with fail
    go_ret2
    exact ⟨H1.out, rfl⟩
  | none =>
    obtain ⟨x, k, rfl, hk⟩ := he
    have kE := to_error EV.out ⟨#[80, 97, 114, 115, 101, 85, 105, 110, 116]⟩ s hmax 16 8 k hk H1.out
    have KE := Lib.hid kE
    clear kE hk H1
    go_wp2_with fail
    refine KE.out.mono ?_
    rintro e w2 ⟨⟨t, p, rfl⟩, h2⟩
    have H2 := Lib.hid h2
    clear h2 KE
    go_wp2_with fail
    go_ret2
    exact ⟨H2.out, _, _, _, rfl⟩

set_option maxRecDepth 100000 in
theorem pu_x32 (ev : ErrV W I) (s : ByteArray) (hmax : s.size ≤ 1000000000) (h : St W w I F) :
    Calls Tryd.prog 62 #[.string s, .int .i64 16, .int .i64 32] w (PuPost W I F (pN 16 4294967295 s.data.toList)) := by
  have kP := pin_x32 s hmax h
  obtain ⟨R, hR⟩ : ∃ R, pN 16 4294967295 s.data.toList = R := ⟨_, rfl⟩
  rw [hR] at kP ⊢
  have KP := Lib.hid kP; have EV := Lib.hid ev
  clear kP h ev hR
  go_enter Tryd.func62, Tryd.ntmps62
  go_wp2_with fail
  refine KP.out.mono ?_
  rintro e w1 ⟨h1, he⟩
  have H1 := Lib.hid h1
  clear h1 KP
  cases R with
  | some u =>
    obtain rfl := he
    go_wp2_with fail
    go_ret2
    exact ⟨H1.out, rfl⟩
  | none =>
    obtain ⟨x, k, rfl, hk⟩ := he
    have kE := to_error EV.out ⟨#[80, 97, 114, 115, 101, 85, 105, 110, 116]⟩ s hmax 16 32 k hk H1.out
    have KE := Lib.hid kE
    clear kE hk H1
    go_wp2_with fail
    refine KE.out.mono ?_
    rintro e w2 ⟨⟨t, p, rfl⟩, h2⟩
    have H2 := Lib.hid h2
    clear h2 KE
    go_wp2_with fail
    go_ret2
    exact ⟨H2.out, _, _, _, rfl⟩
end
end

section
set_option linter.unusedVariables false
set_option linter.unusedSimpArgs false
open Go.RowKit Go.Lib

/-- What stands behind a backslash: the bytes that it means, and how much of it. -/
def escO (l : List UInt8) : Option (List UInt8 × Nat) :=
  if 3 ≤ l.length ∧ l.getD 0 0 = 120 then (pN 16 255 ((l.drop 1).take 2)).map fun n => ([UInt8.ofNat n], 3)
  else if Lib.hasPrefix l [117, 123] = true ∧ 0 ≤ Lib.indexByte l 125 then
    (pN 16 4294967295 ((l.take (Lib.indexByte l 125).toNat).drop 2)).bind fun n => if 1114111 < n then none else some (Lib.encodeRune (n : Int), (Lib.indexByte l 125).toNat + 1)
  else none
/-- All of it. -/
def rdO : Nat → List UInt8 → List UInt8 → Option (List UInt8)
  | 0, acc, l => none
  | f + 1, acc, [] => some acc
  | f + 1, acc, c :: r => if c = 92 then (match escO r with | none => none | some (t, u) => rdO f (acc ++ t) (r.drop u)) else rdO f (acc ++ [c]) r
def readO (l : List UInt8) : Option (List UInt8) := rdO (l.length + 1) [] l

/-- A rune's bytes. -/
def rbytes1 (s : ByteArray) (pos : Nat) : List UInt8 := (s.data.toList.drop pos).take (Utf8.decode s pos).2

theorem dgv_hexd (n : Nat) (h : n < 16) : dgv (hexd n) = n := by
  unfold hexd dgv
  have e : (UInt8.ofNat (if n < 10 then 48 + n else 87 + n)).toNat = if n < 10 then 48 + n else 87 + n := by
    rw [UInt8.toNat_ofNat']
    split <;> omega
  rw [e]
  by_cases h1 : n < 10
  · rw [if_pos h1, if_pos (by omega)]; omega
  · rw [if_neg h1, if_neg (by omega), if_neg (by omega), if_pos (by omega)]; omega
theorem hexd_ne (n : Nat) (h : n < 16) : hexd n ≠ 125 ∧ 48 ≤ (hexd n).toNat ∧ (hexd n).toNat ≤ 102 := by
  have e : (hexd n).toNat = if n < 10 then 48 + n else 87 + n := by
    unfold hexd
    rw [UInt8.toNat_ofNat']
    split <;> omega
  refine ⟨fun h2 => ?_, ?_, ?_⟩
  · rw [h2] at e
    revert e
    split
    · intro e; simp at e; omega
    · intro e; simp at e; omega
  · rw [e]; split <;> omega
  · rw [e]; split <;> omega
theorem pU_hex (M : Nat) : ∀ (k n : Nat), n < 16 ^ k → n ≤ M → pU 16 M 0 (hexD n) = some n
  | 0, n, h, hm => by
    have h16 : n < 16 := by simp at h; omega
    rw [hexD_lt h16]
    simp only [pU]
    rw [dgv_hexd n h16, if_neg (by omega), if_neg (by omega)]
    simp
  | k + 1, n, h, hm => by
    by_cases h16 : n < 16
    · rw [hexD_lt h16]
      simp only [pU]
      rw [dgv_hexd n h16, if_neg (by omega), if_neg (by omega)]
      simp
    · rw [hexD_ge h16, pU_append, pU_hex M k (n / 16) (by rw [Nat.pow_succ] at h; omega) (by omega)]
      simp only [Option.bind_some, pU]
      rw [dgv_hexd _ (by omega), if_neg (by omega), if_neg (by omega)]
      congr 1
      omega
theorem hexD_all : ∀ (k n : Nat), n < 16 ^ k → ∀ c ∈ hexD n, c ≠ 125 ∧ 48 ≤ c.toNat ∧ c.toNat ≤ 102
  | 0, n, h, c, hc => by
    have h16 : n < 16 := by simp at h; omega
    rw [hexD_lt h16, List.mem_singleton] at hc
    subst hc
    exact hexd_ne n h16
  | k + 1, n, h, c, hc => by
    by_cases h16 : n < 16
    · rw [hexD_lt h16, List.mem_singleton] at hc
      subst hc
      exact hexd_ne n h16
    · rw [hexD_ge h16] at hc
      rcases List.mem_append.1 hc with hc | hc
      · exact hexD_all k (n / 16) (by rw [Nat.pow_succ] at h; omega) c hc
      · rw [List.mem_singleton] at hc
        subst hc
        exact hexd_ne _ (by omega)
theorem hexD_ne (n : Nat) : hexD n ≠ [] := by
  have := hexD_pos n
  intro h
  rw [h] at this
  simp at this
theorem indexByte_at : ∀ (l r : List UInt8) (c : UInt8), (∀ x ∈ l, x ≠ c) → Lib.indexByte (l ++ c :: r) c = l.length
  | [], r, c, _ => by simp [Lib.indexByte]
  | x :: l, r, c, h => by
    have h1 := indexByte_at l r c (fun y hy => h y (List.mem_cons_of_mem _ hy))
    have h2 : (x == c) = false := beq_eq_false_iff_ne.2 (h x (List.mem_cons_self ..))
    simp only [List.cons_append, Lib.indexByte, h1, h2]
    have h3 : (((l.length : Nat) : Int) == -1) = false := beq_eq_false_iff_ne.2 (by omega)
    simp [h3]

/-- A byte that is none, read. -/
theorem esc_x (b : UInt8) (r : List UInt8) : escO (120 :: hexd (b.toNat / 16) :: hexd (b.toNat % 16) :: r) = some ([b], 3) := by
  have hb := b.toNat_lt
  unfold escO
  rw [if_pos (by simp)]
  have e : pN 16 255 (List.take 2 (List.drop 1 (120 :: hexd (b.toNat / 16) :: hexd (b.toNat % 16) :: r))) = some b.toNat := by
    simp only [List.drop_succ_cons, List.drop_zero, List.take_succ_cons, List.take_zero]
    rw [pN, if_neg (by simp)]
    simp only [pU]
    rw [dgv_hexd _ (by omega), dgv_hexd _ (by omega), if_neg (by omega), if_neg (by omega), if_neg (by omega), if_neg (by omega)]
    congr 1
    omega
  rw [e]
  simp
/-- A rune by its number, read. -/
theorem esc_u (n : Nat) (hn : n ≤ 1114111) (r : List UInt8) : escO ([117, 123] ++ hexD n ++ [125] ++ r) = some (Lib.encodeRune (n : Int), 3 + (hexD n).length) := by
  have hall := hexD_all 6 n (by omega)
  unfold escO
  have e0 : [117, 123] ++ hexD n ++ [125] ++ r = ([117, 123] ++ hexD n) ++ 125 :: r := by simp
  have ei : Lib.indexByte ([117, 123] ++ hexD n ++ [125] ++ r) 125 = ((2 + (hexD n).length : Nat) : Int) := by
    rw [e0, indexByte_at]
    · simp; omega
    · intro x hx
      rcases List.mem_append.1 hx with hx | hx
      · simp at hx
        rcases hx with rfl | rfl <;> decide
      · exact (hall x hx).1
  rw [if_neg (by simp), ei]
  have hp : Lib.hasPrefix ([117, 123] ++ hexD n ++ [125] ++ r) [117, 123] = true := by simp [Lib.hasPrefix]
  rw [if_pos ⟨hp, by omega⟩, Int.toNat_natCast]
  have et : List.drop 2 (List.take (2 + (hexD n).length) ([117, 123] ++ hexD n ++ [125] ++ r)) = hexD n := by
    rw [List.append_assoc, List.append_assoc, ← List.append_assoc]
    rw [List.take_left' (by simp; omega)]
    simp
  rw [et, pN, if_neg (hexD_ne n), pU_hex _ 6 n (by omega) (by omega)]
  simp only [Option.bind_some]
  rw [if_neg (by omega)]
  congr 2
  omega
theorem decodeL_tail (s : ByteArray) (pos : Nat) (h : pos < s.size) : Lib.decodeL (s.data.toList.drop pos) = Utf8.decode s pos := by
  rw [← decode_tail s pos h]
  unfold Lib.decodeL tailOf
  congr 1
  apply ByteArray.ext
  simp [ByteArray.data_extract]
  apply Array.toList_inj.1
  simp
  exact (List.take_of_length_le (by rw [List.length_drop, Array.length_toList]; have : s.data.size = s.size := rfl; omega)).symm
theorem rune_bytes (s : ByteArray) (pos : Nat) (h : pos < s.size) (hb : brokenAt s pos = false) : Lib.encodeRune ((Utf8.decode s pos).1 : Int) = rbytes1 s pos := by
  have hne : s.data.toList.drop pos ≠ [] := by
    intro h2
    have : (s.data.toList.drop pos).length = 0 := by rw [h2]; rfl
    rw [List.length_drop, Array.length_toList] at this
    have : s.data.size = s.size := rfl
    omega
  have h1 := Lib.encode_decode (s.data.toList.drop pos) hne (by
    rw [decodeL_tail s pos h]
    intro h2
    simp only [brokenAt, Bool.and_eq_false_iff, beq_eq_false_iff_ne] at hb
    rcases hb with hb | hb
    · exact hb h2.1
    · exact hb h2.2)
  rw [decodeL_tail s pos h] at h1
  exact h1
theorem broken_bytes (s : ByteArray) (pos : Nat) (h : pos < s.size) (hb : brokenAt s pos = true) : [s.get! pos] = rbytes1 s pos := by
  simp only [brokenAt, Bool.and_eq_true, beq_iff_eq] at hb
  unfold rbytes1
  rw [hb.2]
  have hl : pos < s.data.toList.length := by rw [Array.length_toList]; exact h
  rw [List.drop_eq_getElem_cons hl, List.take_succ_cons, List.take_zero, get_lt s pos h]
  rfl
/-- One piece that is shown, read. -/
theorem rd_piece (s : ByteArray) (pos : Nat) (h : pos < s.size) (f : Nat) (acc rest : List UInt8) : rdO (f + 1) acc (showPiece s pos ++ rest) = rdO f (acc ++ rbytes1 s pos) rest := by
  unfold showPiece
  by_cases hb : brokenAt s pos = true
  · rw [if_pos hb]
    simp only [List.cons_append, List.nil_append, rdO, if_pos]
    rw [esc_x]
    simp only [List.drop_succ_cons, List.drop_zero]
    rw [broken_bytes s pos h hb]
  · rw [if_neg hb]
    have hb0 : brokenAt s pos = false := by simpa using hb
    have hrb := rune_bytes s pos h hb0
    have hok := rune_ok s pos
    by_cases hp : plainC (Utf8.decode s pos).1 = true
    · rw [if_pos hp]
      simp only [plainC, Bool.and_eq_true, decide_eq_true_eq, Bool.not_eq_true', beq_eq_false_iff_ne] at hp
      obtain ⟨⟨⟨h1, h2⟩, h3⟩, h4⟩ := hp
      have he : Lib.encodeRune ((Utf8.decode s pos).1 : Int) = [UInt8.ofNat (Utf8.decode s pos).1] := by
        unfold Lib.encodeRune
        rw [Lib.encodeRuneZ_one (by omega) (by omega)]
        simp
      rw [← hrb, he]
      simp only [List.cons_append, List.nil_append, rdO]
      rw [if_neg]
      intro h5
      have h6 : (UInt8.ofNat (Utf8.decode s pos).1).toNat = 92 := by rw [h5]; rfl
      rw [UInt8.toNat_ofNat'] at h6
      omega
    · rw [if_neg hp]
      have hn : (Utf8.decode s pos).1 ≤ 1114111 := by unfold ROk at hok; omega
      simp only [List.cons_append, List.nil_append, rdO, if_pos]
      have e := esc_u (Utf8.decode s pos).1 hn rest
      simp only [List.cons_append, List.nil_append] at e
      rw [e]
      dsimp only
      rw [hrb]
      congr 1
      rw [show 117 :: 123 :: (hexD (Utf8.decode s pos).1 ++ [125] ++ rest) = ([117, 123] ++ hexD (Utf8.decode s pos).1 ++ [125]) ++ rest by simp]
      rw [List.drop_left' (by simp; omega)]
theorem rd_pieces (s : ByteArray) : ∀ (l : List Nat) (f : Nat) (acc : List UInt8), (∀ p ∈ l, p < s.size) → l.length < f → rdO f acc (l.flatMap (showPiece s)) = some (acc ++ l.flatMap (rbytes1 s))
  | [], f, acc, _, hf => by
    obtain ⟨g, rfl⟩ : ∃ g, f = g + 1 := ⟨f - 1, by simp at hf; omega⟩
    simp [rdO]
  | p :: l, f, acc, h, hf => by
    simp only [List.length_cons] at hf
    obtain ⟨g, rfl⟩ : ∃ g, f = g + 1 := ⟨f - 1, by omega⟩
    rw [List.flatMap_cons, rd_piece s p (h p (List.mem_cons_self ..)), rd_pieces s l g _ (fun q hq => h q (List.mem_cons_of_mem _ hq)) (by omega)]
    simp
theorem pieces_ge (s : ByteArray) (l : List Nat) : l.length ≤ (l.flatMap (showPiece s)).length := by
  induction l with
  | nil => simp
  | cons p l ih =>
    have h1 := showPiece_ne s p
    have h2 : 1 ≤ (showPiece s p).length := by
      cases h3 : showPiece s p with
      | nil => exact absurd h3 h1
      | cons a b => simp
    simp only [List.flatMap_cons, List.length_append, List.length_cons]
    omega
theorem runes_all (s : ByteArray) : ∀ (f pos : Nat), s.size - pos ≤ f → (runesFrom s f pos).flatMap (rbytes1 s) = s.data.toList.drop pos
  | 0, pos, h => by
    rw [List.drop_eq_nil_of_le (by rw [Array.length_toList]; have : s.data.size = s.size := rfl; omega)]
    rfl
  | f + 1, pos, h => by
    by_cases hp : pos < s.size
    · have h1 := width_pos s pos
      rw [runesFrom_step s f pos hp, List.flatMap_cons, runes_all s f _ (by omega), rbytes1, ← List.drop_drop, List.take_append_drop]
    · rw [runesFrom_end s _ _ hp, List.drop_eq_nil_of_le (by rw [Array.length_toList]; have : s.data.size = s.size := rfl; omega)]
      rfl
/-- What is shown reads as it was. -/
theorem read_show (s : ByteArray) : readO (showOf s) = some s.data.toList := by
  unfold readO showOf
  rw [rd_pieces s (runesOf s) _ [] (runesOf_lt s) (by have := pieces_ge s (runesOf s); omega)]
  unfold runesOf
  rw [runes_all s s.size 0 (by omega)]
  simp
end
end Go.Proofs.YtjcekmmieihllaaDoor
