/- The document's decimal digits: walk. Go's tables that a manifest's text wants; an argument of two numbers. -/
import Derived.Test.YtfbffmckmchbbaaDoorTxA
import Derived.Test.YtfbffmckmchbbaaDoorTxC
import Derived.Test.YtfbffmckmchbbaaDoorMlX
import Derived.Lib.TrailingZeros
namespace Go.Proofs.YtfbffmckmchbbaaDoor
section
set_option linter.unusedVariables false
set_option linter.unusedSimpArgs false
open Go.RowKit Go.Lib

theorem sl_dec (n : Nat) (h : n < 10) (w : World) : (Instr.slice 9 (.string ⟨#[48, 49, 50, 51, 52, 53, 54, 55, 56, 57]⟩) (some (.int .u64 (n : Int))) (some (.int .u64 ((n : Int) + 1))) none).run Tryd.prog w = .ok (.string ⟨#[UInt8.ofNat (48 + n)]⟩) w := by
  rcases (show n = 0 ∨ n = 1 ∨ n = 2 ∨ n = 3 ∨ n = 4 ∨ n = 5 ∨ n = 6 ∨ n = 7 ∨ n = 8 ∨ n = 9 by omega) with rfl | rfl | rfl | rfl | rfl | rfl | rfl | rfl | rfl | rfl <;> kernel_rfl
theorem ex_dec (n : Nat) (h : n < 10) : (⟨#[48, 49, 50, 51, 52, 53, 54, 55, 56, 57]⟩ : ByteArray).extract n (n + 1) = ⟨#[UInt8.ofNat (48 + n)]⟩ := by
  rcases (show n = 0 ∨ n = 1 ∨ n = 2 ∨ n = 3 ∨ n = 4 ∨ n = 5 ∨ n = 6 ∨ n = 7 ∨ n = 8 ∨ n = 9 by omega) with rfl | rfl | rfl | rfl | rfl | rfl | rfl | rfl | rfl | rfl <;> kernel_rfl
theorem decD_len : ∀ (k n : Nat), 1 ≤ k → n < 10 ^ k → (Lib.decDigits n).length ≤ k
  | 0, n, h, _ => by omega
  | k + 1, n, _, hn => by
    rw [Lib.decDigits]
    split
    · simp
    · have hk : 1 ≤ k := by
        rcases Nat.eq_zero_or_pos k with rfl | h
        · simp at hn; omega
        · exact h
      have := decD_len k (n / 10) hk (by rw [Nat.pow_succ] at hn; omega)
      simp only [List.length_append, List.length_cons, List.length_nil]
      omega
/-- Nothing for 0. -/
def dz (n : Nat) : List UInt8 := if n = 0 then [] else Lib.decDigits n
theorem dz_step (n : Nat) (out D : List UInt8) (h : Lib.decDigits n ++ out = D) : dz (n / 10) ++ (UInt8.ofNat (48 + n % 10) :: out) = D := by
  by_cases h10 : n < 10
  · have e : Lib.decDigits n = [UInt8.ofNat (48 + n)] := by rw [Lib.decDigits, dif_pos h10]
    rw [← h, e, dz, if_pos (by omega), Nat.mod_eq_of_lt h10]
    rfl
  · have e : Lib.decDigits n = Lib.decDigits (n / 10) ++ [UInt8.ofNat (48 + n % 10)] := by rw [Lib.decDigits, dif_neg h10]
    rw [← h, e, dz, if_neg (by omega)]
    simp
def bN : Value → Nat
  | .bool true => 1
  | _ => 0

set_option maxRecDepth 100000 in
set_option maxHeartbeats 4000000 in
theorem rdec_any {W w : World} {I : Nat → Option Obj} {F : List (Nat × Obj)} (u : Nat) (hu : u < 18446744073709551616) (h : St W w I F) :
    Calls Tryd.prog 56 #[.int .u64 u] w fun e w' => e = .returned (.string ⟨(Lib.decDigits u).toArray⟩) ∧ St W w' I F := by
  have hDl := decD_len 20 u (by omega) (by omega)
  obtain ⟨D, hD⟩ : ∃ D, Lib.decDigits u = D := ⟨_, rfl⟩
  rw [hD] at hDl ⊢
  have HD := Lib.hid hD
  clear hD
  go_enter Tryd.func56, Tryd.ntmps56
  go_wp2_with fail
  go_loopw [0, 3, 4] (fun n o f wr => ∃ (k : Nat) (out : List UInt8) (b : Bool), k < 18446744073709551616 ∧ n = .int .u64 k ∧ o = .string ⟨out.toArray⟩ ∧ f = .bool b ∧ (b = true → k = u ∧ out = []) ∧ (b = false → dz k ++ out = D) ∧ St W wr I F) (fun n o f _ => 2 * (intOf n).toNat + bN f)
  case atStart => exact ⟨u, [], true, hu, rfl, rfl, rfl, fun _ => ⟨rfl, rfl⟩, (fun h => by cases h), h⟩
  case round =>
    obtain ⟨k, out, b, hk, rfl, rfl, rfl, hb1, hb2, hst⟩ := hrel
    clear h
    have hstep : (b = true ∨ k ≠ 0) → Lib.decDigits k ++ out = D := by
      intro h0
      cases b with
      | true =>
        obtain ⟨rfl, rfl⟩ := hb1 rfl
        rw [List.append_nil]; exact HD.out
      | false =>
        have h1 := hb2 rfl
        rw [dz, if_neg (by simpa using h0)] at h1
        exact h1
    by_cases hgo : b = true ∨ k ≠ 0
    · have h1 := hstep hgo
      have hn := dz_step k out D h1
      have hol : out.length ≤ 20 := by rw [← h1, List.length_append] at hDl; omega
      have ex := ex_dec (k % 10) (by omega)
      have hcons := fun d : UInt8 => str_app2 [d] out
      generalize UInt8.ofNat (48 + k % 10) = d at *
      have wt : (k : Int).tmod 10 = (k : Int) % 10 := by rw [Int.tmod_eq_emod_of_nonneg (by omega)]
      have wm : IntKind.u64.wrap ((k : Int) % 10) = (k : Int) % 10 := by rw [IntKind.wrap_u64]; omega
      have wm1 : IntKind.u64.wrap ((k : Int) % 10 + 1) = (k : Int) % 10 + 1 := by rw [IntKind.wrap_u64]; omega
      have hcat : [d].length + out.length ≤ 9223372036854775807 := by simp; omega
      have z1 : ¬ (9223372036854775807 < 1 + out.length) := by omega
      have HN := Lib.hid hn; have HST := Lib.hid hst; have EX := Lib.hid ex; have HC := Lib.hid (hcons d)
      clear hn hst hstep h1 hb2 ex hcons
      cases b with
      | true =>
        obtain ⟨rfl, rfl⟩ := hb1 rfl
        clear hb1 hgo
        go_wp2_with fail
        go_roundw
        case rel => exact ⟨_, [d], false, by omega, by go_num, congrArg Value.string ((congrArg (· ++ _) EX.out).trans HC.out), rfl, (fun h => by cases h), fun _ => HN.out, HST.out⟩
        case measure => simp [intOf, bN]; omega
      | false =>
        have hk0 : 0 < k := by
          rcases hgo with h | h
          · cases h
          · omega
        have hk0' : (0 : Int) < (k : Int) := by omega
        clear hb1 hgo
        go_wp2_with fail
        go_roundw
        case rel => exact ⟨k / 10, d :: out, false, by omega, by go_num, congrArg Value.string ((congrArg (· ++ _) EX.out).trans HC.out), rfl, (fun h => by cases h), fun _ => HN.out, HST.out⟩
        case measure => simp [intOf, bN]; omega
    · have hb : b = false := by
        cases b with
        | true => exact absurd (.inl rfl) hgo
        | false => rfl
      subst hb
      obtain rfl : k = 0 := by
        rcases Nat.eq_zero_or_pos k with h | h
        · exact h
        · exact absurd (.inr (by omega)) hgo
      have hout := hb2 rfl
      rw [show dz 0 = [] from rfl, List.nil_append] at hout
      subst hout
      have HST := Lib.hid hst
      clear hst hstep hb1 hb2 hgo
      go_wp2_with fail
      go_ret
      exact ⟨rfl, HST.out⟩
end

section
set_option linter.unusedVariables false
set_option linter.unusedSimpArgs false
open Go.RowKit Go.Lib Go.Shelf

/-- Go's tables, with those that a text of a manifest wants. -/
structure TabsT (W : World) : Prop where
  tabs : Tabs W
  t10 : Tab10 W
  b64 : W.cell? ⟨8, 15, none⟩ = some (.int .u8 4)
theorem two_ints {H : Type} {enc : TypeId × Value → H} {W : World} {v : Value} (a : Arg enc Tryd.prog W 50 v) : ∃ n0 n1 : Int, v = .agg #[.int .i64 n0, .int .i64 n1] ∧ -9223372036854775808 ≤ n0 ∧ n0 ≤ 9223372036854775807 ∧ -9223372036854775808 ≤ n1 ∧ n1 ≤ 9223372036854775807 := by
  obtain ⟨cs, rfl, hl, hf⟩ := a.array_ Tryd.underlying50
  have hl : cs.length = 2 := by rw [hl]; kernel_rfl
  have c8 : Tryd.prog.cellsOf 3 = 1 := by kernel_rfl
  rw [c8] at hf
  obtain ⟨x, y, rfl⟩ : ∃ x y, cs = [x, y] := by
    match cs, hl with
    | [x, y], _ => exact ⟨x, y, rfl⟩
  have h0 : Cel enc Tryd.prog W 3 [x] := by simpa using hf 0 (by omega)
  have h1 : Cel enc Tryd.prog W 3 [y] := by simpa using hf 1 (by omega)
  obtain ⟨n0, q0, w0⟩ := h0.int Tryd.underlying3
  obtain ⟨n1, q1, w1⟩ := h1.int Tryd.underlying3
  obtain ⟨a1, a2⟩ := wf_i64 w0
  obtain ⟨b1, b2⟩ := wf_i64 w1
  injection q0 with q0
  injection q1 with q1
  subst q0; subst q1
  exact ⟨n0, n1, rfl, a1, a2, b1, b2⟩
def b64Tab : List Int := Lib.deBruijn64tab.map fun n : Nat => (n : Int)
theorem pow_eq : (Rows.laid_internal_strconv_uint64pow10 : DataW Unit) = tabData .u64 Lib.pow10Tab := by kernel_rfl
theorem b64_eq : (Rows.laid_math_bits_deBruijn64tab : DataW Unit) = tabData .u8 b64Tab := by kernel_rfl
theorem tabsT_of_laid {l : List (String × DataW Unit)} {w : World} (h : laidMetH Tryd.prog l w) (hp : (l.all fun x => x.2.handleName?.isNone) = true)
    (h1 : ("unicode.properties", Rows.laid_unicode_properties) ∈ l) (h2 : ("unicode.Letter", Rows.laid_unicode_Letter) ∈ l) (h3 : ("unicode.Digit", Rows.laid_unicode_Digit) ∈ l)
    (h5 : ("unicode/utf8.first", Rows.laid_unicode_utf8_first) ∈ l) (h6 : ("unicode/utf8.acceptRanges", Rows.laid_unicode_utf8_acceptRanges) ∈ l)
    (h7 : ("internal/strconv.uint64pow10", Rows.laid_internal_strconv_uint64pow10) ∈ l) (h8 : ("math/bits.deBruijn64tab", Rows.laid_math_bits_deBruijn64tab) ∈ l) : TabsT w := by
  have T := tabs_of_laid h hp h1 h2 h3 h5 h6
  rw [MakeChecks.laidMetH_plain _ _ _ hp] at h
  have p10 : Lib.TabIs Tryd.prog w "internal/strconv.uint64pow10" .u64 Lib.pow10Tab := tabIs_of_reads (g := 3) (by kernel_rfl) (by kernel_rfl) Tryd.underlying163 Tryd.underlying24 (by kernel_rfl) (by kernel_rfl) (pow_eq ▸ Lib.laidMet.reads h h7)
  have p64 : Lib.TabIs Tryd.prog w "math/bits.deBruijn64tab" .u8 b64Tab := tabIs_of_reads (g := 8) (by kernel_rfl) (by kernel_rfl) Tryd.underlying175 Tryd.underlying5 (by kernel_rfl) (by kernel_rfl) (b64_eq ▸ Lib.laidMet.reads h h8)
  refine ⟨T, ⟨p10⟩, ?_⟩
  exact p64.cell (g := 8) (by kernel_rfl) 15 (by decide)
end
end Go.Proofs.YtfbffmckmchbbaaDoor
