/- digest: the reference's Text. The document's digits at sixteen: walk. The document's decimal digits: walk. -/
import Derived.Test.YtjcekmmieihllaaDoorTxA
import Derived.Deep.QuietTactic
import Derived.BigQuiet
import Derived.Test.YtjcekmmieihllaaDoorTxB
namespace Go.Proofs.YtjcekmmieihllaaDoor
section
set_option linter.unusedVariables false
set_option linter.unusedSimpArgs false
open Go.RowKit

theorem sl_low (n : Nat) (h : n < 16) (w : World) : (Instr.slice 9 (.string ⟨#[48, 49, 50, 51, 52, 53, 54, 55, 56, 57, 97, 98, 99, 100, 101, 102]⟩) (some (.int .u8 (n : Int))) (some (.int .u8 ((n : Int) + 1))) none).run Tryd.prog w = .ok (.string ⟨#[hexd n]⟩) w := by
  rcases (show n = 0 ∨ n = 1 ∨ n = 2 ∨ n = 3 ∨ n = 4 ∨ n = 5 ∨ n = 6 ∨ n = 7 ∨ n = 8 ∨ n = 9 ∨ n = 10 ∨ n = 11 ∨ n = 12 ∨ n = 13 ∨ n = 14 ∨ n = 15 by omega) with rfl | rfl | rfl | rfl | rfl | rfl | rfl | rfl | rfl | rfl | rfl | rfl | rfl | rfl | rfl | rfl <;> kernel_rfl

set_option maxRecDepth 10000 in
set_option maxHeartbeats 1000000 in
theorem rtext_any {W w : World} {I : Nat → Option Obj} {F : List (Nat × Obj)} (bs : List UInt8) (hl : bs.length = 32) (hst : St W w I F) :
    Calls Tryd.prog 69 #[.agg (bcells bs)] w fun e w' => e = .returned (.string ⟨(textOf bs).toArray⟩) ∧ St W w' I F := by
  have z := bcells_size bs
  rw [hl] at z
  have hg := fun i (h : i < bs.length) => bcells_get bs i h
  have i1 : (Tryd.prog.info? 37).map (·.size) = some (bcells bs).size := by rw [z]; kernel_rfl
  obtain ⟨CS, hCS⟩ : ∃ CS, CS = bcells bs := ⟨_, rfl⟩
  rw [← hCS] at hg z i1 ⊢
  have hix : ∀ i (h : i < bs.length) w, (Instr.index 37 (.agg CS) (.int .i64 (i : Int))).run Tryd.prog w = .ok (.int .u8 ((bs.getD i 0).toNat : Int)) w := fun i h w =>
    run_index_cells Tryd.underlying37 Tryd.isAgg5 Tryd.sizeOf5 CS i _ (by omega) (hg i h) w
  have Z := Lib.hid z; have HIX := Lib.hid hix; have HL := Lib.hid hl
  clear hCS hg z hix hl
  have h1 : St W (w.alloc (.cells CS 37)) I ((w.heap.size, .cells CS 37 (0, 0)) :: F) := hst.alloc _
  have hp : (w.heap.size, Obj.cells CS 37 (0, 0)) ∈ (w.heap.size, Obj.cells CS 37 (0, 0)) :: F := by simp
  have hy : ∀ j, j < CS.size → CS[0 + j]? = CS[j]? := fun j _ => by rw [Nat.zero_add]
  go_enter Tryd.func69, Tryd.ntmps69
  go_wp2_with (with_reducible refine wpList_load_st rfl 37 (.tmp 1) rfl (g := w.heap.size) (off := 0) rfl h1 hp CS hy _ Tryd.underlying37 rfl i1 ?_)
  have h2 := St.weaken (A := [_]) h1
  clear h1 hp hy i1 hst
  generalize hgw : w.alloc (.cells CS 37) = w1 at *
  clear hgw
  go_loopw [3, 7] (fun o i wr => ∃ k : Nat, k ≤ 32 ∧ i = .int .i64 k ∧ o = .string ⟨(textOf (bs.take k)).toArray⟩ ∧ St W wr I F) (fun _ i _ => 32 - (intOf i).toNat)
  case atStart => exact ⟨0, by omega, rfl, rfl, h2⟩
  case round =>
    obtain ⟨k, hk, rfl, rfl, hb⟩ := hrel
    clear h2
    by_cases hlt : k < 32
    · have hix := fun w => HIX.out k (by rw [HL.out]; exact hlt) w
      have hts : bs.take (k + 1) = bs.take k ++ [bs.getD k 0] := by
        rw [List.take_add_one, List.getElem?_eq_getElem (by rw [HL.out]; exact hlt), List.getD_eq_getElem?_getD, List.getElem?_eq_getElem (by rw [HL.out]; exact hlt)]
        rfl
      have hnext := textOf_snoc (bs.take k) (bs.getD k 0)
      rw [← hts] at hnext
      generalize bs.getD k 0 = b at *
      have b256 := b.toNat_lt
      have l1 : ∀ w, (Instr.slice 9 (.string ⟨#[48, 49, 50, 51, 52, 53, 54, 55, 56, 57, 97, 98, 99, 100, 101, 102]⟩) (some (.int .u8 ((b.toNat : Int) / 16))) (some (.int .u8 ((b.toNat : Int) / 16 + 1))) none).run Tryd.prog w = .ok (.string ⟨#[hexd (b.toNat / 16)]⟩) w := fun w => by
        rw [show (b.toNat : Int) / 16 = ((b.toNat / 16 : Nat) : Int) by omega]; exact sl_low _ (by omega) w
      have l2 : ∀ w, (Instr.slice 9 (.string ⟨#[48, 49, 50, 51, 52, 53, 54, 55, 56, 57, 97, 98, 99, 100, 101, 102]⟩) (some (.int .u8 ((b.toNat : Int) % 16))) (some (.int .u8 ((b.toNat : Int) % 16 + 1))) none).run Tryd.prog w = .ok (.string ⟨#[hexd (b.toNat % 16)]⟩) w := fun w => by
        rw [show (b.toNat : Int) % 16 = ((b.toNat % 16 : Nat) : Int) by omega]; exact sl_low _ (by omega) w
      have w1' : IntKind.u8.wrap ((b.toNat : Int) / 16 + 1) = (b.toNat : Int) / 16 + 1 := by rw [IntKind.wrap_u8]; omega
      have w2' : IntKind.u8.wrap ((b.toNat : Int) % 16 + 1) = (b.toNat : Int) % 16 + 1 := by rw [IntKind.wrap_u8]; omega
      have d1' : IntKind.u8.wrap ((b.toNat : Int).tdiv 16) = (b.toNat : Int) / 16 := by rw [IntKind.wrap_u8, Int.tdiv_eq_ediv_of_nonneg (by omega)]; omega
      have d2' : IntKind.u8.wrap ((b.toNat : Int).tmod 16) = (b.toNat : Int) % 16 := by rw [IntKind.wrap_u8, Int.tmod_eq_emod_of_nonneg (by omega)]; omega
      have m2' : ((b.toNat : Int).tmod 16) = (b.toNat : Int) % 16 := by rw [Int.tmod_eq_emod_of_nonneg (by omega)]
      have hcat : ∀ w, (Op.stringOp .add (⟨(textOf (bs.take k)).toArray⟩ : ByteArray) (⟨#[hexd (b.toNat / 16)]⟩ ++ ⟨#[hexd (b.toNat % 16)]⟩)).run Tryd.prog w = .ok (.string (⟨(textOf (bs.take k)).toArray⟩ ++ (⟨#[hexd (b.toNat / 16)]⟩ ++ ⟨#[hexd (b.toNat % 16)]⟩))) w := fun w => by
        refine run_string_add_sum w _ _ ?_
        have e1 := textOf_len (bs.take k)
        have e2 : (bs.take k).length ≤ k := List.length_take_le _ _
        rw [ByteArray.size_append]
        show (textOf (bs.take k)).toArray.size + (1 + 1) ≤ _
        rw [List.size_toArray]
        omega
      clear hts
      have HN := Lib.hid hnext
      clear hnext
      generalize hexd (b.toNat / 16) = d1 at *
      generalize hexd (b.toNat % 16) = d2 at *
      go_wp2_with fail
      go_quiet (fail)
      clear l1 l2 hcat w1' w2' d1' d2' m2' hix
      go_wp2_with fail
      go_roundw
      case rel =>
        refine ⟨k + 1, by omega, by go_num, ?_, hb.drew _⟩
        rw [HN.out]
        show Value.string ((⟨(textOf (List.take k bs)).toArray⟩ : ByteArray) ++ ((⟨[d1].toArray⟩ : ByteArray) ++ (⟨[d2].toArray⟩ : ByteArray))) = _
        rw [ByteArray.mk_append_mk, ByteArray.mk_append_mk]
        simp
      case measure => simp [intOf]; omega
    · obtain rfl : k = 32 := by omega
      rw [List.take_of_length_le (by rw [HL.out]; exact Nat.le_refl _)]
      go_wp2_with fail
      go_ret
      exact ⟨rfl, hb⟩
end

section
set_option linter.unusedVariables false
set_option linter.unusedSimpArgs false
open Go.RowKit

theorem sl_low64 (n : Nat) (h : n < 16) (w : World) : (Instr.slice 9 (.string ⟨#[48, 49, 50, 51, 52, 53, 54, 55, 56, 57, 97, 98, 99, 100, 101, 102]⟩) (some (.int .i64 (n : Int))) (some (.int .i64 ((n : Int) + 1))) none).run Tryd.prog w = .ok (.string ⟨#[hexd n]⟩) w := by
  rcases (show n = 0 ∨ n = 1 ∨ n = 2 ∨ n = 3 ∨ n = 4 ∨ n = 5 ∨ n = 6 ∨ n = 7 ∨ n = 8 ∨ n = 9 ∨ n = 10 ∨ n = 11 ∨ n = 12 ∨ n = 13 ∨ n = 14 ∨ n = 15 by omega) with rfl | rfl | rfl | rfl | rfl | rfl | rfl | rfl | rfl | rfl | rfl | rfl | rfl | rfl | rfl | rfl <;> kernel_rfl
theorem str_app2 (a b : List UInt8) : (⟨a.toArray⟩ : ByteArray) ++ ⟨b.toArray⟩ = ⟨(a ++ b).toArray⟩ := by
  apply ByteArray.ext
  rw [ByteArray.data_append]
  simp
theorem hexD_ten (n : Nat) (h : n < 4294967296) : (hexD n).length ≤ 8 := hexD_len 8 n (by omega) (by omega)

set_option maxRecDepth 10000 in
set_option maxHeartbeats 1000000 in
theorem digits_lt {W w : World} {I : Nat → Option Obj} {F : List (Nat × Obj)} (n : Nat) (hn : n < 16) (h : St W w I F) :
    Calls Tryd.prog 60 #[.int .i64 n] w fun e w' => e = .returned (.string ⟨(hexD n).toArray⟩) ∧ St W w' I F := by
  have l1 := sl_low64 n hn
  rw [hexD_lt hn]
  generalize hexd n = d at *
  go_enter Tryd.func60, Tryd.ntmps60
  go_wp2_with fail
  go_ret
  exact ⟨rfl, h⟩
set_option maxRecDepth 10000 in
set_option maxHeartbeats 1000000 in
theorem digits_any {W w : World} {I : Nat → Option Obj} {F : List (Nat × Obj)} (n : Nat) (hn : n < 4294967296) (h : St W w I F) :
    Calls Tryd.prog 60 #[.int .i64 n] w fun e w' => e = .returned (.string ⟨(hexD n).toArray⟩) ∧ St W w' I F := by
  induction n using Nat.strongRecOn generalizing w with
  | ind n ih =>
    by_cases h16 : n < 16
    · exact digits_lt n h16 h
    · have k1 := ih (n / 16) (by omega) (by omega) h
      have k2 := fun (w' : World) (h' : St W w' I F) => digits_lt (n % 16) (by omega) h'
      have hl := hexD_ten (n / 16) (by omega)
      have hg := hexD_ge h16
      rw [hexD_lt (show n % 16 < 16 by omega)] at k2
      rw [hg]
      generalize hexd (n % 16) = d at *
      generalize hexD (n / 16) = ds at *
      have K1 := Lib.hid k1; have K2 := Lib.hid k2
      clear k1 k2 ih h hg
      go_enter Tryd.func60, Tryd.ntmps60
      go_wp2_with fail
      have e1 : (n : Int).tdiv 16 = ((n / 16 : Nat) : Int) := by rw [Int.tdiv_eq_ediv_of_nonneg (by omega)]; omega
      have e2 : (n : Int).tmod 16 = ((n % 16 : Nat) : Int) := by rw [Int.tmod_eq_emod_of_nonneg (by omega)]; omega
      refine K1.out.mono ?_
      rintro e w1 ⟨rfl, h1⟩
      have kk := K2.out _ h1
      have KK := Lib.hid kk
      clear h1 kk K1
      go_wp2_with fail
      refine KK.out.mono ?_
      rintro e w2 ⟨rfl, h2⟩
      have hcat : ds.length + [d].length ≤ 9223372036854775807 := by simp; omega
      have H2 := Lib.hid h2
      clear h2 KK
      go_wp2_with fail
      go_ret
      exact ⟨rfl, H2.out⟩
end

section
set_option linter.unusedVariables false
set_option linter.unusedSimpArgs false
open Go.RowKit Go.Lib

theorem sl_dec (n : Nat) (h : n < 10) (w : World) : (Instr.slice 9 (.string ⟨#[48, 49, 50, 51, 52, 53, 54, 55, 56, 57]⟩) (some (.int .u64 (n : Int))) (some (.int .u64 ((n : Int) + 1))) none).run Tryd.prog w = .ok (.string ⟨#[UInt8.ofNat (48 + n)]⟩) w := by
  rcases (show n = 0 ∨ n = 1 ∨ n = 2 ∨ n = 3 ∨ n = 4 ∨ n = 5 ∨ n = 6 ∨ n = 7 ∨ n = 8 ∨ n = 9 by omega) with rfl | rfl | rfl | rfl | rfl | rfl | rfl | rfl | rfl | rfl <;> kernel_rfl
theorem ex_dec (n : Nat) (h : n < 10) : (⟨#[48, 49, 50, 51, 52, 53, 54, 55, 56, 57]⟩ : ByteArray).extract n (n + 1) = ⟨#[UInt8.ofNat (48 + n)]⟩ := by
  rcases (show n = 0 ∨ n = 1 ∨ n = 2 ∨ n = 3 ∨ n = 4 ∨ n = 5 ∨ n = 6 ∨ n = 7 ∨ n = 8 ∨ n = 9 by omega) with rfl | rfl | rfl | rfl | rfl | rfl | rfl | rfl | rfl | rfl <;> kernel_rfl
theorem decD_len : ∀ (k n : Nat), 1 ≤ k → n < 10 ^ k → (Lib.decDigits n).length ≤ k
  | 0, n, h, _ => by omega
  | k + 1, n, _, hn => by
    rw [Lib.decDigits]
    split
    · simp
    · have hk : 1 ≤ k := by
        rcases Nat.eq_zero_or_pos k with rfl | h
        · simp at hn; omega
        · exact h
      have := decD_len k (n / 10) hk (by rw [Nat.pow_succ] at hn; omega)
      simp only [List.length_append, List.length_cons, List.length_nil]
      omega
/-- Nothing for 0. -/
def dz (n : Nat) : List UInt8 := if n = 0 then [] else Lib.decDigits n
theorem dz_step (n : Nat) (out D : List UInt8) (h : Lib.decDigits n ++ out = D) : dz (n / 10) ++ (UInt8.ofNat (48 + n % 10) :: out) = D := by
  by_cases h10 : n < 10
  · have e : Lib.decDigits n = [UInt8.ofNat (48 + n)] := by rw [Lib.decDigits, dif_pos h10]
    rw [← h, e, dz, if_pos (by omega), Nat.mod_eq_of_lt h10]
    rfl
  · have e : Lib.decDigits n = Lib.decDigits (n / 10) ++ [UInt8.ofNat (48 + n % 10)] := by rw [Lib.decDigits, dif_neg h10]
    rw [← h, e, dz, if_neg (by omega)]
    simp
def bN : Value → Nat
  | .bool true => 1
  | _ => 0

set_option maxRecDepth 100000 in
set_option maxHeartbeats 4000000 in
theorem rdec_any {W w : World} {I : Nat → Option Obj} {F : List (Nat × Obj)} (u : Nat) (hu : u < 18446744073709551616) (h : St W w I F) :
    Calls Tryd.prog 48 #[.int .u64 u] w fun e w' => e = .returned (.string ⟨(Lib.decDigits u).toArray⟩) ∧ St W w' I F := by
  have hDl := decD_len 20 u (by omega) (by omega)
  obtain ⟨D, hD⟩ : ∃ D, Lib.decDigits u = D := ⟨_, rfl⟩
  rw [hD] at hDl ⊢
  have HD := Lib.hid hD
  clear hD
  go_enter Tryd.func48, Tryd.ntmps48
  go_wp2_with fail
  go_loopw [0, 3, 4] (fun n o f wr => ∃ (k : Nat) (out : List UInt8) (b : Bool), k < 18446744073709551616 ∧ n = .int .u64 k ∧ o = .string ⟨out.toArray⟩ ∧ f = .bool b ∧ (b = true → k = u ∧ out = []) ∧ (b = false → dz k ++ out = D) ∧ St W wr I F) (fun n o f _ => 2 * (intOf n).toNat + bN f)
  case atStart => exact ⟨u, [], true, hu, rfl, rfl, rfl, fun _ => ⟨rfl, rfl⟩, (fun h => by cases h), h⟩
  case round =>
    obtain ⟨k, out, b, hk, rfl, rfl, rfl, hb1, hb2, hst⟩ := hrel
    clear h
    have hstep : (b = true ∨ k ≠ 0) → Lib.decDigits k ++ out = D := by
      intro h0
      cases b with
      | true =>
        obtain ⟨rfl, rfl⟩ := hb1 rfl
        rw [List.append_nil]; exact HD.out
      | false =>
        have h1 := hb2 rfl
        rw [dz, if_neg (by simpa using h0)] at h1
        exact h1
    by_cases hgo : b = true ∨ k ≠ 0
    · have h1 := hstep hgo
      have hn := dz_step k out D h1
      have hol : out.length ≤ 20 := by rw [← h1, List.length_append] at hDl; omega
      have ex := ex_dec (k % 10) (by omega)
      have hcons := fun d : UInt8 => str_app2 [d] out
      generalize UInt8.ofNat (48 + k % 10) = d at *
      have wt : (k : Int).tmod 10 = (k : Int) % 10 := by rw [Int.tmod_eq_emod_of_nonneg (by omega)]
      have wm : IntKind.u64.wrap ((k : Int) % 10) = (k : Int) % 10 := by rw [IntKind.wrap_u64]; omega
      have wm1 : IntKind.u64.wrap ((k : Int) % 10 + 1) = (k : Int) % 10 + 1 := by rw [IntKind.wrap_u64]; omega
      have hcat : [d].length + out.length ≤ 9223372036854775807 := by simp; omega
      have z1 : ¬ (9223372036854775807 < 1 + out.length) := by omega
      have HN := Lib.hid hn; have HST := Lib.hid hst; have EX := Lib.hid ex; have HC := Lib.hid (hcons d)
      clear hn hst hstep h1 hb2 ex hcons
      cases b with
      | true =>
        obtain ⟨rfl, rfl⟩ := hb1 rfl
        clear hb1 hgo
        go_wp2_with fail
        go_roundw
        case rel => exact ⟨_, [d], false, by omega, by go_num, congrArg Value.string ((congrArg (· ++ _) EX.out).trans HC.out), rfl, (fun h => by cases h), fun _ => HN.out, HST.out⟩
        case measure => simp [intOf, bN]; omega
      | false =>
        have hk0 : 0 < k := by
          rcases hgo with h | h
          · cases h
          · omega
        have hk0' : (0 : Int) < (k : Int) := by omega
        clear hb1 hgo
        go_wp2_with fail
        go_roundw
        case rel => exact ⟨k / 10, d :: out, false, by omega, by go_num, congrArg Value.string ((congrArg (· ++ _) EX.out).trans HC.out), rfl, (fun h => by cases h), fun _ => HN.out, HST.out⟩
        case measure => simp [intOf, bN]; omega
    · have hb : b = false := by
        cases b with
        | true => exact absurd (.inl rfl) hgo
        | false => rfl
      subst hb
      obtain rfl : k = 0 := by
        rcases Nat.eq_zero_or_pos k with h | h
        · exact h
        · exact absurd (.inr (by omega)) hgo
      have hout := hb2 rfl
      rw [show dz 0 = [] from rfl, List.nil_append] at hout
      subst hout
      have HST := Lib.hid hst
      clear hst hstep hb1 hb2 hgo
      go_wp2_with fail
      go_ret
      exact ⟨rfl, HST.out⟩
end
end Go.Proofs.YtjcekmmieihllaaDoor
