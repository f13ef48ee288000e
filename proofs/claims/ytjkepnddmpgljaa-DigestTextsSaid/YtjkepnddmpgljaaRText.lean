/- digest: the reference's Text. -/
import Derived.Test.YtjkepnddmpgljaaText
import Derived.Deep.QuietTactic
import Derived.BigQuiet
namespace Go.Proofs.Ytjkepnddmpgljaa
set_option linter.unusedVariables false
set_option linter.unusedSimpArgs false
open Go.RowKit

theorem sl_low (n : Nat) (h : n < 16) (w : World) : (Instr.slice 9 (.string ⟨#[48, 49, 50, 51, 52, 53, 54, 55, 56, 57, 97, 98, 99, 100, 101, 102]⟩) (some (.int .u8 (n : Int))) (some (.int .u8 ((n : Int) + 1))) none).run Try.prog w = .ok (.string ⟨#[hexd n]⟩) w := by
  rcases (show n = 0 ∨ n = 1 ∨ n = 2 ∨ n = 3 ∨ n = 4 ∨ n = 5 ∨ n = 6 ∨ n = 7 ∨ n = 8 ∨ n = 9 ∨ n = 10 ∨ n = 11 ∨ n = 12 ∨ n = 13 ∨ n = 14 ∨ n = 15 by omega) with rfl | rfl | rfl | rfl | rfl | rfl | rfl | rfl | rfl | rfl | rfl | rfl | rfl | rfl | rfl | rfl <;> kernel_rfl

set_option maxRecDepth 10000 in
set_option maxHeartbeats 1000000 in
theorem rtext_any {W w : World} {I : Nat → Option Obj} {F : List (Nat × Obj)} (bs : List UInt8) (hl : bs.length = 32) (hst : St W w I F) :
    Calls Try.prog 20 #[.agg (bcells bs)] w fun e w' => e = .returned (.string ⟨(textOf bs).toArray⟩) ∧ St W w' I F := by
  have z := bcells_size bs
  rw [hl] at z
  have hg := fun i (h : i < bs.length) => bcells_get bs i h
  have i1 : (Try.prog.info? 26).map (·.size) = some (bcells bs).size := by rw [z]; kernel_rfl
  obtain ⟨CS, hCS⟩ : ∃ CS, CS = bcells bs := ⟨_, rfl⟩
  rw [← hCS] at hg z i1 ⊢
  have hix : ∀ i (h : i < bs.length) w, (Instr.index 26 (.agg CS) (.int .i64 (i : Int))).run Try.prog w = .ok (.int .u8 ((bs.getD i 0).toNat : Int)) w := fun i h w =>
    run_index_cells Try.underlying26 Try.isAgg5 Try.sizeOf5 CS i _ (by omega) (hg i h) w
  have Z := Lib.hid z; have HIX := Lib.hid hix; have HL := Lib.hid hl
  clear hCS hg z hix hl
  have h1 : St W (w.alloc (.cells CS 26)) I ((w.heap.size, .cells CS 26 (0, 0)) :: F) := hst.alloc _
  have hp : (w.heap.size, Obj.cells CS 26 (0, 0)) ∈ (w.heap.size, Obj.cells CS 26 (0, 0)) :: F := by simp
  have hy : ∀ j, j < CS.size → CS[0 + j]? = CS[j]? := fun j _ => by rw [Nat.zero_add]
  go_enter Try.func20, Try.ntmps20
  go_wp2_with (with_reducible refine wpList_load_st rfl 26 (.tmp 1) rfl (g := w.heap.size) (off := 0) rfl h1 hp CS hy _ Try.underlying26 rfl i1 ?_)
  have h2 := St.weaken (A := [_]) h1
  clear h1 hp hy i1 hst
  generalize hgw : w.alloc (.cells CS 26) = w1 at *
  clear hgw
  go_loopw [3, 7] (fun o i wr => ∃ k : Nat, k ≤ 32 ∧ i = .int .i64 k ∧ o = .string ⟨(textOf (bs.take k)).toArray⟩ ∧ St W wr I F) (fun _ i _ => 32 - (intOf i).toNat)
  case atStart => exact ⟨0, by omega, rfl, rfl, h2⟩
  case round =>
    obtain ⟨k, hk, rfl, rfl, hb⟩ := hrel
    clear h2
    by_cases hlt : k < 32
    · have hix := fun w => HIX.out k (by rw [HL.out]; exact hlt) w
      have hts : bs.take (k + 1) = bs.take k ++ [bs.getD k 0] := by
        rw [List.take_add_one, List.getElem?_eq_getElem (by rw [HL.out]; exact hlt), List.getD_eq_getElem?_getD, List.getElem?_eq_getElem (by rw [HL.out]; exact hlt)]
        rfl
      have hnext := textOf_snoc (bs.take k) (bs.getD k 0)
      rw [← hts] at hnext
      generalize bs.getD k 0 = b at *
      have b256 := b.toNat_lt
      have l1 : ∀ w, (Instr.slice 9 (.string ⟨#[48, 49, 50, 51, 52, 53, 54, 55, 56, 57, 97, 98, 99, 100, 101, 102]⟩) (some (.int .u8 ((b.toNat : Int) / 16))) (some (.int .u8 ((b.toNat : Int) / 16 + 1))) none).run Try.prog w = .ok (.string ⟨#[hexd (b.toNat / 16)]⟩) w := fun w => by
        rw [show (b.toNat : Int) / 16 = ((b.toNat / 16 : Nat) : Int) by omega]; exact sl_low _ (by omega) w
      have l2 : ∀ w, (Instr.slice 9 (.string ⟨#[48, 49, 50, 51, 52, 53, 54, 55, 56, 57, 97, 98, 99, 100, 101, 102]⟩) (some (.int .u8 ((b.toNat : Int) % 16))) (some (.int .u8 ((b.toNat : Int) % 16 + 1))) none).run Try.prog w = .ok (.string ⟨#[hexd (b.toNat % 16)]⟩) w := fun w => by
        rw [show (b.toNat : Int) % 16 = ((b.toNat % 16 : Nat) : Int) by omega]; exact sl_low _ (by omega) w
      have w1' : IntKind.u8.wrap ((b.toNat : Int) / 16 + 1) = (b.toNat : Int) / 16 + 1 := by rw [IntKind.wrap_u8]; omega
      have w2' : IntKind.u8.wrap ((b.toNat : Int) % 16 + 1) = (b.toNat : Int) % 16 + 1 := by rw [IntKind.wrap_u8]; omega
      have d1' : IntKind.u8.wrap ((b.toNat : Int).tdiv 16) = (b.toNat : Int) / 16 := by rw [IntKind.wrap_u8, Int.tdiv_eq_ediv_of_nonneg (by omega)]; omega
      have d2' : IntKind.u8.wrap ((b.toNat : Int).tmod 16) = (b.toNat : Int) % 16 := by rw [IntKind.wrap_u8, Int.tmod_eq_emod_of_nonneg (by omega)]; omega
      have m2' : ((b.toNat : Int).tmod 16) = (b.toNat : Int) % 16 := by rw [Int.tmod_eq_emod_of_nonneg (by omega)]
      have hcat : ∀ w, (Op.stringOp .add (⟨(textOf (bs.take k)).toArray⟩ : ByteArray) (⟨#[hexd (b.toNat / 16)]⟩ ++ ⟨#[hexd (b.toNat % 16)]⟩)).run Try.prog w = .ok (.string (⟨(textOf (bs.take k)).toArray⟩ ++ (⟨#[hexd (b.toNat / 16)]⟩ ++ ⟨#[hexd (b.toNat % 16)]⟩))) w := fun w => by
        refine run_string_add_sum w _ _ ?_
        have e1 := textOf_len (bs.take k)
        have e2 : (bs.take k).length ≤ k := List.length_take_le _ _
        rw [ByteArray.size_append]
        show (textOf (bs.take k)).toArray.size + (1 + 1) ≤ _
        rw [List.size_toArray]
        omega
      clear hts
      have HN := Lib.hid hnext
      clear hnext
      generalize hexd (b.toNat / 16) = d1 at *
      generalize hexd (b.toNat % 16) = d2 at *
      go_wp2_with fail
      go_quiet (fail)
      clear l1 l2 hcat w1' w2' d1' d2' m2' hix
      go_wp2_with fail
      go_roundw
      case rel =>
        refine ⟨k + 1, by omega, by go_num, ?_, hb.drew _⟩
        rw [HN.out]
        show Value.string ((⟨(textOf (List.take k bs)).toArray⟩ : ByteArray) ++ ((⟨[d1].toArray⟩ : ByteArray) ++ (⟨[d2].toArray⟩ : ByteArray))) = _
        rw [ByteArray.mk_append_mk, ByteArray.mk_append_mk]
        simp
      case measure => simp [intOf]; omega
    · obtain rfl : k = 32 := by omega
      rw [List.take_of_length_le (by rw [HL.out]; exact Nat.le_refl _)]
      go_wp2_with fail
      go_ret
      exact ⟨rfl, hb⟩
end Go.Proofs.Ytjkepnddmpgljaa
