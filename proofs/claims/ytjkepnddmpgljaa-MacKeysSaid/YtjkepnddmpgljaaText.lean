/- digest: Text; the reference's Text. -/
import Derived.Test.YtjkepnddmpgljaaBld
import Derived.Test.YtjkepnddmpgljaaParts
namespace Go.Proofs.Ytjkepnddmpgljaa
set_option linter.unusedVariables false
set_option linter.unusedSimpArgs false
open Go.RowKit

/-- A digit. -/
def hexd (n : Nat) : UInt8 := UInt8.ofNat (if n < 10 then 48 + n else 87 + n)
theorem ix_low : ∀ (n : Nat) (_ : n < 16) (w : World), (Instr.index 9 (.string ⟨#[48, 49, 50, 51, 52, 53, 54, 55, 56, 57, 97, 98, 99, 100, 101, 102]⟩) (.int .u8 (n : Int))).run Try.prog w = .ok (.int .u8 ((hexd n).toNat : Int)) w
  | n, h, w => by
    have : ∀ (n : Nat), n < 16 → (#[48, 49, 50, 51, 52, 53, 54, 55, 56, 57, 97, 98, 99, 100, 101, 102] : Array UInt8)[n]? = some (hexd n) := by decide
    have h2 := this n h
    have h3 : (0 : Int) ≤ n := by omega
    have h4 : (if (0 : Int) ≤ (n : Int) then (⟨#[48, 49, 50, 51, 52, 53, 54, 55, 56, 57, 97, 98, 99, 100, 101, 102]⟩ : ByteArray)[((n : Int)).toNat]? else none) = some (hexd n) := by
      rw [if_pos h3, Int.toNat_natCast]
      exact (getElem?_pos (⟨#[48, 49, 50, 51, 52, 53, 54, 55, 56, 57, 97, 98, 99, 100, 101, 102]⟩ : ByteArray) n (by simpa [ByteArray.size] using h)).trans (by
        rw [getElem?_pos (#[48, 49, 50, 51, 52, 53, 54, 55, 56, 57, 97, 98, 99, 100, 101, 102] : Array UInt8) n (by simpa using h)] at h2
        exact h2)
    simp only [Instr.index, asIntOf, Sem.run_bind, Sem.run_pure, Result.andThen_ok, run_underlying Try.underlying9, h4]

/-- Two digits a byte. -/
def textOf (bs : List UInt8) : List UInt8 := bs.flatMap fun b => [hexd (b.toNat / 16), hexd (b.toNat % 16)]
theorem textOf_snoc (bs : List UInt8) (b : UInt8) : textOf (bs ++ [b]) = (textOf bs ++ [hexd (b.toNat / 16)]) ++ [hexd (b.toNat % 16)] := by simp [textOf]
theorem textOf_len (bs : List UInt8) : (textOf bs).length = 2 * bs.length := by
  unfold textOf
  induction bs with
  | nil => rfl
  | cons b l ih => simp [List.flatMap_cons, ih]; omega
theorem textOf_ne (bs : List UInt8) (h : 0 < bs.length) : textOf bs ≠ [] := by
  intro e
  have := textOf_len bs
  rw [e] at this
  simp at this
  omega
theorem u8_low4 (b : UInt8) : bits .and .u8 (b.toNat : Int) 15 = ((b.toNat % 16 : Nat) : Int) := by
  have h := u8_and_nat b.toNat 15 b.toNat_lt (by omega)
  refine h.trans ?_
  rw [show (15 : Nat) = 2 ^ 4 - 1 from rfl, Nat.and_two_pow_sub_one_eq_mod]

set_option maxRecDepth 10000 in
set_option maxHeartbeats 1000000 in
theorem text_any {W w : World} {I : Nat → Option Obj} {F : List (Nat × Obj)} (bs : List UInt8) (hl : bs.length = 32) (hst : St W w I F) :
    Calls Try.prog 18 #[.agg (bcells bs)] w fun e w' => e = .returned (.string ⟨(textOf bs).toArray⟩) ∧ St W w' I F := by
  have z := bcells_size bs
  rw [hl] at z
  have hg := fun i (h : i < bs.length) => bcells_get bs i h
  have i1 : (Try.prog.info? 26).map (·.size) = some (bcells bs).size := by rw [z]; kernel_rfl
  obtain ⟨CS, hCS⟩ : ∃ CS, CS = bcells bs := ⟨_, rfl⟩
  rw [← hCS] at hg z i1 ⊢
  have hix : ∀ i (h : i < bs.length) w, (Instr.index 26 (.agg CS) (.int .i64 (i : Int))).run Try.prog w = .ok (.int .u8 ((bs.getD i 0).toNat : Int)) w := fun i h w =>
    run_index_cells Try.underlying26 Try.isAgg5 Try.sizeOf5 CS i _ (by omega) (hg i h) w
  have Z := Lib.hid z; have HIX := Lib.hid hix; have HL := Lib.hid hl
  clear hCS hg z hix hl
  have h1 : St W (w.alloc (.cells CS 26)) I ((w.heap.size, .cells CS 26 (0, 0)) :: F) := hst.alloc _
  have h2 := BldSt.new h1
  have H2 := Lib.hid h2
  clear h2 hst
  have hp : (w.heap.size, Obj.cells CS 26 (0, 0)) ∈ (w.heap.size, Obj.cells CS 26 (0, 0)) :: F := by simp
  have hy : ∀ j, j < CS.size → CS[0 + j]? = CS[j]? := fun j _ => by rw [Nat.zero_add]
  go_enter Try.func18, Try.ntmps18
  go_wp2_with (with_reducible refine wpList_load_st rfl 26 (.tmp 1) rfl (g := w.heap.size) (off := 0) rfl (H2.out.frame) hp CS hy _ Try.underlying26 rfl i1 ?_)
  have h2 := H2.out
  clear H2 h1 hp hy i1
  rw [World.size_alloc] at h2
  have hz : w.heap.size = w.heap.size := rfl
  clear hz
  generalize hF : (w.heap.size, Obj.cells CS 26 (0, 0)) :: F = F' at h2
  have HF := Lib.hid hF
  clear hF
  go_loopw [7] (fun i wr => ∃ k : Nat, k ≤ 32 ∧ i = .int .i64 k ∧ BldSt W wr I (w.heap.size + 1) (textOf (bs.take k)) F') (fun i _ => 32 - (intOf i).toNat)
  case atStart => exact ⟨0, by omega, rfl, h2⟩
  case round =>
    obtain ⟨k, hk, rfl, hb⟩ := hrel
    clear h2
    by_cases hlt : k < 32
    · have hix := fun w => HIX.out k (by rw [HL.out]; exact hlt) w
      have hts : bs.take (k + 1) = bs.take k ++ [bs.getD k 0] := by
        rw [List.take_add_one, List.getElem?_eq_getElem (by rw [HL.out]; exact hlt), List.getD_eq_getElem?_getD, List.getElem?_eq_getElem (by rw [HL.out]; exact hlt)]
        rfl
      have hnext := textOf_snoc (bs.take k) (bs.getD k 0)
      rw [← hts] at hnext
      have htl := textOf_len (bs.take k)
      have htk : (bs.take k).length ≤ k := List.length_take_le _ _
      generalize bs.getD k 0 = b at *
      have b256 := b.toNat_lt
      have l1 : ∀ w, (Instr.index 9 (.string ⟨#[48, 49, 50, 51, 52, 53, 54, 55, 56, 57, 97, 98, 99, 100, 101, 102]⟩) (.int .u8 ((b.toNat : Int) / 16))).run Try.prog w = .ok (.int .u8 ((hexd (b.toNat / 16)).toNat : Int)) w := fun w => by
        rw [show (b.toNat : Int) / 16 = ((b.toNat / 16 : Nat) : Int) by omega]; exact ix_low _ (by omega) w
      have l2 : ∀ w, (Instr.index 9 (.string ⟨#[48, 49, 50, 51, 52, 53, 54, 55, 56, 57, 97, 98, 99, 100, 101, 102]⟩) (.int .u8 ((b.toNat : Int) % 16))).run Try.prog w = .ok (.int .u8 ((hexd (b.toNat % 16)).toNat : Int)) w := fun w => by
        rw [show (b.toNat : Int) % 16 = ((b.toNat % 16 : Nat) : Int) by omega]; exact ix_low _ (by omega) w
      have c1 := bldByte (hexd (b.toNat / 16)) hb (by omega)
      have C2 := fun w' (h : BldSt W w' I (w.heap.size + 1) (textOf (bs.take k) ++ [hexd (b.toNat / 16)]) F') => bldByte (hexd (b.toNat % 16)) h (by simp; omega)
      rw [← hnext] at C2
      clear hnext hts htl htk
      generalize hexd (b.toNat / 16) = d1 at *
      generalize hexd (b.toNat % 16) = d2 at *
      have C1 := Lib.hid c1; have D2 := Lib.hid C2
      clear c1 C2 hb
      go_wp2_with fail
      refine C1.out.mono ?_
      rintro e w2 ⟨rfl, hb2⟩
      clear C1
      go_wp2_with fail
      refine (D2.out _ hb2).mono ?_
      rintro e w3 ⟨rfl, hb3⟩
      clear hb2 D2 l1 l2 hix
      go_wp2_with fail
      go_roundw
      case rel => exact ⟨k + 1, by omega, by go_num, hb3⟩
      case measure => simp [intOf]; omega
    · obtain rfl : k = 32 := by omega
      rw [List.take_of_length_le (by rw [HL.out]; exact Nat.le_refl _)] at hb
      have c1 := bldString hb (textOf_ne bs (by rw [HL.out]; omega))
      have C1 := Lib.hid c1
      clear c1 hb
      go_wp2_with fail
      refine C1.out.mono ?_
      rintro e w2 ⟨rfl, h3⟩
      rw [← HF.out] at h3
      have h4 := St.weaken (A := [_]) h3
      clear h3 C1
      go_wp2_with fail
      go_ret
      exact ⟨rfl, h4⟩
end Go.Proofs.Ytjkepnddmpgljaa
