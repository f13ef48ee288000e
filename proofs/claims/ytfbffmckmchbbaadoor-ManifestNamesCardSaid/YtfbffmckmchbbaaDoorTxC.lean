/- digest: the reference's Text. The document's digits at sixteen: walk. The document's Show: walk. -/
import Derived.Test.YtfbffmckmchbbaaDoorTxA
import Derived.Deep.QuietTactic
import Derived.BigQuiet
import Derived.Test.YtfbffmckmchbbaaDoorTxB
import Derived.Test.YtfbffmckmchbbaaDoorRname
namespace Go.Proofs.YtfbffmckmchbbaaDoor
section
set_option linter.unusedVariables false
set_option linter.unusedSimpArgs false
open Go.RowKit

theorem sl_low (n : Nat) (h : n < 16) (w : World) : (Instr.slice 9 (.string ⟨#[48, 49, 50, 51, 52, 53, 54, 55, 56, 57, 97, 98, 99, 100, 101, 102]⟩) (some (.int .u8 (n : Int))) (some (.int .u8 ((n : Int) + 1))) none).run Tryd.prog w = .ok (.string ⟨#[hexd n]⟩) w := by
  rcases (show n = 0 ∨ n = 1 ∨ n = 2 ∨ n = 3 ∨ n = 4 ∨ n = 5 ∨ n = 6 ∨ n = 7 ∨ n = 8 ∨ n = 9 ∨ n = 10 ∨ n = 11 ∨ n = 12 ∨ n = 13 ∨ n = 14 ∨ n = 15 by omega) with rfl | rfl | rfl | rfl | rfl | rfl | rfl | rfl | rfl | rfl | rfl | rfl | rfl | rfl | rfl | rfl <;> kernel_rfl

set_option maxRecDepth 10000 in
set_option maxHeartbeats 1000000 in
theorem rtext_any {W w : World} {I : Nat → Option Obj} {F : List (Nat × Obj)} (bs : List UInt8) (hl : bs.length = 32) (hst : St W w I F) :
    Calls Tryd.prog 57 #[.agg (bcells bs)] w fun e w' => e = .returned (.string ⟨(textOf bs).toArray⟩) ∧ St W w' I F := by
  have z := bcells_size bs
  rw [hl] at z
  have hg := fun i (h : i < bs.length) => bcells_get bs i h
  have i1 : (Tryd.prog.info? 26).map (·.size) = some (bcells bs).size := by rw [z]; kernel_rfl
  obtain ⟨CS, hCS⟩ : ∃ CS, CS = bcells bs := ⟨_, rfl⟩
  rw [← hCS] at hg z i1 ⊢
  have hix : ∀ i (h : i < bs.length) w, (Instr.index 26 (.agg CS) (.int .i64 (i : Int))).run Tryd.prog w = .ok (.int .u8 ((bs.getD i 0).toNat : Int)) w := fun i h w =>
    run_index_cells Tryd.underlying26 Tryd.isAgg5 Tryd.sizeOf5 CS i _ (by omega) (hg i h) w
  have Z := Lib.hid z; have HIX := Lib.hid hix; have HL := Lib.hid hl
  clear hCS hg z hix hl
  have h1 : St W (w.alloc (.cells CS 26)) I ((w.heap.size, .cells CS 26 (0, 0)) :: F) := hst.alloc _
  have hp : (w.heap.size, Obj.cells CS 26 (0, 0)) ∈ (w.heap.size, Obj.cells CS 26 (0, 0)) :: F := by simp
  have hy : ∀ j, j < CS.size → CS[0 + j]? = CS[j]? := fun j _ => by rw [Nat.zero_add]
  go_enter Tryd.func57, Tryd.ntmps57
  go_wp2_with (with_reducible refine wpList_load_st rfl 26 (.tmp 1) rfl (g := w.heap.size) (off := 0) rfl h1 hp CS hy _ Tryd.underlying26 rfl i1 ?_)
  have h2 := St.weaken (A := [_]) h1
  clear h1 hp hy i1 hst
  generalize hgw : w.alloc (.cells CS 26) = w1 at *
  clear hgw
  go_loopw [3, 7] (fun o i wr => ∃ k : Nat, k ≤ 32 ∧ i = .int .i64 k ∧ o = .string ⟨(textOf (bs.take k)).toArray⟩ ∧ St W wr I F) (fun _ i _ => 32 - (intOf i).toNat)
  case atStart => exact ⟨0, by omega, rfl, rfl, h2⟩
  case round =>
    obtain ⟨k, hk, rfl, rfl, hb⟩ := hrel
    clear h2
    by_cases hlt : k < 32
    · have hix := fun w => HIX.out k (by rw [HL.out]; exact hlt) w
      have hts : bs.take (k + 1) = bs.take k ++ [bs.getD k 0] := by
        rw [List.take_add_one, List.getElem?_eq_getElem (by rw [HL.out]; exact hlt), List.getD_eq_getElem?_getD, List.getElem?_eq_getElem (by rw [HL.out]; exact hlt)]
        rfl
      have hnext := textOf_snoc (bs.take k) (bs.getD k 0)
      rw [← hts] at hnext
      generalize bs.getD k 0 = b at *
      have b256 := b.toNat_lt
      have l1 : ∀ w, (Instr.slice 9 (.string ⟨#[48, 49, 50, 51, 52, 53, 54, 55, 56, 57, 97, 98, 99, 100, 101, 102]⟩) (some (.int .u8 ((b.toNat : Int) / 16))) (some (.int .u8 ((b.toNat : Int) / 16 + 1))) none).run Tryd.prog w = .ok (.string ⟨#[hexd (b.toNat / 16)]⟩) w := fun w => by
        rw [show (b.toNat : Int) / 16 = ((b.toNat / 16 : Nat) : Int) by omega]; exact sl_low _ (by omega) w
      have l2 : ∀ w, (Instr.slice 9 (.string ⟨#[48, 49, 50, 51, 52, 53, 54, 55, 56, 57, 97, 98, 99, 100, 101, 102]⟩) (some (.int .u8 ((b.toNat : Int) % 16))) (some (.int .u8 ((b.toNat : Int) % 16 + 1))) none).run Tryd.prog w = .ok (.string ⟨#[hexd (b.toNat % 16)]⟩) w := fun w => by
        rw [show (b.toNat : Int) % 16 = ((b.toNat % 16 : Nat) : Int) by omega]; exact sl_low _ (by omega) w
      have w1' : IntKind.u8.wrap ((b.toNat : Int) / 16 + 1) = (b.toNat : Int) / 16 + 1 := by rw [IntKind.wrap_u8]; omega
      have w2' : IntKind.u8.wrap ((b.toNat : Int) % 16 + 1) = (b.toNat : Int) % 16 + 1 := by rw [IntKind.wrap_u8]; omega
      have d1' : IntKind.u8.wrap ((b.toNat : Int).tdiv 16) = (b.toNat : Int) / 16 := by rw [IntKind.wrap_u8, Int.tdiv_eq_ediv_of_nonneg (by omega)]; omega
      have d2' : IntKind.u8.wrap ((b.toNat : Int).tmod 16) = (b.toNat : Int) % 16 := by rw [IntKind.wrap_u8, Int.tmod_eq_emod_of_nonneg (by omega)]; omega
      have m2' : ((b.toNat : Int).tmod 16) = (b.toNat : Int) % 16 := by rw [Int.tmod_eq_emod_of_nonneg (by omega)]
      have hcat : ∀ w, (Op.stringOp .add (⟨(textOf (bs.take k)).toArray⟩ : ByteArray) (⟨#[hexd (b.toNat / 16)]⟩ ++ ⟨#[hexd (b.toNat % 16)]⟩)).run Tryd.prog w = .ok (.string (⟨(textOf (bs.take k)).toArray⟩ ++ (⟨#[hexd (b.toNat / 16)]⟩ ++ ⟨#[hexd (b.toNat % 16)]⟩))) w := fun w => by
        refine run_string_add_sum w _ _ ?_
        have e1 := textOf_len (bs.take k)
        have e2 : (bs.take k).length ≤ k := List.length_take_le _ _
        rw [ByteArray.size_append]
        show (textOf (bs.take k)).toArray.size + (1 + 1) ≤ _
        rw [List.size_toArray]
        omega
      clear hts
      have HN := Lib.hid hnext
      clear hnext
      generalize hexd (b.toNat / 16) = d1 at *
      generalize hexd (b.toNat % 16) = d2 at *
      go_wp2_with fail
      go_quiet (fail)
      clear l1 l2 hcat w1' w2' d1' d2' m2' hix
      go_wp2_with fail
      go_roundw
      case rel =>
        refine ⟨k + 1, by omega, by go_num, ?_, hb.drew _⟩
        rw [HN.out]
        show Value.string ((⟨(textOf (List.take k bs)).toArray⟩ : ByteArray) ++ ((⟨[d1].toArray⟩ : ByteArray) ++ (⟨[d2].toArray⟩ : ByteArray))) = _
        rw [ByteArray.mk_append_mk, ByteArray.mk_append_mk]
        simp
      case measure => simp [intOf]; omega
    · obtain rfl : k = 32 := by omega
      rw [List.take_of_length_le (by rw [HL.out]; exact Nat.le_refl _)]
      go_wp2_with fail
      go_ret
      exact ⟨rfl, hb⟩
end

section
set_option linter.unusedVariables false
set_option linter.unusedSimpArgs false
open Go.RowKit

theorem sl_low64 (n : Nat) (h : n < 16) (w : World) : (Instr.slice 9 (.string ⟨#[48, 49, 50, 51, 52, 53, 54, 55, 56, 57, 97, 98, 99, 100, 101, 102]⟩) (some (.int .i64 (n : Int))) (some (.int .i64 ((n : Int) + 1))) none).run Tryd.prog w = .ok (.string ⟨#[hexd n]⟩) w := by
  rcases (show n = 0 ∨ n = 1 ∨ n = 2 ∨ n = 3 ∨ n = 4 ∨ n = 5 ∨ n = 6 ∨ n = 7 ∨ n = 8 ∨ n = 9 ∨ n = 10 ∨ n = 11 ∨ n = 12 ∨ n = 13 ∨ n = 14 ∨ n = 15 by omega) with rfl | rfl | rfl | rfl | rfl | rfl | rfl | rfl | rfl | rfl | rfl | rfl | rfl | rfl | rfl | rfl <;> kernel_rfl
theorem str_app2 (a b : List UInt8) : (⟨a.toArray⟩ : ByteArray) ++ ⟨b.toArray⟩ = ⟨(a ++ b).toArray⟩ := by
  apply ByteArray.ext
  rw [ByteArray.data_append]
  simp
theorem hexD_ten (n : Nat) (h : n < 4294967296) : (hexD n).length ≤ 8 := hexD_len 8 n (by omega) (by omega)

set_option maxRecDepth 10000 in
set_option maxHeartbeats 1000000 in
theorem digits_lt {W w : World} {I : Nat → Option Obj} {F : List (Nat × Obj)} (n : Nat) (hn : n < 16) (h : St W w I F) :
    Calls Tryd.prog 84 #[.int .i64 n] w fun e w' => e = .returned (.string ⟨(hexD n).toArray⟩) ∧ St W w' I F := by
  have l1 := sl_low64 n hn
  rw [hexD_lt hn]
  generalize hexd n = d at *
  go_enter Tryd.func84, Tryd.ntmps84
  go_wp2_with fail
  go_ret
  exact ⟨rfl, h⟩
set_option maxRecDepth 10000 in
set_option maxHeartbeats 1000000 in
theorem digits_any {W w : World} {I : Nat → Option Obj} {F : List (Nat × Obj)} (n : Nat) (hn : n < 4294967296) (h : St W w I F) :
    Calls Tryd.prog 84 #[.int .i64 n] w fun e w' => e = .returned (.string ⟨(hexD n).toArray⟩) ∧ St W w' I F := by
  induction n using Nat.strongRecOn generalizing w with
  | ind n ih =>
    by_cases h16 : n < 16
    · exact digits_lt n h16 h
    · have k1 := ih (n / 16) (by omega) (by omega) h
      have k2 := fun (w' : World) (h' : St W w' I F) => digits_lt (n % 16) (by omega) h'
      have hl := hexD_ten (n / 16) (by omega)
      have hg := hexD_ge h16
      rw [hexD_lt (show n % 16 < 16 by omega)] at k2
      rw [hg]
      generalize hexd (n % 16) = d at *
      generalize hexD (n / 16) = ds at *
      have K1 := Lib.hid k1; have K2 := Lib.hid k2
      clear k1 k2 ih h hg
      go_enter Tryd.func84, Tryd.ntmps84
      go_wp2_with fail
      have e1 : (n : Int).tdiv 16 = ((n / 16 : Nat) : Int) := by rw [Int.tdiv_eq_ediv_of_nonneg (by omega)]; omega
      have e2 : (n : Int).tmod 16 = ((n % 16 : Nat) : Int) := by rw [Int.tmod_eq_emod_of_nonneg (by omega)]; omega
      refine K1.out.mono ?_
      rintro e w1 ⟨rfl, h1⟩
      have kk := K2.out _ h1
      have KK := Lib.hid kk
      clear h1 kk K1
      go_wp2_with fail
      refine KK.out.mono ?_
      rintro e w2 ⟨rfl, h2⟩
      have hcat : ds.length + [d].length ≤ 9223372036854775807 := by simp; omega
      have H2 := Lib.hid h2
      clear h2 KK
      go_wp2_with fail
      go_ret
      exact ⟨rfl, H2.out⟩
end

section
set_option linter.unusedVariables false
set_option linter.unusedSimpArgs false
open Go.RowKit Go.Lib

theorem sl_mk (l : List UInt8) : sL (⟨l.toArray⟩ : ByteArray) = l := by simp [sL]
theorem show_plain (s : ByteArray) (p : Nat) (hp : p < s.size) (hb : brokenAt s p = false) (hpl : plainC (Utf8.decode s p).1 = true) : refBytes s p = ⟨(showPiece s p).toArray⟩ := by
  have hc : 32 ≤ (Utf8.decode s p).1 ∧ (Utf8.decode s p).1 ≤ 126 := by
    simp [plainC] at hpl
    omega
  have h1 := (byte_text s p hp hb (UInt8.ofNat (Utf8.decode s p).1) (by rw [UInt8.toNat_ofNat']; omega)).2 (by rw [UInt8.toNat_ofNat']; omega)
  have h2 : showPiece s p = [UInt8.ofNat (Utf8.decode s p).1] := by
    rw [showPiece, hb, hpl]
    generalize (Utf8.decode s p).1 = c at *
    have : ∀ c : Nat, c < 127 → Lib.encodeRune (c : Int) = [UInt8.ofNat c] := by decide
    exact this c (by omega)
  rw [h2]
  apply ByteArray.ext
  rw [ByteArray.toList_eq] at h1
  rw [← h1, Array.toArray_toList]
theorem show_broken (s : ByteArray) (p : Nat) (hb : brokenAt s p = true) : showPiece s p = ([92, 120] ++ hexD ((s.get! p).toNat / 16)) ++ hexD ((s.get! p).toNat % 16) := by
  have hx := (s.get! p).toNat_lt
  rw [showPiece, hb, if_pos rfl, hexD_lt (by omega), hexD_lt (by omega)]
  rfl
theorem show_else (s : ByteArray) (p : Nat) (hb : brokenAt s p = false) (hpl : plainC (Utf8.decode s p).1 = false) : showPiece s p = ([92, 117, 123] ++ hexD (Utf8.decode s p).1) ++ [125] := by
  rw [showPiece, hb, hpl]
  rfl

set_option maxRecDepth 100000 in
set_option maxHeartbeats 4000000 in
theorem rshow_any {W w : World} {I : Nat → Option Obj} {L : List (Nat × Obj)} (t : TB W I) (s : ByteArray) (hm : s.size ≤ 1000000000) (h : St W w I L) :
    Calls Tryd.prog 55 #[.string s] w fun e w' => e = .returned (.string ⟨(showOf s).toArray⟩) ∧ St W w' I L := by
  have cR := runes_any s hm h
  have hzl := runesOf_lt s
  have hln := runesOf_len s
  obtain ⟨R, hR⟩ : ∃ R : ByteArray, R = ⟨(showOf s).toArray⟩ := ⟨_, rfl⟩
  rw [← hR]
  have hfd : showOf s = (runesOf s).flatMap (showPiece s) := rfl
  rw [hfd] at hR
  generalize runesOf s = l at *
  have HR := Lib.hid hR; have CR := Lib.hid cR
  clear hR cR h hfd
  go_enter Tryd.func55, Tryd.ntmps55
  go_wp2_with fail
  refine CR.out.mono ?_
  rintro e w1 ⟨A, c, L', rfl, hrow, h1⟩
  obtain ⟨J, hle, h2, hrin⟩ := runes_freeze hrow h1
  have H2 := Lib.hid h2; have HRIN := Lib.hid hrin
  have T := Lib.hid (t.more hle)
  clear hrow h1 h2 CR t hrin
  go_wp2_with fail
  go_loopw [3, 9] (fun v i wr => ∃ k : Nat, i = .int .i64 k ∧ v = .string ⟨((l.take k).flatMap (showPiece s)).toArray⟩ ∧ k ≤ l.length ∧ St W wr J L) (fun _ i _ => l.length - (intOf i).toNat)
  case atStart => exact ⟨0, rfl, by simp, by omega, H2.out⟩
  case round =>
    obtain ⟨k, rfl, rfl, hk, hst⟩ := hrel
    clear H2
    by_cases hkl : k < l.length
    · obtain ⟨p, hp⟩ : ∃ p, l[k]? = some p := ⟨_, List.getElem?_eq_getElem hkl⟩
      obtain ⟨b, off, rfl, r0, r1, r2⟩ := HRIN.out k p hp
      have hps := hzl p (List.mem_of_getElem? hp)
      have q0 := hst.ro r0
      have q1 := hst.ro r1
      have q2 := hst.ro r2
      have hnext : (l.take (k + 1)).flatMap (showPiece s) = (l.take k).flatMap (showPiece s) ++ showPiece s p := by rw [List.take_add_one, hp]; simp
      have hrl := Lib.rune_le s p
      have hal := showPieces_len s (l.take k)
      have hkl2 : (l.take k).length ≤ 1000000000 := by simp; omega
      have hrbs : (refBytes s p).size ≤ 1000000000 := by unfold refBytes; rw [ByteArray.size_extract]; omega
      have b256 := (s.get! p).toNat_lt
      have f1 := show_plain s p hps
      have f2 := show_broken s p
      have f3 := show_else s p
      have g1 : brokenAt s p = true → refNumber s p = (s.get! p).toNat := fun h => by unfold refNumber; rw [h]; rfl
      have g2 : brokenAt s p = false → refNumber s p = (Utf8.decode s p).1 := fun h => by unfold refNumber; rw [h]; rfl
      obtain ⟨acc, hacc⟩ : ∃ acc, (l.take k).flatMap (showPiece s) = acc := ⟨_, rfl⟩
      rw [hacc] at hnext hal ⊢
      generalize showPiece s p = fp at *
      generalize refBytes s p = rb at *
      generalize refNumber s p = rn at *
      generalize (Utf8.decode s p).1 = dn at *
      generalize (s.get! p).toNat = bn at *
      have HN := Lib.hid hnext; have HST := Lib.hid hst; have HLE := Lib.hid hle
      cases hbr : brokenAt s p with
      | true =>
        rw [hbr] at q2
        obtain rfl := g1 hbr
        have hf := f2 hbr
        have HF := Lib.hid hf
        have hd := (hst.alloc (.cells #[.int .i64 rn, .string rb, .bool true] 99)).drew1
        have hm : (wr.heap.size, Obj.cells #[.int .i64 rn, .string rb, .bool true] 99 (0, 0)) ∈ (wr.heap.size, Obj.cells #[.int .i64 rn, .string rb, .bool true] 99 (0, 0)) :: L := by simp
        have x0 : (wr.alloc (.cells #[.int .i64 rn, .string rb, .bool true] 99)).drew.cell? ⟨wr.heap.size, 0, none⟩ = some (.int .i64 rn) := (hd.cell hm 0)
        have hcell := fun (w' : World) (h' : St W w' J ((wr.heap.size, Obj.cells #[.int .i64 rn, .string rb, .bool true] 99 (0, 0)) :: L)) => (h'.cell hm 0)
        have k1 := digits_any (rn / 16) (by omega) hd
        have k2 := fun (w' : World) (h' : St W w' J ((wr.heap.size, Obj.cells #[.int .i64 rn, .string rb, .bool true] 99 (0, 0)) :: L)) => digits_any (rn % 16) (by omega) h'
        have n1 := hexD_ten (rn / 16) (by omega)
        have n2 := hexD_ten (rn % 16) (by omega)
        generalize hexD (rn / 16) = d1 at *
        generalize hexD (rn % 16) = d2 at *
        rw [show ((rn / 16 : Nat) : Int) = (rn : Int) / 16 by omega] at k1
        rw [show ((rn % 16 : Nat) : Int) = (rn : Int) % 16 by omega] at k2
        have K1 := Lib.hid k1; have K2 := Lib.hid k2; have HC := Lib.hid hcell
        clear f1 f2 f3 g1 g2 hst hnext r0 r1 r2 hp hacc hle hbr hzl k1 k2 hf hcell hd hm
        go_wp2_with fail
        have wq : IntKind.i64.wrap ((rn : Int) / 16) = (rn : Int) / 16 := by rw [IntKind.wrap_i64]; omega
        have wm : IntKind.i64.wrap ((rn : Int) % 16) = (rn : Int) % 16 := by rw [IntKind.wrap_i64]; omega
        have wt : (rn : Int).tmod 16 = (rn : Int) % 16 := by rw [Int.tmod_eq_emod_of_nonneg (by omega)]
        have z1 : ¬ (9223372036854775807 < 2 + d1.length) := by omega
        have z2 : ¬ (9223372036854775807 < 2 + d1.length + d2.length) := by omega
        have z3 : ¬ (9223372036854775807 < acc.length + (2 + d1.length + d2.length)) := by omega
        go_region_law (go_simp; go_at_call 84; first | (with_reducible refine K1.out.mono ?_; rintro e w2 ⟨rfl, h2⟩; have x2 := HC.out _ h2; have H3 := Lib.hid h2; clear h2; dsimp only) | (with_reducible refine (K2.out _ H3.out).mono ?_; rintro e w3 ⟨rfl, h3⟩; have H4 := Lib.hid h3; clear h3; dsimp only))
        all_goals
          go_wp2_with fail
          refine ⟨⟨k + 1, by go_num, by rw [HN.out, HF.out]; exact congrArg Value.string (by simp only [← str_app2]), by omega, St.weaken (A := [_]) H4.out⟩, ?_⟩
          simp [intOf]; omega
      | false =>
        rw [hbr] at q2
        obtain rfl := g2 hbr
        have f4 := f1 hbr
        have f5 := f3 hbr
        clear f1 f2 f3 g1 g2
        by_cases hpl : 32 ≤ rn ∧ rn ≤ 126 ∧ rn ≠ 34 ∧ rn ≠ 92
        · obtain ⟨p1, p2, p3, p4⟩ := hpl
          have hf := f4 (by simp [plainC, p1, p2, p3, p4])
          have HF := Lib.hid hf
          have y1 : (32 : Int) ≤ (rn : Int) := by omega
          have y2 : (rn : Int) ≤ 126 := by omega
          have y3 : ((rn : Int) != 34) = true := by rw [bne_iff_ne]; omega
          have y4 : ((rn : Int) != 92) = true := by rw [bne_iff_ne]; omega
          have hcat : acc.length + rb.size ≤ 9223372036854775807 := by omega
          clear f4 f5 hst hnext r0 r1 r2 hp hacc hle hbr hzl hf
          go_wp2_with fail
          refine ⟨⟨k + 1, by go_num, by rw [HN.out, HF.out, str_app2], by omega, St.alloc_ HST.out _⟩, ?_⟩
          simp [intOf]; omega
        · have hf := f5 (by
            cases h : plainC rn with
            | false => rfl
            | true =>
              exfalso
              apply hpl
              simp [plainC] at h
              omega)
          have HF := Lib.hid hf
          have hd := hst.alloc (.cells #[.int .i64 rn, .string rb, .bool false] 99)
          have k1 := digits_any rn (by omega) hd
          have n1 := hexD_ten rn (by omega)
          generalize hexD rn = d1 at *
          have K1 := Lib.hid k1
          have z1 : ¬ (9223372036854775807 < 3 + d1.length) := by omega
          have z2 : ¬ (9223372036854775807 < 3 + d1.length + 1) := by omega
          have z3 : ¬ (9223372036854775807 < acc.length + (3 + d1.length + 1)) := by omega
          have hcs : rn < 32 ∨ 126 < rn ∨ rn = 34 ∨ rn = 92 := by omega
          clear f4 f5 hst hnext r0 r1 r2 hp hacc hle hbr hzl hf k1 hd hpl
          rcases hcs with hc | hc | hc | hc
          · have q1 : (rn : Int) < 32 := by omega
            clear hc
            go_wp2_with fail
            refine K1.out.mono ?_
            rintro e w2 ⟨rfl, h2⟩
            have H4 := Lib.hid h2
            clear h2 K1
            go_wp2_with fail
            refine ⟨⟨k + 1, by go_num, by rw [HN.out, HF.out]; exact congrArg Value.string (by simp only [← str_app2]), by omega, St.weaken (A := [_]) H4.out⟩, ?_⟩
            simp [intOf]; omega
          · have q1 : (32 : Int) ≤ (rn : Int) := by omega
            have q2 : (126 : Int) < (rn : Int) := by omega
            clear hc
            go_wp2_with fail
            refine K1.out.mono ?_
            rintro e w2 ⟨rfl, h2⟩
            have H4 := Lib.hid h2
            clear h2 K1
            go_wp2_with fail
            refine ⟨⟨k + 1, by go_num, by rw [HN.out, HF.out]; exact congrArg Value.string (by simp only [← str_app2]), by omega, St.weaken (A := [_]) H4.out⟩, ?_⟩
            simp [intOf]; omega
          · have q1 : (32 : Int) ≤ (rn : Int) := by omega
            have q2 : (rn : Int) ≤ 126 := by omega
            have q3 : ((rn : Int) != 34) = false := by rw [hc]; rfl
            clear hc
            go_wp2_with fail
            refine K1.out.mono ?_
            rintro e w2 ⟨rfl, h2⟩
            have H4 := Lib.hid h2
            clear h2 K1
            go_wp2_with fail
            refine ⟨⟨k + 1, by go_num, by rw [HN.out, HF.out]; exact congrArg Value.string (by simp only [← str_app2]), by omega, St.weaken (A := [_]) H4.out⟩, ?_⟩
            simp [intOf]; omega
          · have q1 : (32 : Int) ≤ (rn : Int) := by omega
            have q2 : (rn : Int) ≤ 126 := by omega
            have q3 : ((rn : Int) != 34) = true := by rw [hc]; rfl
            have q4 : ((rn : Int) != 92) = false := by rw [hc]; rfl
            clear hc
            go_wp2_with fail
            refine K1.out.mono ?_
            rintro e w2 ⟨rfl, h2⟩
            have H4 := Lib.hid h2
            clear h2 K1
            go_wp2_with fail
            refine ⟨⟨k + 1, by go_num, by rw [HN.out, HF.out]; exact congrArg Value.string (by simp only [← str_app2]), by omega, St.weaken (A := [_]) H4.out⟩, ?_⟩
            simp [intOf]; omega
    · obtain rfl : k = l.length := by omega
      rw [List.take_length]
      have HST := Lib.hid hst
      have hR' := HR.out
      have HR' := Lib.hid hR'
      have HLE := Lib.hid hle
      clear hst hR' hle
      go_wp2_with fail
      go_ret
      exact ⟨by rw [HR'.out]; rfl, HST.out.less HLE.out⟩
end
end Go.Proofs.YtfbffmckmchbbaaDoor
