/- The document's Show: walk. -/
import Derived.Test.YtjcekmmieihllaaDoorRname
import Derived.Test.YtjcekmmieihllaaDoorTxC
import Derived.Test.YtjcekmmieihllaaDoorTxB
namespace Go.Proofs.YtjcekmmieihllaaDoor
set_option linter.unusedVariables false
set_option linter.unusedSimpArgs false
open Go.RowKit Go.Lib

theorem sl_mk (l : List UInt8) : sL (⟨l.toArray⟩ : ByteArray) = l := by simp [sL]
theorem show_plain (s : ByteArray) (p : Nat) (hp : p < s.size) (hb : brokenAt s p = false) (hpl : plainC (Utf8.decode s p).1 = true) : refBytes s p = ⟨(showPiece s p).toArray⟩ := by
  have hc : 32 ≤ (Utf8.decode s p).1 ∧ (Utf8.decode s p).1 ≤ 126 := by
    simp [plainC] at hpl
    omega
  have h1 := (byte_text s p hp hb (UInt8.ofNat (Utf8.decode s p).1) (by rw [UInt8.toNat_ofNat']; omega)).2 (by rw [UInt8.toNat_ofNat']; omega)
  have h2 : showPiece s p = [UInt8.ofNat (Utf8.decode s p).1] := by
    rw [showPiece, hb, hpl]
    generalize (Utf8.decode s p).1 = c at *
    have : ∀ c : Nat, c < 127 → Lib.encodeRune (c : Int) = [UInt8.ofNat c] := by decide
    exact this c (by omega)
  rw [h2]
  apply ByteArray.ext
  rw [ByteArray.toList_eq] at h1
  rw [← h1, Array.toArray_toList]
theorem show_broken (s : ByteArray) (p : Nat) (hb : brokenAt s p = true) : showPiece s p = ([92, 120] ++ hexD ((s.get! p).toNat / 16)) ++ hexD ((s.get! p).toNat % 16) := by
  have hx := (s.get! p).toNat_lt
  rw [showPiece, hb, if_pos rfl, hexD_lt (by omega), hexD_lt (by omega)]
  rfl
theorem show_else (s : ByteArray) (p : Nat) (hb : brokenAt s p = false) (hpl : plainC (Utf8.decode s p).1 = false) : showPiece s p = ([92, 117, 123] ++ hexD (Utf8.decode s p).1) ++ [125] := by
  rw [showPiece, hb, hpl]
  rfl

set_option maxRecDepth 100000 in
set_option maxHeartbeats 4000000 in
theorem rshow_any {W w : World} {I : Nat → Option Obj} {L : List (Nat × Obj)} (t : TB W I) (s : ByteArray) (hm : s.size ≤ 1000000000) (h : St W w I L) :
    Calls Tryd.prog 37 #[.string s] w fun e w' => e = .returned (.string ⟨(showOf s).toArray⟩) ∧ St W w' I L := by
  have cR := runes_any s hm h
  have hzl := runesOf_lt s
  have hln := runesOf_len s
  obtain ⟨R, hR⟩ : ∃ R : ByteArray, R = ⟨(showOf s).toArray⟩ := ⟨_, rfl⟩
  rw [← hR]
  have hfd : showOf s = (runesOf s).flatMap (showPiece s) := rfl
  rw [hfd] at hR
  generalize runesOf s = l at *
  have HR := Lib.hid hR; have CR := Lib.hid cR
  clear hR cR h hfd
  go_enter Tryd.func37, Tryd.ntmps37
  go_wp2_with fail
  refine CR.out.mono ?_
  rintro e w1 ⟨A, c, L', rfl, hrow, h1⟩
  obtain ⟨J, hle, h2, hrin⟩ := runes_freeze hrow h1
  have H2 := Lib.hid h2; have HRIN := Lib.hid hrin
  have T := Lib.hid (t.more hle)
  clear hrow h1 h2 CR t hrin
  go_wp2_with fail
  go_loopw [3, 9] (fun v i wr => ∃ k : Nat, i = .int .i64 k ∧ v = .string ⟨((l.take k).flatMap (showPiece s)).toArray⟩ ∧ k ≤ l.length ∧ St W wr J L) (fun _ i _ => l.length - (intOf i).toNat)
  case atStart => exact ⟨0, rfl, by simp, by omega, H2.out⟩
  case round =>
    obtain ⟨k, rfl, rfl, hk, hst⟩ := hrel
    clear H2
    by_cases hkl : k < l.length
    · obtain ⟨p, hp⟩ : ∃ p, l[k]? = some p := ⟨_, List.getElem?_eq_getElem hkl⟩
      obtain ⟨b, off, rfl, r0, r1, r2⟩ := HRIN.out k p hp
      have hps := hzl p (List.mem_of_getElem? hp)
      have q0 := hst.ro r0
      have q1 := hst.ro r1
      have q2 := hst.ro r2
      have hnext : (l.take (k + 1)).flatMap (showPiece s) = (l.take k).flatMap (showPiece s) ++ showPiece s p := by rw [List.take_add_one, hp]; simp
      have hrl := Lib.rune_le s p
      have hal := showPieces_len s (l.take k)
      have hkl2 : (l.take k).length ≤ 1000000000 := by simp; omega
      have hrbs : (refBytes s p).size ≤ 1000000000 := by unfold refBytes; rw [ByteArray.size_extract]; omega
      have b256 := (s.get! p).toNat_lt
      have f1 := show_plain s p hps
      have f2 := show_broken s p
      have f3 := show_else s p
      have g1 : brokenAt s p = true → refNumber s p = (s.get! p).toNat := fun h => by unfold refNumber; rw [h]; rfl
      have g2 : brokenAt s p = false → refNumber s p = (Utf8.decode s p).1 := fun h => by unfold refNumber; rw [h]; rfl
      obtain ⟨acc, hacc⟩ : ∃ acc, (l.take k).flatMap (showPiece s) = acc := ⟨_, rfl⟩
      rw [hacc] at hnext hal ⊢
      generalize showPiece s p = fp at *
      generalize refBytes s p = rb at *
      generalize refNumber s p = rn at *
      generalize (Utf8.decode s p).1 = dn at *
      generalize (s.get! p).toNat = bn at *
      have HN := Lib.hid hnext; have HST := Lib.hid hst; have HLE := Lib.hid hle
      cases hbr : brokenAt s p with
      | true =>
        rw [hbr] at q2
        obtain rfl := g1 hbr
        have hf := f2 hbr
        have HF := Lib.hid hf
        have hd := (hst.alloc (.cells #[.int .i64 rn, .string rb, .bool true] 101)).drew1
        have hm : (wr.heap.size, Obj.cells #[.int .i64 rn, .string rb, .bool true] 101 (0, 0)) ∈ (wr.heap.size, Obj.cells #[.int .i64 rn, .string rb, .bool true] 101 (0, 0)) :: L := by simp
        have x0 : (wr.alloc (.cells #[.int .i64 rn, .string rb, .bool true] 101)).drew.cell? ⟨wr.heap.size, 0, none⟩ = some (.int .i64 rn) := (hd.cell hm 0)
        have hcell := fun (w' : World) (h' : St W w' J ((wr.heap.size, Obj.cells #[.int .i64 rn, .string rb, .bool true] 101 (0, 0)) :: L)) => (h'.cell hm 0)
        have k1 := digits_any (rn / 16) (by omega) hd
        have k2 := fun (w' : World) (h' : St W w' J ((wr.heap.size, Obj.cells #[.int .i64 rn, .string rb, .bool true] 101 (0, 0)) :: L)) => digits_any (rn % 16) (by omega) h'
        have n1 := hexD_ten (rn / 16) (by omega)
        have n2 := hexD_ten (rn % 16) (by omega)
        generalize hexD (rn / 16) = d1 at *
        generalize hexD (rn % 16) = d2 at *
        rw [show ((rn / 16 : Nat) : Int) = (rn : Int) / 16 by omega] at k1
        rw [show ((rn % 16 : Nat) : Int) = (rn : Int) % 16 by omega] at k2
        have K1 := Lib.hid k1; have K2 := Lib.hid k2; have HC := Lib.hid hcell
        clear f1 f2 f3 g1 g2 hst hnext r0 r1 r2 hp hacc hle hbr hzl k1 k2 hf hcell hd hm
        go_wp2_with fail
        have wq : IntKind.i64.wrap ((rn : Int) / 16) = (rn : Int) / 16 := by rw [IntKind.wrap_i64]; omega
        have wm : IntKind.i64.wrap ((rn : Int) % 16) = (rn : Int) % 16 := by rw [IntKind.wrap_i64]; omega
        have wt : (rn : Int).tmod 16 = (rn : Int) % 16 := by rw [Int.tmod_eq_emod_of_nonneg (by omega)]
        have z1 : ¬ (9223372036854775807 < 2 + d1.length) := by omega
        have z2 : ¬ (9223372036854775807 < 2 + d1.length + d2.length) := by omega
        have z3 : ¬ (9223372036854775807 < acc.length + (2 + d1.length + d2.length)) := by omega
        go_region_law (go_simp; go_at_call 60; first | (with_reducible refine K1.out.mono ?_; rintro e w2 ⟨rfl, h2⟩; have x2 := HC.out _ h2; have H3 := Lib.hid h2; clear h2; dsimp only) | (with_reducible refine (K2.out _ H3.out).mono ?_; rintro e w3 ⟨rfl, h3⟩; have H4 := Lib.hid h3; clear h3; dsimp only))
        all_goals
          go_wp2_with fail
          refine ⟨⟨k + 1, by go_num, by rw [HN.out, HF.out]; exact congrArg Value.string (by simp only [← str_app2]), by omega, St.weaken (A := [_]) H4.out⟩, ?_⟩
          simp [intOf]; omega
      | false =>
        rw [hbr] at q2
        obtain rfl := g2 hbr
        have f4 := f1 hbr
        have f5 := f3 hbr
        clear f1 f2 f3 g1 g2
        by_cases hpl : 32 ≤ rn ∧ rn ≤ 126 ∧ rn ≠ 34 ∧ rn ≠ 92
        · obtain ⟨p1, p2, p3, p4⟩ := hpl
          have hf := f4 (by simp [plainC, p1, p2, p3, p4])
          have HF := Lib.hid hf
          have y1 : (32 : Int) ≤ (rn : Int) := by omega
          have y2 : (rn : Int) ≤ 126 := by omega
          have y3 : ((rn : Int) != 34) = true := by rw [bne_iff_ne]; omega
          have y4 : ((rn : Int) != 92) = true := by rw [bne_iff_ne]; omega
          have hcat : acc.length + rb.size ≤ 9223372036854775807 := by omega
          clear f4 f5 hst hnext r0 r1 r2 hp hacc hle hbr hzl hf
          go_wp2_with fail
          refine ⟨⟨k + 1, by go_num, by rw [HN.out, HF.out, str_app2], by omega, St.alloc_ HST.out _⟩, ?_⟩
          simp [intOf]; omega
        · have hf := f5 (by
            cases h : plainC rn with
            | false => rfl
            | true =>
              exfalso
              apply hpl
              simp [plainC] at h
              omega)
          have HF := Lib.hid hf
          have hd := hst.alloc (.cells #[.int .i64 rn, .string rb, .bool false] 101)
          have k1 := digits_any rn (by omega) hd
          have n1 := hexD_ten rn (by omega)
          generalize hexD rn = d1 at *
          have K1 := Lib.hid k1
          have z1 : ¬ (9223372036854775807 < 3 + d1.length) := by omega
          have z2 : ¬ (9223372036854775807 < 3 + d1.length + 1) := by omega
          have z3 : ¬ (9223372036854775807 < acc.length + (3 + d1.length + 1)) := by omega
          have hcs : rn < 32 ∨ 126 < rn ∨ rn = 34 ∨ rn = 92 := by omega
          clear f4 f5 hst hnext r0 r1 r2 hp hacc hle hbr hzl hf k1 hd hpl
          rcases hcs with hc | hc | hc | hc
          · have q1 : (rn : Int) < 32 := by omega
            clear hc
            go_wp2_with fail
            refine K1.out.mono ?_
            rintro e w2 ⟨rfl, h2⟩
            have H4 := Lib.hid h2
            clear h2 K1
            go_wp2_with fail
            refine ⟨⟨k + 1, by go_num, by rw [HN.out, HF.out]; exact congrArg Value.string (by simp only [← str_app2]), by omega, St.weaken (A := [_]) H4.out⟩, ?_⟩
            simp [intOf]; omega
          · have q1 : (32 : Int) ≤ (rn : Int) := by omega
            have q2 : (126 : Int) < (rn : Int) := by omega
            clear hc
            go_wp2_with fail
            refine K1.out.mono ?_
            rintro e w2 ⟨rfl, h2⟩
            have H4 := Lib.hid h2
            clear h2 K1
            go_wp2_with fail
            refine ⟨⟨k + 1, by go_num, by rw [HN.out, HF.out]; exact congrArg Value.string (by simp only [← str_app2]), by omega, St.weaken (A := [_]) H4.out⟩, ?_⟩
            simp [intOf]; omega
          · have q1 : (32 : Int) ≤ (rn : Int) := by omega
            have q2 : (rn : Int) ≤ 126 := by omega
            have q3 : ((rn : Int) != 34) = false := by rw [hc]; rfl
            clear hc
            go_wp2_with fail
            refine K1.out.mono ?_
            rintro e w2 ⟨rfl, h2⟩
            have H4 := Lib.hid h2
            clear h2 K1
            go_wp2_with fail
            refine ⟨⟨k + 1, by go_num, by rw [HN.out, HF.out]; exact congrArg Value.string (by simp only [← str_app2]), by omega, St.weaken (A := [_]) H4.out⟩, ?_⟩
            simp [intOf]; omega
          · have q1 : (32 : Int) ≤ (rn : Int) := by omega
            have q2 : (rn : Int) ≤ 126 := by omega
            have q3 : ((rn : Int) != 34) = true := by rw [hc]; rfl
            have q4 : ((rn : Int) != 92) = false := by rw [hc]; rfl
            clear hc
            go_wp2_with fail
            refine K1.out.mono ?_
            rintro e w2 ⟨rfl, h2⟩
            have H4 := Lib.hid h2
            clear h2 K1
            go_wp2_with fail
            refine ⟨⟨k + 1, by go_num, by rw [HN.out, HF.out]; exact congrArg Value.string (by simp only [← str_app2]), by omega, St.weaken (A := [_]) H4.out⟩, ?_⟩
            simp [intOf]; omega
    · obtain rfl : k = l.length := by omega
      rw [List.take_length]
      have HST := Lib.hid hst
      have hR' := HR.out
      have HR' := Lib.hid hR'
      have HLE := Lib.hid hle
      clear hst hR' hle
      go_wp2_with fail
      go_ret
      exact ⟨by rw [HR'.out]; rfl, HST.out.less HLE.out⟩
end Go.Proofs.YtjcekmmieihllaaDoor
