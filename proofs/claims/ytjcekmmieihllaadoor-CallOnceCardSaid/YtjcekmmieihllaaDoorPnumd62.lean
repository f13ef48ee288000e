/- strconv.ParseUint: walks. -/
import Derived.Test.YtjcekmmieihllaaDoorNumA
import Derived.Lib.IfaceEq
import Derived.Lib.ConvBytes
import Derived.Laws.Strings3
import Derived.Laws.Closers25
import Derived.Laws.Closers25b
import Derived.BigGuard
namespace Go.Proofs.YtjcekmmieihllaaDoor
set_option linter.unusedVariables false
set_option linter.unusedSimpArgs false
open Go.RowKit Go.Lib Go.Shelf

section
variable {W w : World} {I : Nat → Option Obj} {F : List (Nat × Obj)}

set_option maxHeartbeats 32000000 in
set_option maxRecDepth 100000 in
theorem pin_d62 (s : ByteArray) (hmax : s.size ≤ 1000000000) (h : St W w I F) :
    Calls Tryd.prog 76 #[.string s, .int .i64 10, .int .i64 62] w (PinPost W I F (pN 10 4611686018427387903 s.data.toList)) := by
  by_cases hne : s.size = 0
  · have hl : s.data.toList = [] := List.eq_nil_of_length_eq_zero (by rw [Array.length_toList]; exact hne)
    have hr : pN 10 4611686018427387903 s.data.toList = none := by rw [hl]; rfl
    have hemp : s.toList.isEmpty = true := by
      rw [← decide_eq_emptyBytes]
      exact decide_eq_true (by apply ByteArray.ext; exact Array.toList_inj.1 (by rw [hl]; rfl))
    rw [hr]
    have H := Lib.hid h
    clear h hl hr
    go_enter Tryd.func76, Tryd.ntmps76
    go_wp2_with fail
    go_ret2
    exact ⟨H.out, _, _, rfl, .inl rfl⟩
  have hemp : s.toList.isEmpty = false := by
    rw [← decide_eq_emptyBytes]
    exact decide_eq_false (fun h => hne (by rw [h]; rfl))
  have hcv := Lib.run_convert_string_bytes (P := Tryd.prog) w 9 104 5 s (u := .string) Tryd.underlying9 Tryd.underlying104 Tryd.underlying5
  have hB : ∀ j, j < s.size → (Lib.bytesWorld w 5 s).cell? ⟨w.heap.size, j, none⟩ = some (.int .u8 (s.data.toList.getD j 0).toNat) := fun j hj => Lib.bytesWorld_cell w 5 s j hj
  have h1 := St.conv0 h 5 s
  obtain ⟨W1, hW1⟩ : ∃ W1, W1 = Lib.bytesWorld w 5 s := ⟨_, rfl⟩
  rw [← hW1] at hcv hB h1
  clear hW1 h
  obtain ⟨bs, hL⟩ : ∃ bs, bs = s.data.toList := ⟨_, rfl⟩
  have hLn : bs.length = s.size := by rw [hL, Lib.size_eq]
  rw [← hL] at hB ⊢
  clear hL
  have hpn : pN 10 4611686018427387903 bs = pU 10 4611686018427387903 0 bs := by rw [pN, if_neg (fun h2 => hne (by rw [← hLn, h2]; rfl))]
  rw [hpn]
  have H1 := Lib.hid h1
  clear h1 hpn
  have hmv : IntKind.u64.wrap (IntKind.u64.wrap 4611686018427387904 - 1) = 4611686018427387903 := by
    rw [IntKind.wrap_u64, IntKind.wrap_u64]
    decide
  obtain ⟨R, hR⟩ : ∃ R, pU 10 4611686018427387903 0 bs = R := ⟨_, rfl⟩
  rw [hR]
  have HR := Lib.hid hR
  clear hR
  go_enter Tryd.func76, Tryd.ntmps76
  go_wp2_with fail
  go_loop [12, 13, 101] (fun vu vn vi => ∃ (k acc : Nat) (a : Int), vu = .bool false ∧ vn = .int .u64 a ∧ vi = .int .i64 k ∧ k ≤ s.size ∧ Hid (a = (acc : Int) ∧ acc ≤ 4611686018427387903 ∧ R = pU 10 4611686018427387903 acc (bs.drop k)))
    (fun _ _ vi => s.size - (intOf vi).toNat)
  case atStart => exact ⟨0, 0, 0, rfl, rfl, rfl, by omega, rfl, by omega, HR.out.symm⟩
  case round =>
    obtain ⟨k, acc, a, rfl, rfl, rfl, hk, hh⟩ := hrel
    obtain ⟨ha, hacc, hdec⟩ := hh.out
    clear hh
    have a0 : 0 ≤ a := by omega
    have a1 : a ≤ 4611686018427387903 := by omega
    by_cases hkn : k < s.size
    · have hc := hB k hkn
      have hdrop : bs.drop k = bs[k]'(by omega) :: bs.drop (k + 1) := List.drop_eq_getElem_cons (by omega)
      have hget : bs.getD k 0 = bs[k]'(by omega) := by simp [List.getD, List.getElem?_eq_getElem (show k < bs.length by omega)]
      rw [hdrop] at hdec
      rw [hget] at hc
      generalize bs[k]'(by omega) = c at hc hdec
      have hc256 : c.toNat < 256 := c.toNat_lt
      clear hB hdrop hget
      by_cases hdig : 48 ≤ c.toNat ∧ c.toNat ≤ 57
      · obtain ⟨hd0, hd1⟩ := hdig
        have hdv : dgv c = c.toNat - 48 := by unfold dgv; rw [if_pos ⟨hd0, hd1⟩]
        by_cases hcut : 1844674407370955162 ≤ acc
        · have hF : pU 10 4611686018427387903 acc (c :: bs.drop (k + 1)) = none := by simp only [pU, hdv]; rw [if_neg (by omega), if_pos (by omega)]
          rw [hF] at hdec
          subst hdec
          have icut : 1844674407370955162 ≤ a := by omega
          clear hcut hacc hF ha hdv HR
          go_wp2_with fail
          go_ret2
          exact ⟨H1.out, _, _, rfl, .inr rfl⟩
        by_cases hwo : 18446744073709551616 ≤ acc * 10 + (c.toNat - 48)
        · have hF : pU 10 4611686018427387903 acc (c :: bs.drop (k + 1)) = none := by simp only [pU, hdv]; rw [if_neg (by omega), if_pos (by omega)]
          rw [hF] at hdec
          subst hdec
          have icut : a < 1844674407370955162 := by omega
          have iov : 18446744073709551616 ≤ a * 10 + ((c.toNat : Int) - 48) := by omega
          have hwr : IntKind.u64.wrap (a * 10 + ((c.toNat : Int) - 48)) = a * 10 + ((c.toNat : Int) - 48) - 18446744073709551616 := by
            rw [IntKind.wrap_u64]
            omega
          clear hcut hacc hF hwo ha hdv HR
          go_wp2_with fail
          go_ret2
          exact ⟨H1.out, _, _, rfl, .inr rfl⟩
        by_cases hov : 4611686018427387903 < acc * 10 + (c.toNat - 48)
        · have hF : pU 10 4611686018427387903 acc (c :: bs.drop (k + 1)) = none := by simp only [pU, hdv]; rw [if_neg (by omega), if_pos (by omega)]
          rw [hF] at hdec
          subst hdec
          have icut : a < 1844674407370955162 := by omega
          have iov : 4611686018427387903 < a * 10 + ((c.toNat : Int) - 48) := by omega
          have iwo : a * 10 + ((c.toNat : Int) - 48) < 18446744073709551616 := by omega
          clear hcut hwo hacc hF hov ha hdv HR
          go_wp2_with fail
          go_ret2
          exact ⟨H1.out, _, _, rfl, .inr rfl⟩
        have hF : pU 10 4611686018427387903 acc (c :: bs.drop (k + 1)) = pU 10 4611686018427387903 (acc * 10 + (c.toNat - 48)) (bs.drop (k + 1)) := by rw [pU, hdv, if_neg (by omega), if_neg (by omega)]
        have HN : Hid (a * 10 + ((c.toNat : Int) - 48) = ((acc * 10 + (c.toNat - 48) : Nat) : Int) ∧ acc * 10 + (c.toNat - 48) ≤ 4611686018427387903 ∧ R = pU 10 4611686018427387903 (acc * 10 + (c.toNat - 48)) (bs.drop (k + 1))) := Lib.hid ⟨by omega, by omega, hdec.trans hF⟩
        have icut : a < 1844674407370955162 := by omega
        have iov : a * 10 + ((c.toNat : Int) - 48) ≤ 4611686018427387903 := by omega
        clear hcut hwo hacc hF hov hdec ha hdv HR
        go_wp2_with fail
        refine ⟨⟨k + 1, acc * 10 + (c.toNat - 48), a * 10 + ((c.toNat : Int) - 48), rfl, (by first | rfl | (congr 1; omega)), (by first | rfl | (congr 1; omega)), by omega, HN⟩, by simp [intOf]; omega⟩
      · by_cases h95 : c = 95
        · subst h95
          have hF : pU 10 4611686018427387903 acc (95 :: bs.drop (k + 1)) = none := by simp only [pU]; rw [if_pos (by decide)]
          rw [hF] at hdec
          subst hdec
          have k95 : ∀ w, Calls Tryd.prog 94 #[.int .u8 95] w fun e w' => e = .returned (.int .u8 127) ∧ w = w' := fun w => by
            have h := lower_any 95 w
            rw [show ((95 : UInt8).toNat : Int) = 95 by decide, show ((lowN 95 : Nat) : Int) = 127 by decide] at h
            exact h
          have K95 := Lib.hid k95
          have hc : W1.cell? ⟨w.heap.size, k, none⟩ = some (.int .u8 95) := hc
          clear hacc hF ha HR hdig k95 hc256
          go_wp2_with (go_at_call 94; refine (K95.out _).mono ?_; rintro e w9 ⟨rfl, rfl⟩)
          go_ret2
          exact ⟨H1.out, _, _, rfl, .inl rfl⟩
        have h95' : ((c.toNat : Int) == 95) = false := beq_eq_false_iff_ne.2 (fun h => h95 (UInt8.toNat_inj.1 (by rw [show (95 : UInt8).toNat = 95 from rfl]; omega)))
        clear h95
        obtain ⟨hl256, hlf, -⟩ := lowN_facts c
        obtain ⟨hl1, hl2⟩ := hlf hdig
        have hd2 : (c.toNat : Int) < 48 ∨ (57 : Int) < c.toNat := by omega
        obtain ⟨lc, hlc⟩ : ∃ lc, lowN c = lc := ⟨_, rfl⟩
        have kL := fun w => lower_any c w
        rw [hlc] at hl256 hl1 hl2 kL
        have KL := Lib.hid kL
        clear kL hlc hlf
        by_cases hlet : 97 ≤ lc ∧ lc ≤ 122
        · have hdv := hl1 hlet
          obtain ⟨q1, q2⟩ := hlet
          clear hl1 hl2
          rcases hd2 with hd2 | hd2
          all_goals
            have hF : pU 10 4611686018427387903 acc (c :: bs.drop (k + 1)) = none := by simp only [pU, hdv]; rw [if_pos (by omega)]
            rw [hF] at hdec
            subst hdec
            clear hacc hF ha hdv HR hdig
            go_wp2_with (go_at_call 94; refine (KL.out _).mono ?_; rintro e w9 ⟨rfl, rfl⟩)
            go_ret2
            exact ⟨H1.out, _, _, rfl, .inl rfl⟩
        · have hdv := hl2 hlet
          have hF : pU 10 4611686018427387903 acc (c :: bs.drop (k + 1)) = none := by simp only [pU, hdv]; rw [if_pos (by omega)]
          rw [hF] at hdec
          subst hdec
          have hl3 : (lc : Int) < 97 ∨ (122 : Int) < lc := by omega
          clear hl1 hl2 hacc hF ha hdv HR hdig hlet
          rcases hl3 with hl3 | hl3
          all_goals
            rcases hd2 with hd2 | hd2
            all_goals
              go_wp2_with (go_at_call 94; refine (KL.out _).mono ?_; rintro e w9 ⟨rfl, rfl⟩)
              go_ret2
              exact ⟨H1.out, _, _, rfl, .inl rfl⟩
    · have hkk : k = s.size := by omega
      subst hkk
      have hF : pU 10 4611686018427387903 acc (bs.drop s.size) = some acc := by rw [List.drop_eq_nil_of_le (by omega)]; rfl
      rw [hF] at hdec
      subst hdec
      subst ha
      clear hacc hF a0 a1 HR
      go_wp2_with fail
      go_ret2
      exact ⟨H1.out, rfl⟩
end
end Go.Proofs.YtjcekmmieihllaaDoor
