/- strconv: FormatInt at base 16: walks. strconv: formatBits at base 16: walk. glyph.Show: walk. -/
import Derived.Test.YtjcekmmieihllaaDoorTxA
import Derived.Deep.RegionLaw
namespace Go.Proofs.YtjcekmmieihllaaDoor
section
set_option linter.unusedVariables false
set_option linter.unusedSimpArgs false
open Go.RowKit Go.Lib Go.Shelf Go.Sort

/-- A number in digits to sixteen. -/
def hexD (n : Nat) : List UInt8 := if h : n < 16 then [hexd n] else hexD (n / 16) ++ [hexd (n % 16)]
termination_by n
decreasing_by omega
theorem hexD_lt {n : Nat} (h : n < 16) : hexD n = [hexd n] := by rw [hexD, dif_pos h]
theorem hexD_ge {n : Nat} (h : ¬ n < 16) : hexD n = hexD (n / 16) ++ [hexd (n % 16)] := by rw [hexD, dif_neg h]
theorem hexD_pos (n : Nat) : 1 ≤ (hexD n).length := by
  by_cases h : n < 16
  · rw [hexD_lt h]; simp
  · rw [hexD_ge h]; simp
theorem hexD_len : ∀ (k n : Nat), 1 ≤ k → n < 16 ^ k → (hexD n).length ≤ k
  | 0, n, h, _ => by omega
  | k + 1, n, _, h => by
    by_cases h16 : n < 16
    · rw [hexD_lt h16]; simp
    · rw [hexD_ge h16, List.length_append, List.length_singleton]
      have hk : 1 ≤ k := by
        rcases Nat.eq_zero_or_pos k with h0 | h0
        · subst h0; simp at h; omega
        · exact h0
      have := hexD_len k (n / 16) hk (by rw [Nat.pow_succ] at h; omega)
      omega

section
variable {W w : World} {I : Nat → Option Obj} {F : List (Nat × Obj)}
theorem pow_two (w : World) : Calls Tryd.prog 106 #[.int .i64 16] w fun e w' => e = .returned (.bool true) ∧ w = w' := by
  have h1 : bits .and .i64 16 15 = 0 := by kernel_rfl
  go_enter Tryd.func106, Tryd.ntmps106
  go_wp2_with fail
  go_ret
  exact ⟨rfl, rfl⟩
theorem tz64 (w : World) (ht : w.cell? ⟨14, 15, none⟩ = some (.int .u8 4)) : Calls Tryd.prog 113 #[.int .u64 16] w fun e w' => e = .returned (.int .i64 4) ∧ w = w' := by
  have h0 : IntKind.u64.wrap (-16) = 18446744073709551600 := by kernel_rfl
  have h1 : bits .and .u64 16 18446744073709551600 = 16 := by kernel_rfl
  have h2 : IntKind.u64.wrap 4573923408821661840 = 4573923408821661840 := by kernel_rfl
  go_enter Tryd.func113, Tryd.ntmps113
  go_wp2_with fail
  go_ret
  exact ⟨rfl, rfl⟩
theorem tz16 (w : World) (ht : w.cell? ⟨14, 15, none⟩ = some (.int .u8 4)) : Calls Tryd.prog 107 #[.int .u64 16] w fun e w' => e = .returned (.int .i64 4) ∧ w = w' := by
  have k := tz64 w ht
  go_enter Tryd.func107, Tryd.ntmps107
  go_wp2_with (go_at_call 113; refine k.mono ?_; rintro e w' ⟨rfl, rfl⟩)
  go_ret
  exact ⟨rfl, rfl⟩
end
end

section
set_option linter.unusedVariables false
set_option linter.unusedSimpArgs false
open Go.RowKit Go.Lib Go.Shelf Go.Sort

theorem ix36 : ∀ (n : Nat) (_ : n < 16) (w : World), (Instr.index 9 (.string ⟨#[48, 49, 50, 51, 52, 53, 54, 55, 56, 57, 97, 98, 99, 100, 101, 102, 103, 104, 105, 106, 107, 108, 109, 110, 111, 112, 113, 114, 115, 116, 117, 118, 119, 120, 121, 122]⟩) (.int .u64 (n : Int))).run Tryd.prog w = .ok (.int .u8 ((hexd n).toNat : Int)) w
  | n, h, w => by
    have : ∀ (n : Nat), n < 16 → (#[48, 49, 50, 51, 52, 53, 54, 55, 56, 57, 97, 98, 99, 100, 101, 102, 103, 104, 105, 106, 107, 108, 109, 110, 111, 112, 113, 114, 115, 116, 117, 118, 119, 120, 121, 122] : Array UInt8)[n]? = some (hexd n) := by decide
    have h2 := this n h
    have h3 : (0 : Int) ≤ n := by omega
    have h4 : (if (0 : Int) ≤ (n : Int) then (⟨#[48, 49, 50, 51, 52, 53, 54, 55, 56, 57, 97, 98, 99, 100, 101, 102, 103, 104, 105, 106, 107, 108, 109, 110, 111, 112, 113, 114, 115, 116, 117, 118, 119, 120, 121, 122]⟩ : ByteArray)[((n : Int)).toNat]? else none) = some (hexd n) := by
      rw [if_pos h3, Int.toNat_natCast]
      exact (getElem?_pos (⟨#[48, 49, 50, 51, 52, 53, 54, 55, 56, 57, 97, 98, 99, 100, 101, 102, 103, 104, 105, 106, 107, 108, 109, 110, 111, 112, 113, 114, 115, 116, 117, 118, 119, 120, 121, 122]⟩ : ByteArray) n (by simp [ByteArray.size]; omega)).trans (by
        rw [getElem?_pos (#[48, 49, 50, 51, 52, 53, 54, 55, 56, 57, 97, 98, 99, 100, 101, 102, 103, 104, 105, 106, 107, 108, 109, 110, 111, 112, 113, 114, 115, 116, 117, 118, 119, 120, 121, 122] : Array UInt8) n (by simp; omega)] at h2
        exact h2)
    simp only [Instr.index, asIntOf, Sem.run_bind, Sem.run_pure, Result.andThen_ok, run_underlying Tryd.underlying9, h4]
theorem u64_low4 (v : Nat) (h : v < 18446744073709551616) : bits .and .u64 (v : Int) 15 = ((v % 16 : Nat) : Int) := by
  refine (u64_and_nat v 15 h (by omega)).trans ?_
  rw [show (15 : Nat) = 2 ^ 4 - 1 from rfl, Nat.and_two_pow_sub_one_eq_mod]
def hxC (i : Nat) (done : List UInt8) : Array Value := (List.replicate i (Value.int .u8 0) ++ done.map bval).toArray
theorem hxC_set (i : Nat) (done : List UInt8) (b : UInt8) : (hxC (i + 1) done).setIfInBounds i (.int .u8 (b.toNat : Int)) = hxC i (b :: done) := by
  unfold hxC
  apply Array.toList_inj.1
  rw [Array.toList_setIfInBounds, List.replicate_succ']
  simp only [List.append_assoc]
  rw [List.set_append_right _ _ (by simp)]
  simp [bval]
theorem hxC_size (i : Nat) (done : List UInt8) : (hxC i done).size = i + done.length := by simp [hxC]
theorem hxC_at (i : Nat) (done : List UInt8) (j : Nat) (hj : j < done.length) : (hxC i done)[i + j]? = some (.int .u8 (done[j].toNat : Int)) := by
  unfold hxC
  rw [List.getElem?_toArray, List.getElem?_append_right (by simp)]
  simp [hj, bval]

section
variable {W w : World} {I : Nat → Option Obj} {F : List (Nat × Obj)}
set_option maxRecDepth 100000 in
set_option maxHeartbeats 4000000 in
theorem fbits (ht : roCell I ⟨14, 15, none⟩ = some (.int .u8 4)) (u : Nat) (hu : u < 4294967296) (h : St W w I F) :
    Calls Tryd.prog 91 #[.slice none 0 0, .int .u64 u, .int .i64 16, .bool false, .bool false] w fun e w' => e = .returned (.tuple #[.slice none 0 0, .string ⟨(hexD u).toArray⟩]) ∧ St W w' I F := by
  have h1 := h.alloc (.cells #[.int .u8 0, .int .u8 0, .int .u8 0, .int .u8 0, .int .u8 0, .int .u8 0, .int .u8 0, .int .u8 0, .int .u8 0, .int .u8 0, .int .u8 0, .int .u8 0, .int .u8 0, .int .u8 0, .int .u8 0, .int .u8 0, .int .u8 0, .int .u8 0, .int .u8 0, .int .u8 0, .int .u8 0, .int .u8 0, .int .u8 0, .int .u8 0, .int .u8 0, .int .u8 0, .int .u8 0, .int .u8 0, .int .u8 0, .int .u8 0, .int .u8 0, .int .u8 0, .int .u8 0, .int .u8 0, .int .u8 0, .int .u8 0, .int .u8 0, .int .u8 0, .int .u8 0, .int .u8 0, .int .u8 0, .int .u8 0, .int .u8 0, .int .u8 0, .int .u8 0, .int .u8 0, .int .u8 0, .int .u8 0, .int .u8 0, .int .u8 0, .int .u8 0, .int .u8 0, .int .u8 0, .int .u8 0, .int .u8 0, .int .u8 0, .int .u8 0, .int .u8 0, .int .u8 0, .int .u8 0, .int .u8 0, .int .u8 0, .int .u8 0, .int .u8 0, .int .u8 0] 171)
  obtain ⟨b, hb⟩ : ∃ b, w.heap.size = b := ⟨_, rfl⟩
  rw [hb] at h1
  have kP := pow_two (w.alloc (.cells #[.int .u8 0, .int .u8 0, .int .u8 0, .int .u8 0, .int .u8 0, .int .u8 0, .int .u8 0, .int .u8 0, .int .u8 0, .int .u8 0, .int .u8 0, .int .u8 0, .int .u8 0, .int .u8 0, .int .u8 0, .int .u8 0, .int .u8 0, .int .u8 0, .int .u8 0, .int .u8 0, .int .u8 0, .int .u8 0, .int .u8 0, .int .u8 0, .int .u8 0, .int .u8 0, .int .u8 0, .int .u8 0, .int .u8 0, .int .u8 0, .int .u8 0, .int .u8 0, .int .u8 0, .int .u8 0, .int .u8 0, .int .u8 0, .int .u8 0, .int .u8 0, .int .u8 0, .int .u8 0, .int .u8 0, .int .u8 0, .int .u8 0, .int .u8 0, .int .u8 0, .int .u8 0, .int .u8 0, .int .u8 0, .int .u8 0, .int .u8 0, .int .u8 0, .int .u8 0, .int .u8 0, .int .u8 0, .int .u8 0, .int .u8 0, .int .u8 0, .int .u8 0, .int .u8 0, .int .u8 0, .int .u8 0, .int .u8 0, .int .u8 0, .int .u8 0, .int .u8 0] 171))
  have kT := tz16 (w.alloc (.cells #[.int .u8 0, .int .u8 0, .int .u8 0, .int .u8 0, .int .u8 0, .int .u8 0, .int .u8 0, .int .u8 0, .int .u8 0, .int .u8 0, .int .u8 0, .int .u8 0, .int .u8 0, .int .u8 0, .int .u8 0, .int .u8 0, .int .u8 0, .int .u8 0, .int .u8 0, .int .u8 0, .int .u8 0, .int .u8 0, .int .u8 0, .int .u8 0, .int .u8 0, .int .u8 0, .int .u8 0, .int .u8 0, .int .u8 0, .int .u8 0, .int .u8 0, .int .u8 0, .int .u8 0, .int .u8 0, .int .u8 0, .int .u8 0, .int .u8 0, .int .u8 0, .int .u8 0, .int .u8 0, .int .u8 0, .int .u8 0, .int .u8 0, .int .u8 0, .int .u8 0, .int .u8 0, .int .u8 0, .int .u8 0, .int .u8 0, .int .u8 0, .int .u8 0, .int .u8 0, .int .u8 0, .int .u8 0, .int .u8 0, .int .u8 0, .int .u8 0, .int .u8 0, .int .u8 0, .int .u8 0, .int .u8 0, .int .u8 0, .int .u8 0, .int .u8 0, .int .u8 0] 171)) (h1.ro ht)
  have hz : (#[.int .u8 0, .int .u8 0, .int .u8 0, .int .u8 0, .int .u8 0, .int .u8 0, .int .u8 0, .int .u8 0, .int .u8 0, .int .u8 0, .int .u8 0, .int .u8 0, .int .u8 0, .int .u8 0, .int .u8 0, .int .u8 0, .int .u8 0, .int .u8 0, .int .u8 0, .int .u8 0, .int .u8 0, .int .u8 0, .int .u8 0, .int .u8 0, .int .u8 0, .int .u8 0, .int .u8 0, .int .u8 0, .int .u8 0, .int .u8 0, .int .u8 0, .int .u8 0, .int .u8 0, .int .u8 0, .int .u8 0, .int .u8 0, .int .u8 0, .int .u8 0, .int .u8 0, .int .u8 0, .int .u8 0, .int .u8 0, .int .u8 0, .int .u8 0, .int .u8 0, .int .u8 0, .int .u8 0, .int .u8 0, .int .u8 0, .int .u8 0, .int .u8 0, .int .u8 0, .int .u8 0, .int .u8 0, .int .u8 0, .int .u8 0, .int .u8 0, .int .u8 0, .int .u8 0, .int .u8 0, .int .u8 0, .int .u8 0, .int .u8 0, .int .u8 0, .int .u8 0] : Array Value) = hxC 65 [] := by kernel_rfl
  have hlen := hexD_len 8 u (by omega) (by omega)
  have h1 : St W (w.alloc (.cells #[.int .u8 0, .int .u8 0, .int .u8 0, .int .u8 0, .int .u8 0, .int .u8 0, .int .u8 0, .int .u8 0, .int .u8 0, .int .u8 0, .int .u8 0, .int .u8 0, .int .u8 0, .int .u8 0, .int .u8 0, .int .u8 0, .int .u8 0, .int .u8 0, .int .u8 0, .int .u8 0, .int .u8 0, .int .u8 0, .int .u8 0, .int .u8 0, .int .u8 0, .int .u8 0, .int .u8 0, .int .u8 0, .int .u8 0, .int .u8 0, .int .u8 0, .int .u8 0, .int .u8 0, .int .u8 0, .int .u8 0, .int .u8 0, .int .u8 0, .int .u8 0, .int .u8 0, .int .u8 0, .int .u8 0, .int .u8 0, .int .u8 0, .int .u8 0, .int .u8 0, .int .u8 0, .int .u8 0, .int .u8 0, .int .u8 0, .int .u8 0, .int .u8 0, .int .u8 0, .int .u8 0, .int .u8 0, .int .u8 0, .int .u8 0, .int .u8 0, .int .u8 0, .int .u8 0, .int .u8 0, .int .u8 0, .int .u8 0, .int .u8 0, .int .u8 0, .int .u8 0] 171)) I ((b, .cells (hxC 65 []) 171 (0, 0)) :: F) := by rw [← hz]; exact h1
  have H1 := Lib.hid h1; have KP := Lib.hid kP; have KT := Lib.hid kT; have HLEN := Lib.hid hlen; have HZ := Lib.hid hz
  clear h1 kP kT hlen h hz
  go_enter Tryd.func91, Tryd.ntmps91
  go_wp2_with fail
  refine KP.out.mono ?_
  rintro e w1 ⟨rfl, rfl⟩
  go_wp2_with fail
  refine KT.out.mono ?_
  rintro e w1 ⟨rfl, rfl⟩
  clear KP KT HZ hb
  generalize w.alloc (.cells #[.int .u8 0, .int .u8 0, .int .u8 0, .int .u8 0, .int .u8 0, .int .u8 0, .int .u8 0, .int .u8 0, .int .u8 0, .int .u8 0, .int .u8 0, .int .u8 0, .int .u8 0, .int .u8 0, .int .u8 0, .int .u8 0, .int .u8 0, .int .u8 0, .int .u8 0, .int .u8 0, .int .u8 0, .int .u8 0, .int .u8 0, .int .u8 0, .int .u8 0, .int .u8 0, .int .u8 0, .int .u8 0, .int .u8 0, .int .u8 0, .int .u8 0, .int .u8 0, .int .u8 0, .int .u8 0, .int .u8 0, .int .u8 0, .int .u8 0, .int .u8 0, .int .u8 0, .int .u8 0, .int .u8 0, .int .u8 0, .int .u8 0, .int .u8 0, .int .u8 0, .int .u8 0, .int .u8 0, .int .u8 0, .int .u8 0, .int .u8 0, .int .u8 0, .int .u8 0, .int .u8 0, .int .u8 0, .int .u8 0, .int .u8 0, .int .u8 0, .int .u8 0, .int .u8 0, .int .u8 0, .int .u8 0, .int .u8 0, .int .u8 0, .int .u8 0, .int .u8 0] 171) = w2 at *
  go_wp2_with fail
  go_loopw [1, 13] (fun uu ii wr => ∃ (v i : Nat) (done : List UInt8), uu = .int .u64 v ∧ ii = .int .i64 i ∧ i + done.length = 65 ∧ hexD u = hexD v ++ done ∧ v ≤ u ∧ St W wr I ((b, .cells (hxC i done) 171 (0, 0)) :: F)) (fun uu _ _ => (intOf uu).toNat)
  case atStart => exact ⟨u, 65, [], rfl, rfl, rfl, by simp, Nat.le_refl _, H1.out⟩
  case round =>
    obtain ⟨v, i, done, rfl, rfl, hi, hx, hv, hst⟩ := hrel
    clear H1
    have hlen := HLEN.out
    rw [hx, List.length_append] at hlen
    have hvp := hexD_pos v
    by_cases hv16 : v < 16
    · rw [hexD_lt hv16] at hx
      obtain ⟨k, rfl⟩ : ∃ k, i = k + 1 := ⟨i - 1, by omega⟩
      have hix := ix36 v hv16
      have d1 : wr.cell? ⟨b, k, none⟩ = (hxC (k + 1) done)[k]? := hst.cell (g := b) (cs := hxC (k + 1) done) (t := 171) (fr := (0, 0)) (by simp) k
      have d2 : wr.frozen? ⟨b, k, none⟩ = false := hst.frozen (g := b) (cs := hxC (k + 1) done) (t := 171) (by simp) k
      obtain ⟨z, hz⟩ : ∃ z, (hxC (k + 1) done)[k]? = some z := ⟨_, Array.getElem?_eq_getElem (by rw [hxC_size]; omega)⟩
      rw [hz] at d1
      have h2 := St.set (A := []) hst k (.int .u8 ((hexd v).toNat : Int))
      rw [hxC_set] at h2
      have hal : Tryd.prog.arrayLen 171 = 65 := by kernel_rfl
      have hsl : ∀ W, (Instr.sliceAt 171 (.pointer (some ⟨b, 0, none⟩)) (some (.int .i64 (k : Int))) none none).run Tryd.prog W = .ok (.slice (some ⟨b, k, none⟩) (hexd v :: done).length (65 - k)) W := fun W => by
        rw [run_sliceAt_array_l W 171 ⟨b, 0, none⟩ (by simp [Program.arrayLen, Program.elem, Tryd.underlying171]) .i64 (k : Int) (by omega) (by rw [hal]; omega)]
        rw [hal, show Tryd.prog.elem 171 = 5 by kernel_rfl, Tryd.sizeOf5, Result.andThen_ok]
        unfold slicedAt
        rw [if_neg (by omega), Int.toNat_natCast, Nat.mul_one, Lib.add_plain, Nat.zero_add]
        have hl9 : (hexd v :: done).length = 65 - k := by simp; omega
        rw [hl9]
      have hcv : (convert 104 9 (.slice (some ⟨b, k, none⟩) (hexd v :: done).length (65 - k))).run Tryd.prog (wr.setCell ⟨b, k, none⟩ (.int .u8 ((hexd v).toNat : Int))) = .ok (.string ⟨(hexd v :: done).toArray⟩) (wr.setCell ⟨b, k, none⟩ (.int .u8 ((hexd v).toNat : Int))) :=
        run_convert_bytes_back (P := Tryd.prog) _ 104 9 5 ⟨b, k, none⟩ (65 - k) (hexd v :: done) Tryd.underlying104 Tryd.underlying5 Tryd.underlying9 (fun j hj => by
          rw [Lib.add_plain]
          have h9 := h2.cell (g := b) (cs := hxC k (hexd v :: done)) (t := 171) (fr := (0, 0)) (by simp) (k + j)
          rw [hxC_at k _ j hj] at h9
          exact h9)
      have hvi : (v : Int) < 16 := by omega
      have hk0 : (k : Int) < 65 := by omega
      have H2 := Lib.hid h2; have HX := Lib.hid hx
      simp only [List.length_cons] at hcv hsl
      clear hst h2 hx hz hlen hvp hal
      go_wp2_with fail
      go_ret2
      exact ⟨by rw [HX.out]; rfl, St.weaken (A := [_]) H2.out⟩
    · rw [hexD_ge hv16, List.append_assoc] at hx
      rw [hexD_ge hv16, List.length_append, List.length_singleton] at hlen
      obtain ⟨k, rfl⟩ : ∃ k, i = k + 1 := ⟨i - 1, by omega⟩
      obtain ⟨r, hr⟩ : ∃ r, v % 16 = r := ⟨_, rfl⟩
      have hr16 : r < 16 := by omega
      have hix := ix36 r hr16
      have hand := u64_low4 v (by omega)
      rw [hr] at hand hx
      have d1 : wr.cell? ⟨b, k, none⟩ = (hxC (k + 1) done)[k]? := hst.cell (g := b) (cs := hxC (k + 1) done) (t := 171) (fr := (0, 0)) (by simp) k
      have d2 : wr.frozen? ⟨b, k, none⟩ = false := hst.frozen (g := b) (cs := hxC (k + 1) done) (t := 171) (by simp) k
      obtain ⟨z, hz⟩ : ∃ z, (hxC (k + 1) done)[k]? = some z := ⟨_, Array.getElem?_eq_getElem (by rw [hxC_size]; omega)⟩
      rw [hz] at d1
      have h2 := St.set (A := []) hst k (.int .u8 ((hexd r).toNat : Int))
      rw [hxC_set] at h2
      have hvi : ¬ (v : Int) < 16 := by omega
      have hk0 : (k : Int) < 65 := by omega
      have H2 := Lib.hid h2; have HX := Lib.hid hx
      clear hst h2 hx hz hlen hvp hr
      go_wp2_with fail
      refine ⟨⟨v / 16, k, hexd r :: done, by rw [Int.natCast_ediv]; rfl, rfl, by simp; omega, HX.out, by omega, H2.out⟩, by simp [intOf]; omega⟩
set_option maxRecDepth 100000 in
set_option maxHeartbeats 4000000 in
theorem fint_in (ht : roCell I ⟨14, 15, none⟩ = some (.int .u8 4)) (u : Nat) (hu : u < 4294967296) (h : St W w I F) :
    Calls Tryd.prog 73 #[.int .i64 u, .int .i64 16] w fun e w' => e = .returned (.string ⟨(hexD u).toArray⟩) ∧ St W w' I F := by
  have kF := fbits ht u hu h
  have KF := Lib.hid kF
  have hu0 : (0 : Int) ≤ u := by omega
  have hu1 : (u : Int) < 4294967296 := by omega
  clear kF h ht
  go_enter Tryd.func73, Tryd.ntmps73
  go_wp2_with fail
  refine KF.out.mono ?_
  rintro e w1 ⟨rfl, h1⟩
  have H1 := Lib.hid h1
  clear KF h1
  go_wp2_with fail
  go_ret
  exact ⟨rfl, H1.out⟩
theorem fint16 (ht : roCell I ⟨14, 15, none⟩ = some (.int .u8 4)) (u : Nat) (hu : u < 4294967296) (h : St W w I F) :
    Calls Tryd.prog 58 #[.int .i64 u, .int .i64 16] w fun e w' => e = .returned (.string ⟨(hexD u).toArray⟩) ∧ St W w' I F := by
  have kF := fint_in ht u hu h
  have KF := Lib.hid kF
  clear kF h ht
  go_enter Tryd.func58, Tryd.ntmps58
  go_wp2_with fail
  refine KF.out.mono ?_
  rintro e w1 ⟨rfl, h1⟩
  have H1 := Lib.hid h1
  clear KF h1
  go_wp2_with fail
  go_ret
  exact ⟨rfl, H1.out⟩
end
end

section
set_option linter.unusedVariables false
set_option linter.unusedSimpArgs false
open Go.RowKit Go.Lib

/-- A rune, shown. -/
def plainC (c : Nat) : Bool := decide (32 ≤ c) && decide (c ≤ 126) && !(c == 34) && !(c == 92)
def showPiece (s : ByteArray) (pos : Nat) : List UInt8 :=
  if brokenAt s pos then [92, 120, hexd ((s.get! pos).toNat / 16), hexd ((s.get! pos).toNat % 16)]
  else if plainC (Utf8.decode s pos).1 then Lib.encodeRune ((Utf8.decode s pos).1 : Int)
  else [92, 117, 123] ++ hexD (Utf8.decode s pos).1 ++ [125]
def showOf (s : ByteArray) : List UInt8 := (runesOf s).flatMap (showPiece s)
theorem showPiece_len (s : ByteArray) (pos : Nat) : (showPiece s pos).length ≤ 12 := by
  unfold showPiece
  split
  · simp
  · split
    · have := Lib.encodeRuneZ_length ((Utf8.decode s pos).1 : Int)
      simp [Lib.encodeRune]
      omega
    · have h := Lib.rune_le s pos
      have := hexD_len 8 (Utf8.decode s pos).1 (by omega) (by omega)
      simp
      omega
theorem showPiece_ne (s : ByteArray) (pos : Nat) : showPiece s pos ≠ [] := by
  unfold showPiece
  split
  · simp
  · split
    · have := (Lib.encodeRuneZ_length ((Utf8.decode s pos).1 : Int)).1
      intro h
      have h2 : (Lib.encodeRune ((Utf8.decode s pos).1 : Int)).length = 0 := by rw [h]; rfl
      simp [Lib.encodeRune] at h2
      rw [h2] at this
      simp at this
    · simp
theorem showPieces_len (s : ByteArray) (l : List Nat) : (l.flatMap (showPiece s)).length ≤ 12 * l.length := by
  induction l with
  | nil => simp
  | cons p l ih =>
    have := showPiece_len s p
    simp only [List.flatMap_cons, List.length_append, List.length_cons]
    omega
theorem showOf_len (s : ByteArray) : (showOf s).length ≤ 12 * s.size := by
  have h1 := showPieces_len s (runesOf s)
  have h2 := runesOf_len s
  unfold showOf
  omega
theorem showOf_ne (s : ByteArray) (h : s.size ≠ 0) : showOf s ≠ [] := by
  obtain ⟨f, hf⟩ : ∃ f, s.size = f + 1 := ⟨s.size - 1, by omega⟩
  unfold showOf runesOf
  rw [hf, runesFrom_step s f 0 (by omega)]
  simp only [List.flatMap_cons]
  intro h2
  have := List.append_eq_nil_iff.1 h2
  exact showPiece_ne s 0 this.1

section
variable {W w : World} {I : Nat → Option Obj} {F : List (Nat × Obj)} {sb : Nat} {bs : List UInt8}
theorem BldSt.less {J : Nat → Option Obj} (hle : Le I J) (h : BldSt W w J sb bs F) : BldSt W w I sb bs F := by
  obtain ⟨A0, A, c, Lr, hA, hr, h0, hst⟩ := h
  exact ⟨A0, A, c, Lr, hA, hr, h0, hst.less hle⟩
theorem BldSt.lit (h : BldSt W w I sb bs F) (xs : List UInt8) (c : Nat) : ∃ J, Le I J ∧ Part.In ⟨some ⟨w.heap.size, 0, none⟩, c, xs⟩ W J ∧ BldSt W (w.alloc (.cells (bcells xs) 5)) J sb bs F := by
  obtain ⟨A0, A, c', Lr, hA, hr, h0, hst⟩ := h
  obtain ⟨J, h1, h2, h3⟩ := St.freeze (hst.alloc (.cells (bcells xs) 5))
  exact ⟨J, h1, part_lit h2 (fun j u hj => by unfold bcells; rw [List.getElem?_toArray]; exact hj), A0, A, c', Lr, hA, hr, h0, h3⟩
theorem BldSt.drew1 (h : BldSt W w I sb bs F) : BldSt W w.drew I sb bs F := by
  obtain ⟨A0, A, c, Lr, hA, hr, h0, hst⟩ := h
  exact ⟨A0, A, c, Lr, hA, hr, h0, hst.drew1⟩
theorem BldSt.map {f : FuncId} {args : Array Value} {R : Ending → Prop} (hf : ∀ L, St W w I L → Calls Tryd.prog f args w fun e w' => R e ∧ St W w' I L) (h : BldSt W w I sb bs F) : Calls Tryd.prog f args w fun e w' => R e ∧ BldSt W w' I sb bs F := by
  obtain ⟨A0, A, c, Lr, hA, hr, h0, hst⟩ := h
  exact (hf _ hst).mono fun e w' ⟨h1, h2⟩ => ⟨h1, A0, A, c, Lr, hA, hr, h0, h2⟩
/-- Write of a literal of four bytes. -/
theorem bldWr4 (xs : List UInt8) (hl : xs.length = 4) (h : BldSt W w I sb bs F) (hlen : bs.length + 4 ≤ 140737488355328) :
    Calls Tryd.prog 55 #[.pointer (some ⟨sb, 0, none⟩), .slice (some ⟨w.heap.size, 0, none⟩) 4 4] (w.alloc (.cells (bcells xs) 5)) fun e w' => ∃ v, e = .returned v ∧ BldSt W w' I sb (bs ++ xs) F := by
  obtain ⟨J, h1, h2, h3⟩ := h.lit xs 4
  have h9 := bldWr ⟨some ⟨w.heap.size, 0, none⟩, 4, xs⟩ h2 h3 (by simp only [hl]; exact hlen)
  simp only [hl] at h9
  exact h9.mono fun e w' ⟨v, he, hb⟩ => ⟨v, he, hb.less h1⟩

set_option maxRecDepth 100000 in
set_option maxHeartbeats 4000000 in
theorem show_any (t : TB W I) (ht : roCell I ⟨14, 15, none⟩ = some (.int .u8 4)) (s : ByteArray) (hs : s.size ≤ 1000000000) (h : St W w I F) :
    Calls Tryd.prog 35 #[.string s] w fun e w' => e = .returned (.string ⟨(showOf s).toArray⟩) ∧ St W w' I F := by
  obtain ⟨sb, hsb⟩ : ∃ sb, sb = w.heap.size := ⟨_, rfl⟩
  have h1 := (h.alloc (.cells #[.pointer none, .slice none 0 0] 106)).alloc (.stringIter s 0)
  have hz : (w.alloc (.cells #[.pointer none, .slice none 0 0] 106)).heap.size = w.heap.size + 1 := by simp
  rw [hz, ← hsb] at h1
  obtain ⟨R, hR⟩ : ∃ R : ByteArray, R = ⟨(showOf s).toArray⟩ := ⟨_, rfl⟩
  rw [← hR]
  have HR := Lib.hid hR; have H1 := Lib.hid h1
  clear hR h1 h hz
  go_enter Tryd.func35, Tryd.ntmps35
  go_wp2_with fail
  rw [← hsb]
  have HSB := Lib.hid hsb
  clear hsb
  by_cases hs0 : s.size = 0
  · go_loopw [] (fun wr => St W wr I ((sb + 1, .stringIter s 0) :: (sb, .cells #[.pointer none, .slice none 0 0] 106 (0, 0)) :: F)) (fun _ => 0)
    case atStart => exact H1.out
    case round =>
      have hiter : wr.heap[sb + 1]? = some (.stringIter s 0) := hrel.own (sb + 1, _) (by simp)
      have hnx : ∀ ty, (Instr.next (.pointer (some ⟨sb + 1, 0, none⟩)) true ty).run Tryd.prog wr = _ := fun ty => Lib.run_next_end_at wr (sb + 1) s 0 ty hiter (by omega)
      have H2 := Lib.hid hrel
      clear hrel H1
      go_wp2_with fail
      refine (bldString0 (F := F) (St.weaken (A := [_]) H2.out)).mono ?_
      rintro e w1 ⟨rfl, h2⟩
      have H3 := Lib.hid h2
      clear h2
      have he : (showOf s).toArray = #[] := by
        have : showOf s = [] := by
          have := showOf_len s
          exact List.eq_nil_of_length_eq_zero (by omega)
        rw [this]
      have hR0 : R = ⟨#[]⟩ := by rw [HR.out, he]
      have HR0 := Lib.hid hR0
      clear he hR0
      go_wp2_with fail
      go_ret
      exact ⟨by rw [HR0.out]; rfl, H3.out⟩
  · go_loopw [] (fun wr => ∃ (fuel pos : Nat) (don : List Nat), runesOf s = don ++ runesFrom s fuel pos ∧ s.size ≤ pos + fuel ∧ BldSt W wr I sb (don.flatMap (showPiece s)) ((sb + 1, .stringIter s pos) :: F)) (fun wr => s.size - wr.iterPos (sb + 1))
    case atStart => exact ⟨s.size, 0, [], rfl, by omega, ⟨_, none, 0, [], .inl rfl, Row.nil _ _, Off0.nil, H1.out.perm (List.Perm.swap _ _ _)⟩⟩
    case round =>
      obtain ⟨fuel, pos, don, hro, hfu, hB⟩ := hrel
      clear H1
      have hiter : wr.heap[sb + 1]? = some (.stringIter s pos) := hB.heap (p := (sb + 1, _)) (by simp)
      have hdl : (don.flatMap (showPiece s)).length ≤ 12 * s.size := by
        have h1 := showPieces_len s don
        have h2 := runesOf_len s
        rw [hro, List.length_append] at h2
        omega
      by_cases hp : pos < s.size
      · have hnx : ∀ ty, (Instr.next (.pointer (some ⟨sb + 1, 0, none⟩)) true ty).run Tryd.prog wr = _ := fun ty => Lib.run_next_any_at wr (sb + 1) s pos ty hiter hp
        have hwd := Lib.width_pos s pos
        have hrl := Lib.rune_le s pos
        have h2 := hB.iter (pos + (Utf8.decode s pos).2)
        obtain ⟨f, rfl⟩ : ∃ f, fuel = f + 1 := ⟨fuel - 1, by omega⟩
        rw [runesFrom_step s f pos hp] at hro
        have hro2 : runesOf s = (don ++ [pos]) ++ runesFrom s f (pos + (Utf8.decode s pos).2) := by rw [hro]; simp
        have hfl : (don ++ [pos]).flatMap (showPiece s) = don.flatMap (showPiece s) ++ showPiece s pos := by simp
        obtain ⟨acc, hacc⟩ : ∃ acc, don.flatMap (showPiece s) = acc := ⟨_, rfl⟩
        rw [hacc] at h2 hdl hfl
        have kb := BldSt.map (fun L hL => broken_any t s pos hp hL) h2
        have HRO := Lib.hid hro2; have HI := Lib.hid hiter; have HFL := Lib.hid hfl; have KB := Lib.hid kb
        clear hro hro2 hB hfl hacc h2 kb
        go_wp2_with fail
        refine KB.out.mono ?_
        rintro e w1 ⟨rfl, h3⟩
        have HB1 := Lib.hid h3
        clear h3 hiter KB
        cases hbr : brokenAt s pos with
        | true =>
          have hfp : showPiece s pos = [92, 120, hexd ((s[pos]'hp).toNat / 16), hexd ((s[pos]'hp).toNat % 16)] := by rw [showPiece, hbr, if_pos rfl, get_lt s pos hp]
          have b256 := (s[pos]'hp).toNat_lt
          have l1 : ∀ w, (Instr.index 9 (.string ⟨#[48, 49, 50, 51, 52, 53, 54, 55, 56, 57, 97, 98, 99, 100, 101, 102]⟩) (.int .u8 (((s[pos]'hp).toNat : Int) / 16))).run Tryd.prog w = .ok (.int .u8 ((hexd ((s[pos]'hp).toNat / 16)).toNat : Int)) w := fun w => by
            rw [show ((s[pos]'hp).toNat : Int) / 16 = (((s[pos]'hp).toNat / 16 : Nat) : Int) by omega]; exact ix_low _ (by omega) w
          have hl4 := u8_low4 (s[pos]'hp)
          have l2 : ∀ w, (Instr.index 9 (.string ⟨#[48, 49, 50, 51, 52, 53, 54, 55, 56, 57, 97, 98, 99, 100, 101, 102]⟩) (.int .u8 (bits .and .u8 ((s[pos]'hp).toNat : Int) 15))).run Tryd.prog w = .ok (.int .u8 ((hexd ((s[pos]'hp).toNat % 16)).toNat : Int)) w := fun w => by
            rw [hl4]; exact ix_low _ (by omega) w
          clear hl4
          have HFP := Lib.hid hfp
          clear hfp
          have HBD := HB1.out.drew1
          go_wp2_with fail
          go_region_law (go_simp; go_at_call 55; refine (bldWr4 [92, 120, hexd ((s[pos]'hp).toNat / 16), hexd ((s[pos]'hp).toNat % 16)] rfl HBD (by omega)).mono ?_; rintro e w2 ⟨v2, rfl, H4⟩; dsimp only)
          all_goals
            have H5 := Lib.hid H4
            clear H4 HBD HB1 l1 l2
            go_wp2_with fail
            go_roundw
            case rel => exact ⟨f, _, don ++ [pos], HRO.out, by omega, by rw [HFL.out, HFP.out]; exact H5.out⟩
            case measure =>
              have h5 : w2.heap[sb + 1]? = some (.stringIter s (pos + (Utf8.decode s pos).2)) := H5.out.heap (p := (sb + 1, _)) (by simp)
              simp only [World.iterPos, h5, HI.out]
              omega
        | false =>
          have hfp1 : plainC (Utf8.decode s pos).1 = true → showPiece s pos = Lib.encodeRune ((Utf8.decode s pos).1 : Int) := by intro h; rw [showPiece, hbr, h]; rfl
          have hfp2 : plainC (Utf8.decode s pos).1 = false → showPiece s pos = [92, 117, 123] ++ hexD (Utf8.decode s pos).1 ++ [125] := by intro h; rw [showPiece, hbr, h]; rfl
          generalize (Utf8.decode s pos).1 = c at *
          by_cases hpl : 32 ≤ c ∧ c ≤ 126 ∧ c ≠ 34 ∧ c ≠ 92
          · obtain ⟨p1, p2, p3, p4⟩ := hpl
            have hfp := hfp1 (by simp [plainC, p1, p2, p3, p4])
            have HFP := Lib.hid hfp
            clear hfp hfp1 hfp2
            have q1 : (32 : Int) ≤ (c : Int) := by omega
            have q2 : (c : Int) ≤ 126 := by omega
            have q3 : ((c : Int) != 34) = true := by rw [bne_iff_ne]; omega
            have q4 : ((c : Int) != 92) = true := by rw [bne_iff_ne]; omega
            go_wp2_with fail
            refine (bldRune (c : Int) (by omega) (by omega) HB1.out (by omega)).mono ?_
            rintro e w2 ⟨v, rfl, h4⟩
            have H4 := Lib.hid h4
            clear h4 HB1
            go_wp2_with fail
            go_roundw
            case rel => exact ⟨f, _, don ++ [pos], HRO.out, by omega, by rw [HFL.out, HFP.out]; exact H4.out⟩
            case measure =>
              have h5 : w2.heap[sb + 1]? = some (.stringIter s (pos + (Utf8.decode s pos).2)) := H4.out.heap (p := (sb + 1, _)) (by simp)
              simp only [World.iterPos, h5, HI.out]
              omega
          · have hfp := hfp2 (by
              cases h : plainC c with
              | false => rfl
              | true =>
                exfalso
                apply hpl
                simp [plainC] at h
                omega)
            have HFP := Lib.hid hfp
            have hx8 := hexD_len 8 c (by omega) (by omega)
            have kf := BldSt.map (fun L hL => fint16 ht c (by omega) hL) HB1.out
            have hsl : ∀ hx : ByteArray, hx = ⟨(hexD c).toArray⟩ → sL (⟨#[92, 117, 123]⟩ ++ hx ++ ⟨#[125]⟩) = [92, 117, 123] ++ hexD c ++ [125] := by
              rintro hx rfl
              simp [sL, ByteArray.data_append]
            obtain ⟨hx, hhx⟩ : ∃ hx : ByteArray, hx = ⟨(hexD c).toArray⟩ := ⟨_, rfl⟩
            have hxs : hx.size ≤ 8 := by rw [hhx]; simpa [ByteArray.size] using hx8
            have hsl2 := hsl hx hhx
            rw [← hhx] at kf
            rw [← hsl2] at hfp
            have HFP := Lib.hid hfp
            have KF := Lib.hid kf
            clear hsl hsl2 hhx hx8 kf hfp hfp1 hfp2
            have hcs : c < 32 ∨ 126 < c ∨ c = 34 ∨ c = 92 := by omega
            clear hpl
            rcases hcs with hc | hc | hc | hc
            · have q1 : (c : Int) < 32 := by omega
              go_wp2_with fail
              refine KF.out.mono ?_
              rintro e w2 ⟨rfl, h3⟩
              have kw := bldWs (⟨#[92, 117, 123]⟩ ++ hx ++ ⟨#[125]⟩) h3 (by have e1 : (⟨#[92, 117, 123]⟩ : ByteArray).size = 3 := rfl; have e2 : (⟨#[125]⟩ : ByteArray).size = 1 := rfl; simp only [ByteArray.size_append, e1, e2]; omega)
              have KW := Lib.hid kw
              clear kw h3 KF HB1
              have z1 : ¬ (9223372036854775807 < ((⟨#[92, 117, 123]⟩ : ByteArray) ++ hx).size) := by have e1 : (⟨#[92, 117, 123]⟩ : ByteArray).size = 3 := rfl; have e2 : (⟨#[125]⟩ : ByteArray).size = 1 := rfl; simp only [ByteArray.size_append, e1, e2]; omega
              have z2 : ¬ (9223372036854775807 < ((⟨#[92, 117, 123]⟩ : ByteArray) ++ hx ++ ⟨#[125]⟩).size) := by have e1 : (⟨#[92, 117, 123]⟩ : ByteArray).size = 3 := rfl; have e2 : (⟨#[125]⟩ : ByteArray).size = 1 := rfl; simp only [ByteArray.size_append, e1, e2]; omega
              go_wp2_with fail
              refine KW.out.mono ?_
              rintro e w3 ⟨v, rfl, h4⟩
              have H4 := Lib.hid h4
              clear h4 KW
              go_wp2_with fail
              go_roundw
              case rel => exact ⟨f, _, don ++ [pos], HRO.out, by omega, by rw [HFL.out, HFP.out]; exact H4.out⟩
              case measure =>
                have h5 : w3.heap[sb + 1]? = some (.stringIter s (pos + (Utf8.decode s pos).2)) := H4.out.heap (p := (sb + 1, _)) (by simp)
                simp only [World.iterPos, h5, HI.out]
                omega
            · have q1 : (32 : Int) ≤ (c : Int) := by omega
              have q2 : (126 : Int) < (c : Int) := by omega
              go_wp2_with fail
              refine KF.out.mono ?_
              rintro e w2 ⟨rfl, h3⟩
              have kw := bldWs (⟨#[92, 117, 123]⟩ ++ hx ++ ⟨#[125]⟩) h3 (by have e1 : (⟨#[92, 117, 123]⟩ : ByteArray).size = 3 := rfl; have e2 : (⟨#[125]⟩ : ByteArray).size = 1 := rfl; simp only [ByteArray.size_append, e1, e2]; omega)
              have KW := Lib.hid kw
              clear kw h3 KF HB1
              have z1 : ¬ (9223372036854775807 < ((⟨#[92, 117, 123]⟩ : ByteArray) ++ hx).size) := by have e1 : (⟨#[92, 117, 123]⟩ : ByteArray).size = 3 := rfl; have e2 : (⟨#[125]⟩ : ByteArray).size = 1 := rfl; simp only [ByteArray.size_append, e1, e2]; omega
              have z2 : ¬ (9223372036854775807 < ((⟨#[92, 117, 123]⟩ : ByteArray) ++ hx ++ ⟨#[125]⟩).size) := by have e1 : (⟨#[92, 117, 123]⟩ : ByteArray).size = 3 := rfl; have e2 : (⟨#[125]⟩ : ByteArray).size = 1 := rfl; simp only [ByteArray.size_append, e1, e2]; omega
              go_wp2_with fail
              refine KW.out.mono ?_
              rintro e w3 ⟨v, rfl, h4⟩
              have H4 := Lib.hid h4
              clear h4 KW
              go_wp2_with fail
              go_roundw
              case rel => exact ⟨f, _, don ++ [pos], HRO.out, by omega, by rw [HFL.out, HFP.out]; exact H4.out⟩
              case measure =>
                have h5 : w3.heap[sb + 1]? = some (.stringIter s (pos + (Utf8.decode s pos).2)) := H4.out.heap (p := (sb + 1, _)) (by simp)
                simp only [World.iterPos, h5, HI.out]
                omega
            · have q1 : (32 : Int) ≤ (c : Int) := by omega
              have q2 : (c : Int) ≤ 126 := by omega
              have q3 : ((c : Int) != 34) = false := by rw [hc]; rfl
              clear hc
              go_wp2_with fail
              refine KF.out.mono ?_
              rintro e w2 ⟨rfl, h3⟩
              have kw := bldWs (⟨#[92, 117, 123]⟩ ++ hx ++ ⟨#[125]⟩) h3 (by have e1 : (⟨#[92, 117, 123]⟩ : ByteArray).size = 3 := rfl; have e2 : (⟨#[125]⟩ : ByteArray).size = 1 := rfl; simp only [ByteArray.size_append, e1, e2]; omega)
              have KW := Lib.hid kw
              clear kw h3 KF HB1
              have z1 : ¬ (9223372036854775807 < ((⟨#[92, 117, 123]⟩ : ByteArray) ++ hx).size) := by have e1 : (⟨#[92, 117, 123]⟩ : ByteArray).size = 3 := rfl; have e2 : (⟨#[125]⟩ : ByteArray).size = 1 := rfl; simp only [ByteArray.size_append, e1, e2]; omega
              have z2 : ¬ (9223372036854775807 < ((⟨#[92, 117, 123]⟩ : ByteArray) ++ hx ++ ⟨#[125]⟩).size) := by have e1 : (⟨#[92, 117, 123]⟩ : ByteArray).size = 3 := rfl; have e2 : (⟨#[125]⟩ : ByteArray).size = 1 := rfl; simp only [ByteArray.size_append, e1, e2]; omega
              go_wp2_with fail
              refine KW.out.mono ?_
              rintro e w3 ⟨v, rfl, h4⟩
              have H4 := Lib.hid h4
              clear h4 KW
              go_wp2_with fail
              go_roundw
              case rel => exact ⟨f, _, don ++ [pos], HRO.out, by omega, by rw [HFL.out, HFP.out]; exact H4.out⟩
              case measure =>
                have h5 : w3.heap[sb + 1]? = some (.stringIter s (pos + (Utf8.decode s pos).2)) := H4.out.heap (p := (sb + 1, _)) (by simp)
                simp only [World.iterPos, h5, HI.out]
                omega
            · have q1 : (32 : Int) ≤ (c : Int) := by omega
              have q2 : (c : Int) ≤ 126 := by omega
              have q3 : ((c : Int) != 34) = true := by rw [hc]; rfl
              have q4 : ((c : Int) != 92) = false := by rw [hc]; rfl
              clear hc
              go_wp2_with fail
              refine KF.out.mono ?_
              rintro e w2 ⟨rfl, h3⟩
              have kw := bldWs (⟨#[92, 117, 123]⟩ ++ hx ++ ⟨#[125]⟩) h3 (by have e1 : (⟨#[92, 117, 123]⟩ : ByteArray).size = 3 := rfl; have e2 : (⟨#[125]⟩ : ByteArray).size = 1 := rfl; simp only [ByteArray.size_append, e1, e2]; omega)
              have KW := Lib.hid kw
              clear kw h3 KF HB1
              have z1 : ¬ (9223372036854775807 < ((⟨#[92, 117, 123]⟩ : ByteArray) ++ hx).size) := by have e1 : (⟨#[92, 117, 123]⟩ : ByteArray).size = 3 := rfl; have e2 : (⟨#[125]⟩ : ByteArray).size = 1 := rfl; simp only [ByteArray.size_append, e1, e2]; omega
              have z2 : ¬ (9223372036854775807 < ((⟨#[92, 117, 123]⟩ : ByteArray) ++ hx ++ ⟨#[125]⟩).size) := by have e1 : (⟨#[92, 117, 123]⟩ : ByteArray).size = 3 := rfl; have e2 : (⟨#[125]⟩ : ByteArray).size = 1 := rfl; simp only [ByteArray.size_append, e1, e2]; omega
              go_wp2_with fail
              refine KW.out.mono ?_
              rintro e w3 ⟨v, rfl, h4⟩
              have H4 := Lib.hid h4
              clear h4 KW
              go_wp2_with fail
              go_roundw
              case rel => exact ⟨f, _, don ++ [pos], HRO.out, by omega, by rw [HFL.out, HFP.out]; exact H4.out⟩
              case measure =>
                have h5 : w3.heap[sb + 1]? = some (.stringIter s (pos + (Utf8.decode s pos).2)) := H4.out.heap (p := (sb + 1, _)) (by simp)
                simp only [World.iterPos, h5, HI.out]
                omega
      · have hend : runesOf s = don := by rw [hro, runesFrom_end s _ _ hp, List.append_nil]
        have hnx : ∀ ty, (Instr.next (.pointer (some ⟨sb + 1, 0, none⟩)) true ty).run Tryd.prog wr = _ := fun ty => Lib.run_next_end_at wr (sb + 1) s pos ty hiter hp
        have hne : don.flatMap (showPiece s) ≠ [] := by rw [← hend]; exact showOf_ne s hs0
        have hR1 : R = ⟨(don.flatMap (showPiece s)).toArray⟩ := by rw [HR.out, showOf, hend]
        obtain ⟨acc, hacc⟩ : ∃ acc, don.flatMap (showPiece s) = acc := ⟨_, rfl⟩
        rw [hacc] at hB hne hR1
        have HB := Lib.hid hB; have HR1 := Lib.hid hR1
        clear hB hR1 hiter hro hend hacc hdl
        go_wp2_with fail
        refine (bldString HB.out hne).mono ?_
        rintro e w1 ⟨rfl, h2⟩
        have H3 := Lib.hid (St.weaken (A := [_]) h2)
        clear h2
        go_wp2_with fail
        go_ret
        exact ⟨by rw [HR1.out]; rfl, H3.out⟩
end
end
end Go.Proofs.YtjcekmmieihllaaDoor
