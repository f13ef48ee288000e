/- The reference's mac: Sum. -/
import Derived.Test.YtjkepnddmpgljaaRefSum
import Derived.Test.YtjkepnddmpgljaaMacAlive
namespace Go.Proofs.Ytjkepnddmpgljaa
set_option linter.unusedVariables false
set_option linter.unusedSimpArgs false
open Go.RowKit

/-- The pad, as far as it is written. -/
def preOf (k : List UInt8) (b : UInt8) (j : Nat) : List UInt8 := ((key64 k).take j).map (· ^^^ b)
theorem preOf_len (k : List UInt8) (b : UInt8) (j : Nat) (hk : k.length ≤ 64) (hj : j ≤ 64) : (preOf k b j).length = j := by
  have := key64_len k hk
  simp [preOf]; omega
theorem preOf_next (k : List UInt8) (b : UInt8) (j : Nat) (hk : k.length ≤ 64) (hj : j < 64) : preOf k b (j + 1) = preOf k b j ++ [(key64 k).getD j 0 ^^^ b] := by
  have hl := key64_len k hk
  unfold preOf
  rw [List.take_add_one, List.getElem?_eq_getElem (by omega), List.getD_eq_getElem?_getD, List.getElem?_eq_getElem (by omega), List.map_append]
  rfl
theorem preOf_all (k : List UInt8) (b : UInt8) (hk : k.length ≤ 64) : preOf k b 64 = padOf k b := by
  unfold preOf padOf
  rw [List.take_of_length_le (by rw [key64_len k hk]; omega)]

/-- Two slices of bytes of ours. -/
def M2 (W w : World) (J : Nat → Option Obj) (s6 s7 : Value) (m6 m7 : List UInt8) (F : List (Nat × Obj)) : Prop :=
  ∃ A6 c6 L6 A7 c7 L7, s6 = .slice A6 m6.length c6 ∧ s7 = .slice A7 m7.length c7 ∧ Row 5 1 (.slice A6 m6.length c6) m6.length (m6.map bval) L6 ∧ Row 5 1 (.slice A7 m7.length c7) m7.length (m7.map bval) L7 ∧ St W w J (L6 ++ (L7 ++ F))

theorem part_row {W : World} {J : Nat → Option Obj} {g off c : Nat} {xs : List UInt8} {t : TypeId} {cs : Array Value} {fr : Nat × Nat} (h : J g = some (.cells cs t fr)) (hc : ∀ j, j < xs.length → cs[off + j]? = some (.int .u8 ((xs.getD j 0).toNat : Int))) : Part.In ⟨some ⟨g, off, none⟩, c, xs⟩ W J := by
  intro w L hst
  refine ⟨by simp, fun j u hj => ⟨_, rfl, ?_⟩⟩
  have hjl : j < xs.length := by
    have := (List.getElem?_eq_some_iff.1 hj).1
    simpa using this
  rw [show (⟨g, off, none⟩ : Addr).add j = ⟨g, off + j, none⟩ by unfold Addr.add; split <;> simp_all, cell_of_row w g (off + j) cs t fr (hst.imm _ _ h), hc j hjl]
  rw [List.getElem?_map, List.getElem?_eq_getElem hjl] at hj
  rw [← hj, List.getD_eq_getElem?_getD, List.getElem?_eq_getElem hjl]
  rfl
theorem kpart_get {W w : World} {J : Nat → Option Obj} {L : List (Nat × Obj)} {A : Option Addr} {c : Nat} {xs : List UInt8} (h : Part.In ⟨A, c, xs⟩ W J) (hst : St W w J L) {j : Nat} (hj : j < xs.length) : ∃ ad, A = some ad ∧ w.cell? (ad.add j) = some (.int .u8 ((xs.getD j 0).toNat : Int)) := by
  obtain ⟨_, h2⟩ := h w L hst
  refine h2 j _ ?_
  rw [List.getElem?_map, List.getElem?_eq_getElem hj, List.getD_eq_getElem?_getD, List.getElem?_eq_getElem hj]
  rfl
theorem key64_in (k : List UInt8) {j : Nat} (h : j < k.length) : (key64 k).getD j 0 = k.getD j 0 := by
  simp [key64, List.getD_eq_getElem?_getD, List.getElem?_append_left h]
theorem key64_out (k : List UInt8) {j : Nat} (h : ¬ j < k.length) : (key64 k).getD j 0 = 0 := by
  rw [key64, List.getD_eq_getElem?_getD, List.getElem?_append_right (by omega), List.getElem?_replicate]
  split <;> rfl

def MRPost (W : World) (I : Nat → Option Obj) (key bs : List UInt8) (F : List (Nat × Obj)) (e : Ending) (w' : World) : Prop :=
  e = .returned (.agg (HV (macOut key bs))) ∧ St W w' I F

theorem hv_facts (m : List UInt8) : (HV m).size = 32 ∧ (Try.prog.info? 26).map (·.size) = some (HV m).size ∧ 0 + (HV m).size ≤ (#[.int .u8 0, .int .u8 0, .int .u8 0, .int .u8 0, .int .u8 0, .int .u8 0, .int .u8 0, .int .u8 0, .int .u8 0, .int .u8 0, .int .u8 0, .int .u8 0, .int .u8 0, .int .u8 0, .int .u8 0, .int .u8 0, .int .u8 0, .int .u8 0, .int .u8 0, .int .u8 0, .int .u8 0, .int .u8 0, .int .u8 0, .int .u8 0, .int .u8 0, .int .u8 0, .int .u8 0, .int .u8 0, .int .u8 0, .int .u8 0, .int .u8 0, .int .u8 0] : Array Value).size ∧ (HV m).all (·.oneCell') = true ∧ setMany #[.int .u8 0, .int .u8 0, .int .u8 0, .int .u8 0, .int .u8 0, .int .u8 0, .int .u8 0, .int .u8 0, .int .u8 0, .int .u8 0, .int .u8 0, .int .u8 0, .int .u8 0, .int .u8 0, .int .u8 0, .int .u8 0, .int .u8 0, .int .u8 0, .int .u8 0, .int .u8 0, .int .u8 0, .int .u8 0, .int .u8 0, .int .u8 0, .int .u8 0, .int .u8 0, .int .u8 0, .int .u8 0, .int .u8 0, .int .u8 0, .int .u8 0, .int .u8 0] 0 (HV m).toList = HV m ∧ HV m = bcells (hashOf m) := by
  have hz : (HV m).size = 32 := by rw [HV, bcells_size, hashOf_len]
  exact ⟨hz, by rw [hz]; kernel_rfl, by rw [hz]; decide, bcells_one _, by rw [setMany_whole _ _ (by simp [hz])], rfl⟩

set_option maxRecDepth 100000 in
set_option maxHeartbeats 1500000 in
theorem mref_short {W w : World} {I : Nat → Option Obj} {F : List (Nat × Obj)} (key p : Part) (hk : key.In W I) (hp : p.In W I) (hkl : key.bs.length ≤ 64) (hkm : key.bs.length ≤ 1000) (hl : p.bs.length ≤ 2000) (hst : St W w I F) :
    Calls Try.prog 22 #[.slice key.A key.bs.length key.c, .slice p.A p.bs.length p.c] w (MRPost W I key.bs p.bs F) := by
  obtain ⟨KA, kc, kb⟩ := key
  obtain ⟨A, c, bs⟩ := p
  simp only at hkl hkm hl ⊢
  have hke : keyOf kb = kb := by rw [keyOf, if_neg (by omega)]
  have hli : ¬ (64 : Int) < kb.length := by omega
  have h0 := hst.alloc (.cells #[.int .u8 0, .int .u8 0, .int .u8 0, .int .u8 0, .int .u8 0, .int .u8 0, .int .u8 0, .int .u8 0, .int .u8 0, .int .u8 0, .int .u8 0, .int .u8 0, .int .u8 0, .int .u8 0, .int .u8 0, .int .u8 0, .int .u8 0, .int .u8 0, .int .u8 0, .int .u8 0, .int .u8 0, .int .u8 0, .int .u8 0, .int .u8 0, .int .u8 0, .int .u8 0, .int .u8 0, .int .u8 0, .int .u8 0, .int .u8 0, .int .u8 0, .int .u8 0] 26)
  obtain ⟨k, hkk⟩ : ∃ k, k = kb := ⟨_, rfl⟩
  have hke' : keyOf kb = k := by rw [hke, hkk]
  have HKIN : Hid (Part.In ⟨KA, kc, k⟩ W I) := Lib.hid (by rw [hkk]; exact hk)
  have HPIN := Lib.hid hp; have HLE := Lib.hid (Le.refl I); have HKE := Lib.hid hke'
  have HKL : Hid (k.length ≤ 64) := Lib.hid (by rw [hkk]; exact hkl)
  have ekl : kb.length = k.length := by rw [hkk]
  have kli : (k.length : Int) ≤ 64 := by omega
  generalize hF1 : (w.heap.size, Obj.cells #[.int .u8 0, .int .u8 0, .int .u8 0, .int .u8 0, .int .u8 0, .int .u8 0, .int .u8 0, .int .u8 0, .int .u8 0, .int .u8 0, .int .u8 0, .int .u8 0, .int .u8 0, .int .u8 0, .int .u8 0, .int .u8 0, .int .u8 0, .int .u8 0, .int .u8 0, .int .u8 0, .int .u8 0, .int .u8 0, .int .u8 0, .int .u8 0, .int .u8 0, .int .u8 0, .int .u8 0, .int .u8 0, .int .u8 0, .int .u8 0, .int .u8 0, .int .u8 0] 26) :: F = F1 at h0
  have HF1 := Lib.hid hF1; have H0 := Lib.hid h0
  rw [ekl] at hli ⊢
  clear hF1 h0 hke hke' hk hp hst hkk ekl hkm
  obtain ⟨J, hJI⟩ : ∃ J, J = I := ⟨_, rfl⟩
  rw [← hJI] at HKIN HPIN H0
  have HLE : Hid (Le I J) := Lib.hid (by rw [hJI]; exact Le.refl I)
  clear hJI
  have h5 : St W (((w.alloc (.cells #[.int .u8 0, .int .u8 0, .int .u8 0, .int .u8 0, .int .u8 0, .int .u8 0, .int .u8 0, .int .u8 0, .int .u8 0, .int .u8 0, .int .u8 0, .int .u8 0, .int .u8 0, .int .u8 0, .int .u8 0, .int .u8 0, .int .u8 0, .int .u8 0, .int .u8 0, .int .u8 0, .int .u8 0, .int .u8 0, .int .u8 0, .int .u8 0, .int .u8 0, .int .u8 0, .int .u8 0, .int .u8 0, .int .u8 0, .int .u8 0, .int .u8 0, .int .u8 0] 26)).alloc (.cells #[] 5)).alloc (.cells #[] 5)) J ([(w.heap.size + 1, .cells #[] 5 (0, 0))] ++ ([(w.heap.size + 1 + 1, .cells #[] 5 (0, 0))] ++ F1)) := by
    have := (H0.out.alloc (.cells #[] 5)).alloc (.cells #[] 5)
    simp only [World.size_alloc] at this
    exact this.perm (List.Perm.swap _ _ _)
  have hm0 : M2 W (((w.alloc (.cells #[.int .u8 0, .int .u8 0, .int .u8 0, .int .u8 0, .int .u8 0, .int .u8 0, .int .u8 0, .int .u8 0, .int .u8 0, .int .u8 0, .int .u8 0, .int .u8 0, .int .u8 0, .int .u8 0, .int .u8 0, .int .u8 0, .int .u8 0, .int .u8 0, .int .u8 0, .int .u8 0, .int .u8 0, .int .u8 0, .int .u8 0, .int .u8 0, .int .u8 0, .int .u8 0, .int .u8 0, .int .u8 0, .int .u8 0, .int .u8 0, .int .u8 0, .int .u8 0] 26)).alloc (.cells #[] 5)).alloc (.cells #[] 5)) J (.slice (some ⟨w.heap.size + 1, 0, none⟩) 0 0) (.slice (some ⟨w.heap.size + 1 + 1, 0, none⟩) 0 0) (preOf k 54 0) (preOf k 92 0) F1 :=
    ⟨_, _, _, _, _, _, rfl, rfl, Row.empty 5 1 _, Row.empty 5 1 _, h5⟩
  have HM0 := Lib.hid hm0
  clear h5 hm0 H0
  go_enter Try.func22, Try.ntmps22
  go_wp2_with fail
  have hm0 := HM0.out
  clear HM0
  go_loopw [6, 7, 8] (fun s6 s7 i wr => ∃ j : Nat, j ≤ 64 ∧ i = .int .i64 j ∧ M2 W wr J s6 s7 (preOf k 54 j) (preOf k 92 j) F1) (fun _ _ i _ => 64 - (intOf i).toNat)
  case atStart => exact ⟨0, by omega, rfl, hm0⟩
  case round =>
    obtain ⟨j, hj, rfl, A6, c6, L6, A7, c7, L7, rfl, rfl, hr6, hr7, hst⟩ := hrel
    clear hm0
    have e6 := preOf_len k 54 j HKL.out hj
    have e7 := preOf_len k 92 j HKL.out hj
    by_cases hlt : j < 64
    · have hji : (j : Int) < 64 := by omega
      have n6 := preOf_next k 54 j HKL.out hlt
      have n7 := preOf_next k 92 j HKL.out hlt
      by_cases hjk : j < k.length
      · have hjki : (j : Int) < k.length := by omega
        obtain ⟨ad, rfl, q⟩ := kpart_get HKIN.out hst hjk
        rw [key64_in k hjk] at n6 n7
        obtain ⟨x, hx⟩ : ∃ x, x = k.getD j 0 := ⟨_, rfl⟩
        rw [← hx] at n6 n7 q
        clear hx
        obtain ⟨y6, hy6⟩ : ∃ y6, y6 = x ^^^ 54 := ⟨_, rfl⟩
        obtain ⟨y7, hy7⟩ : ∃ y7, y7 = x ^^^ 92 := ⟨_, rfl⟩
        have bx6 : bits .xor .u8 (x.toNat : Int) 54 = (y6.toNat : Int) := by rw [hy6]; exact u8_xorI x 54
        have bx7 : bits .xor .u8 (x.toNat : Int) 92 = (y7.toNat : Int) := by rw [hy7]; exact u8_xorI x 92
        rw [← hy6] at n6
        rw [← hy7] at n7
        have HR6 := Lib.hid hr6; have HR7 := Lib.hid hr7; have E6 := Lib.hid e6; have E7 := Lib.hid e7; have N6 := Lib.hid n6; have N7 := Lib.hid n7
        have HX := Lib.hid (fun o => hst.alloc_ o)
        have Q6 := Lib.hid (show (wr.alloc (.cells #[.int .u8 (y6.toNat : Int)] 5)).cell? ⟨wr.heap.size, 0, none⟩ = some (.int .u8 (y6.toNat : Int)) from cell_new rfl rfl)
        rw [e6, e7]
        clear hy6 hy7 hr6 hr7 e6 e7 n6 n7 hst
        go_wp2_with (at_builtin; refine Hid.out ?_)
        clear q
        refine Lib.hid ?_
        refine wpList_append_byte (F := L7 ++ F1) rfl (.tmp 31) (.tmp 34) rfl (m := preOf k 54 j) (A := A6) (c := c6) (by rw [E6.out]; rfl) HR6.out (by exact HX.out _) rfl y6 (by exact Q6.out) (j + 1) (by rw [E6.out]) (by omega) ?_
        rintro A6' c6' w5 ⟨A8, c8, L8, e8, hr8, h8⟩
        obtain ⟨rfl, el8, rfl⟩ : A6' = A8 ∧ j + 1 = (preOf k 54 j ++ [y6]).length ∧ c6' = c8 := by injection e8 with a b c; exact ⟨a, b, c⟩
        have h8' : St W w5 J (L7 ++ (L8 ++ F1)) := h8.swap
        have HR8 := Lib.hid hr8; have EL8 := Lib.hid el8
        have HX7 := Lib.hid (fun o => h8'.alloc_ o)
        have Q7 := Lib.hid (show (w5.alloc (.cells #[.int .u8 (y7.toNat : Int)] 5)).cell? ⟨w5.heap.size, 0, none⟩ = some (.int .u8 (y7.toNat : Int)) from cell_new rfl rfl)
        clear e8 hr8 h8 h8' HX Q6 HR6 E6 el8
        go_wp2_with (at_builtin; refine Hid.out ?_)
        refine Lib.hid ?_
        refine wpList_append_byte (F := L8 ++ F1) rfl (.tmp 36) (.tmp 39) rfl (m := preOf k 92 j) (A := A7) (c := c7) (by rw [E7.out]; rfl) HR7.out (by exact HX7.out _) rfl y7 (by exact Q7.out) (j + 1) (by rw [E7.out]) (by omega) ?_
        rintro A7' c7' w6 ⟨A9, c9, L9, e9, hr9, h9⟩
        obtain ⟨rfl, el9, rfl⟩ : A7' = A9 ∧ j + 1 = (preOf k 92 j ++ [y7]).length ∧ c7' = c9 := by injection e9 with a b c; exact ⟨a, b, c⟩
        have h9' : St W w6 J (L8 ++ (L9 ++ F1)) := h9.swap
        have hm2 : M2 W w6 J (.slice A6' (j + 1) c6') (.slice A7' (j + 1) c7') (preOf k 54 (j + 1)) (preOf k 92 (j + 1)) F1 := by
          rw [N6.out, N7.out]
          exact ⟨A6', c6', L8, A7', c7', L9, by rw [← EL8.out], by rw [← el9], HR8.out, hr9, h9'⟩
        have HM2 := Lib.hid hm2
        clear e9 hr9 h9 h9' HX7 Q7 HR7 E7 el9 hm2 HR8 EL8 bx6 bx7
        go_wp2_with fail
        go_roundw
        case rel => exact ⟨j + 1, by omega, by go_num, HM2.out⟩
        case measure => simp [intOf]; omega
      · have hjki : ¬ (j : Int) < k.length := by omega
        rw [key64_out k hjk] at n6 n7
        obtain ⟨x, hx⟩ : ∃ x : UInt8, x = 0 := ⟨_, rfl⟩
        rw [← hx] at n6 n7
        obtain ⟨y6, hy6⟩ : ∃ y6, y6 = x ^^^ 54 := ⟨_, rfl⟩
        obtain ⟨y7, hy7⟩ : ∃ y7, y7 = x ^^^ 92 := ⟨_, rfl⟩
        have bx6 : bits .xor .u8 (x.toNat : Int) 54 = (y6.toNat : Int) := by rw [hy6]; exact u8_xorI x 54
        have bx7 : bits .xor .u8 (x.toNat : Int) 92 = (y7.toNat : Int) := by rw [hy7]; exact u8_xorI x 92
        rw [← hy6] at n6
        rw [← hy7] at n7
        have HR6 := Lib.hid hr6; have HR7 := Lib.hid hr7; have E6 := Lib.hid e6; have E7 := Lib.hid e7; have N6 := Lib.hid n6; have N7 := Lib.hid n7
        have HX := Lib.hid (fun o => hst.alloc_ o)
        have Q6 := Lib.hid (show (wr.alloc (.cells #[.int .u8 (y6.toNat : Int)] 5)).cell? ⟨wr.heap.size, 0, none⟩ = some (.int .u8 (y6.toNat : Int)) from cell_new rfl rfl)
        rw [e6, e7]
        clear hy6 hy7 hr6 hr7 e6 e7 n6 n7 hst
        subst hx
        have hx0 : ((0 : UInt8).toNat : Int) = 0 := rfl
        rw [hx0] at bx6 bx7
        clear hx0
        go_wp2_with (at_builtin; refine Hid.out ?_)
        refine Lib.hid ?_
        refine wpList_append_byte (F := L7 ++ F1) rfl (.tmp 31) (.tmp 34) rfl (m := preOf k 54 j) (A := A6) (c := c6) (by rw [E6.out]; rfl) HR6.out (by exact HX.out _) rfl y6 (by exact Q6.out) (j + 1) (by rw [E6.out]) (by omega) ?_
        rintro A6' c6' w5 ⟨A8, c8, L8, e8, hr8, h8⟩
        obtain ⟨rfl, el8, rfl⟩ : A6' = A8 ∧ j + 1 = (preOf k 54 j ++ [y6]).length ∧ c6' = c8 := by injection e8 with a b c; exact ⟨a, b, c⟩
        have h8' : St W w5 J (L7 ++ (L8 ++ F1)) := h8.swap
        have HR8 := Lib.hid hr8; have EL8 := Lib.hid el8
        have HX7 := Lib.hid (fun o => h8'.alloc_ o)
        have Q7 := Lib.hid (show (w5.alloc (.cells #[.int .u8 (y7.toNat : Int)] 5)).cell? ⟨w5.heap.size, 0, none⟩ = some (.int .u8 (y7.toNat : Int)) from cell_new rfl rfl)
        clear e8 hr8 h8 h8' HX Q6 HR6 E6 el8
        go_wp2_with (at_builtin; refine Hid.out ?_)
        refine Lib.hid ?_
        refine wpList_append_byte (F := L8 ++ F1) rfl (.tmp 36) (.tmp 39) rfl (m := preOf k 92 j) (A := A7) (c := c7) (by rw [E7.out]; rfl) HR7.out (by exact HX7.out _) rfl y7 (by exact Q7.out) (j + 1) (by rw [E7.out]) (by omega) ?_
        rintro A7' c7' w6 ⟨A9, c9, L9, e9, hr9, h9⟩
        obtain ⟨rfl, el9, rfl⟩ : A7' = A9 ∧ j + 1 = (preOf k 92 j ++ [y7]).length ∧ c7' = c9 := by injection e9 with a b c; exact ⟨a, b, c⟩
        have h9' : St W w6 J (L8 ++ (L9 ++ F1)) := h9.swap
        have hm2 : M2 W w6 J (.slice A6' (j + 1) c6') (.slice A7' (j + 1) c7') (preOf k 54 (j + 1)) (preOf k 92 (j + 1)) F1 := by
          rw [N6.out, N7.out]
          exact ⟨A6', c6', L8, A7', c7', L9, by rw [← EL8.out], by rw [← el9], HR8.out, hr9, h9'⟩
        have HM2 := Lib.hid hm2
        clear e9 hr9 h9 h9' HX7 Q7 HR7 E7 el9 hm2 HR8 EL8 bx6 bx7
        go_wp2_with fail
        go_roundw
        case rel => exact ⟨j + 1, by omega, by go_num, HM2.out⟩
        case measure => simp [intOf]; omega
    · obtain rfl : j = 64 := by omega
      rw [preOf_all k 54 HKL.out] at hr6 e6
      rw [preOf_all k 92 HKL.out] at hr7 e7
      simp only [preOf_all k 54 HKL.out, preOf_all k 92 HKL.out]
      rw [e6] at hr6 ⊢
      rw [e7] at hr7 ⊢
      have hsrc := HPIN.out _ _ hst
      simp only at hsrc
      have HSRC := Lib.hid hsrc; have HR6 := Lib.hid hr6; have HR7 := Lib.hid hr7; have HST := Lib.hid hst
      clear hsrc hr6 hr7 hst
      go_wp2_with (at_builtin; refine Hid.out ?_)
      refine Lib.hid ?_
      refine wpList_append_row (F := L7 ++ F1) rfl (.tmp 41) (.tmp 42) _ rfl 5 (.int .u8 0) 1 1 Try.underlying22 (by kernel_rfl) rfl (by omega) rfl HR6.out (by exact HST.out) rfl (by exact HSRC.out) (one_bytes bs) (64 + bs.length) (by omega) ((padOf k 54 ++ bs).map bval) (by rw [List.map_append]) (by unfold maxLen; omega) (by omega) ?_
      intro A8 c8 w8 L8 hr8 h8
      clear HR6 HSRC HST
      have em : (padOf k 54 ++ bs).length = 64 + bs.length := by rw [List.length_append, e6]
      obtain ⟨mi, hmi0⟩ : ∃ mi, mi = padOf k 54 ++ bs := ⟨_, rfl⟩
      have MIE0 := Lib.hid hmi0
      have hmi : padOf k 54 ++ bs = mi := hmi0.symm
      clear hmi0
      rw [hmi] at hr8 em
      rw [← em] at hr8 ⊢
      obtain ⟨g8, o8, cur8, rfl, rfl, _, _, hc8⟩ := row_open hr8 (by omega)
      obtain ⟨J2, le2, hJ2, h9⟩ := St.freeze h8
      have hin2 : Part.In ⟨some ⟨g8, o8, none⟩, c8, mi⟩ W J2 := part_row hJ2 hc8
      have kr := refsum ⟨some ⟨g8, o8, none⟩, c8, mi⟩ hin2 (by show mi.length ≤ _; omega) h9
      simp only at kr
      rw [em] at kr
      have KR := Lib.hid kr; have LE2 := Lib.hid (HLE.out.trans le2); have EM := Lib.hid em
      clear kr hin2 h9 h8 hJ2 le2 hr8 hc8 hmi
      go_wp2_with fail
      refine KR.out.mono ?_
      clear KR
      rintro e w10 ⟨rfl, h10⟩
      have hx := hv_facts mi
      obtain ⟨z1, i1, f1, o1, x1, hb1⟩ := hx
      have H10 := Lib.hid (h10.alloc (.cells #[.int .u8 0, .int .u8 0, .int .u8 0, .int .u8 0, .int .u8 0, .int .u8 0, .int .u8 0, .int .u8 0, .int .u8 0, .int .u8 0, .int .u8 0, .int .u8 0, .int .u8 0, .int .u8 0, .int .u8 0, .int .u8 0, .int .u8 0, .int .u8 0, .int .u8 0, .int .u8 0, .int .u8 0, .int .u8 0, .int .u8 0, .int .u8 0, .int .u8 0, .int .u8 0, .int .u8 0, .int .u8 0, .int .u8 0, .int .u8 0, .int .u8 0, .int .u8 0] 26))
      have IX := Lib.hid i1; have FX := Lib.hid f1; have OX := Lib.hid o1; have EX := Lib.hid x1; have HB1 := Lib.hid hb1
      clear h10 z1 i1 f1 o1 x1 hb1
      have sb := slice_arr32
      go_wp2_with (first
        | (with_reducible refine wpList_store_st rfl 26 (.tmp 10) (.tmp 44) rfl (g := w10.heap.size) (off := 0) (HV mi) rfl rfl H10.out FX.out IX.out OX.out ?_; intro w11 h11; refine Hid.out ?_))
      refine Lib.hid ?_
      rw [EX.out] at h11
      clear H10 IX FX OX EX
      generalize w10.heap.size = g10 at *
      have h11' : St W w11 J2 (L7 ++ ((g10, .cells (HV mi) 26 (0, 0)) :: F1)) := h11.perm (List.perm_middle (l₁ := L7) (l₂ := F1)).symm
      have hs10 : Src w11 1 (some ⟨g10, 0, none⟩) 32 ((hashOf mi).map bval) := by
        refine ⟨by rw [List.length_map, hashOf_len], fun j u hj => ⟨_, rfl, ?_⟩⟩
        rw [show (⟨g10, 0, none⟩ : Addr).add j = ⟨g10, j, none⟩ by unfold Addr.add; split <;> simp_all, h11.cell (g := g10) (cs := HV mi) (t := 26) (fr := (0, 0)) (by simp), HB1.out]
        simpa [bcells] using hj
      have H11 := Lib.hid h11'; have HS10 := Lib.hid hs10
      clear h11 h11' hs10
      go_wp2_with (at_builtin; refine Hid.out ?_)
      refine Lib.hid ?_
      refine wpList_append_row (F := (g10, .cells (HV mi) 26 (0, 0)) :: F1) rfl (.tmp 45) (.tmp 46) _ rfl 5 (.int .u8 0) 1 1 Try.underlying22 (by kernel_rfl) rfl (by omega) rfl HR7.out (by exact H11.out) rfl (by exact HS10.out) (one_bytes (hashOf mi)) 96 (by omega) ((padOf k 92 ++ hashOf mi).map bval) (by rw [List.map_append]) (by unfold maxLen; omega) (by omega) ?_
      intro A12 c12 w12 L12 hr12 h12
      clear HR7 HS10 H11 sb
      have em2 : (padOf k 92 ++ hashOf mi).length = 96 := by rw [List.length_append, e7, hashOf_len]
      obtain ⟨mo, hmo⟩ : ∃ mo, mo = padOf k 92 ++ hashOf mi := ⟨_, rfl⟩
      rw [← hmo] at hr12 em2
      rw [← em2] at hr12 ⊢
      obtain ⟨g12, o12, cur12, rfl, rfl, _, _, hc12⟩ := row_open hr12 (by omega)
      obtain ⟨J3, le3, hJ3, h13⟩ := St.freeze h12
      have hin3 : Part.In ⟨some ⟨g12, o12, none⟩, c12, mo⟩ W J3 := part_row hJ3 hc12
      have kr := refsum ⟨some ⟨g12, o12, none⟩, c12, mo⟩ hin3 (by show mo.length ≤ _; omega) h13
      simp only at kr
      rw [em2] at kr
      have KR := Lib.hid kr; have LE3 := Lib.hid (LE2.out.trans le3); have EM2 := Lib.hid em2
      have HMO : Hid (mo = macOut kb bs) := Lib.hid (by rw [hmo, macOut, macIn, HKE.out, ← MIE0.out])
      clear kr hin3 h13 h12 hJ3 le3 hr12 hc12 hmo e6 e7
      go_wp2_with fail
      refine KR.out.mono ?_
      clear KR
      rintro e w14 ⟨rfl, h14⟩
      have hx := hv_facts mo
      obtain ⟨z1, i1, f1, o1, x1, hb1⟩ := hx
      have h14' : St W w14 J3 ((w.heap.size, .cells #[.int .u8 0, .int .u8 0, .int .u8 0, .int .u8 0, .int .u8 0, .int .u8 0, .int .u8 0, .int .u8 0, .int .u8 0, .int .u8 0, .int .u8 0, .int .u8 0, .int .u8 0, .int .u8 0, .int .u8 0, .int .u8 0, .int .u8 0, .int .u8 0, .int .u8 0, .int .u8 0, .int .u8 0, .int .u8 0, .int .u8 0, .int .u8 0, .int .u8 0, .int .u8 0, .int .u8 0, .int .u8 0, .int .u8 0, .int .u8 0, .int .u8 0, .int .u8 0] 26 (0, 0)) :: (g10, .cells (HV mi) 26 (0, 0)) :: F) := by
        rw [← HF1.out] at h14
        exact h14.perm (List.Perm.swap _ _ _)
      have H14 := Lib.hid h14'
      have IX := Lib.hid i1; have FX := Lib.hid f1; have OX := Lib.hid o1; have EX := Lib.hid x1
      clear h14 h14' z1 i1 f1 o1 x1 hb1
      go_wp2_with (with_reducible refine wpList_store_st rfl 26 (.tmp 4) (.tmp 48) rfl (g := w.heap.size) (off := 0) (HV mo) rfl rfl H14.out FX.out IX.out OX.out ?_; intro w15 h15; refine Hid.out ?_)
      refine Lib.hid ?_
      rw [EX.out] at h15
      go_wp2_with fail
      refine bodyPost_ret (results_cell_row rfl _ w15 w.heap.size 26 (HV mo) (0, 0) _ rfl (h15.own (w.heap.size, .cells (HV mo) 26 (0, 0)) (by simp)) Try.underlying26 (by kernel_rfl) IX.out) rfl ?_
      exact ⟨by rw [HMO.out], (St.weaken (A := [_, _]) h15).less LE3.out⟩

set_option maxRecDepth 100000 in
set_option maxHeartbeats 1500000 in
theorem mref_long {W w : World} {I : Nat → Option Obj} {F : List (Nat × Obj)} (key p : Part) (hk : key.In W I) (hp : p.In W I) (hkl : 64 < key.bs.length) (hkm : key.bs.length ≤ 1000) (hl : p.bs.length ≤ 2000) (hst : St W w I F) :
    Calls Try.prog 22 #[.slice key.A key.bs.length key.c, .slice p.A p.bs.length p.c] w (MRPost W I key.bs p.bs F) := by
  obtain ⟨KA, kc, kb⟩ := key
  obtain ⟨A, c, bs⟩ := p
  simp only at hkl hkm hl ⊢
  have hke : keyOf kb = hashOf kb := by rw [keyOf, if_pos hkl]
  have hli : (64 : Int) < kb.length := by omega
  obtain ⟨z1, i1, f1, o1, x1, hb1⟩ := hv_facts kb
  have h0 := hst.alloc (.cells #[.int .u8 0, .int .u8 0, .int .u8 0, .int .u8 0, .int .u8 0, .int .u8 0, .int .u8 0, .int .u8 0, .int .u8 0, .int .u8 0, .int .u8 0, .int .u8 0, .int .u8 0, .int .u8 0, .int .u8 0, .int .u8 0, .int .u8 0, .int .u8 0, .int .u8 0, .int .u8 0, .int .u8 0, .int .u8 0, .int .u8 0, .int .u8 0, .int .u8 0, .int .u8 0, .int .u8 0, .int .u8 0, .int .u8 0, .int .u8 0, .int .u8 0, .int .u8 0] 26)
  generalize hF1 : (w.heap.size, Obj.cells #[.int .u8 0, .int .u8 0, .int .u8 0, .int .u8 0, .int .u8 0, .int .u8 0, .int .u8 0, .int .u8 0, .int .u8 0, .int .u8 0, .int .u8 0, .int .u8 0, .int .u8 0, .int .u8 0, .int .u8 0, .int .u8 0, .int .u8 0, .int .u8 0, .int .u8 0, .int .u8 0, .int .u8 0, .int .u8 0, .int .u8 0, .int .u8 0, .int .u8 0, .int .u8 0, .int .u8 0, .int .u8 0, .int .u8 0, .int .u8 0, .int .u8 0, .int .u8 0] 26) :: F = F1 at h0
  have HF1 := Lib.hid hF1
  have kr := refsum ⟨KA, kc, kb⟩ hk (by show kb.length ≤ _; omega) h0
  simp only at kr
  have KR := Lib.hid kr; have IX := Lib.hid i1; have FX := Lib.hid f1; have OX := Lib.hid o1; have EX := Lib.hid x1; have HB1 := Lib.hid hb1; have HP := Lib.hid hp; have HKE0 := Lib.hid hke
  have sb := slice_arr32
  clear hF1 h0 kr z1 i1 f1 o1 x1 hb1 hke hk hp hst hkl hkm
  go_enter Try.func22, Try.ntmps22
  go_wp2_with fail
  refine KR.out.mono ?_
  clear KR
  rintro e w2 ⟨rfl, h2⟩
  have H2 := Lib.hid (h2.alloc (.cells #[.int .u8 0, .int .u8 0, .int .u8 0, .int .u8 0, .int .u8 0, .int .u8 0, .int .u8 0, .int .u8 0, .int .u8 0, .int .u8 0, .int .u8 0, .int .u8 0, .int .u8 0, .int .u8 0, .int .u8 0, .int .u8 0, .int .u8 0, .int .u8 0, .int .u8 0, .int .u8 0, .int .u8 0, .int .u8 0, .int .u8 0, .int .u8 0, .int .u8 0, .int .u8 0, .int .u8 0, .int .u8 0, .int .u8 0, .int .u8 0, .int .u8 0, .int .u8 0] 26))
  clear h2
  go_wp2_with (with_reducible refine wpList_store_st rfl 26 (.tmp 5) (.tmp 15) rfl (g := w2.heap.size) (off := 0) (HV kb) rfl rfl H2.out FX.out IX.out OX.out ?_; intro w3 h3; refine Hid.out ?_)
  refine Lib.hid ?_
  rw [EX.out] at h3
  clear H2 IX FX OX EX
  generalize w2.heap.size = g5 at *
  obtain ⟨J, le1, hJ, h4⟩ := St.freeze h3
  obtain ⟨k, hkk⟩ : ∃ k, k = hashOf kb := ⟨_, rfl⟩
  have hk32 : k.length = 32 := by rw [hkk, hashOf_len]
  have HKE : Hid (keyOf kb = k) := Lib.hid (by rw [HKE0.out, hkk])
  have HKIN : Hid (Part.In ⟨some ⟨g5, 0, none⟩, 32, k⟩ W J) := Lib.hid (part_lit hJ (by
    intro j u hj
    rw [HB1.out, ← hkk]
    simpa [bcells] using hj))
  have HPIN := Lib.hid (Part.In_mono le1 HP.out); have HLE := Lib.hid le1
  have HKL : Hid (k.length ≤ 64) := Lib.hid (by omega)
  have HK32 := Lib.hid hk32
  have h5 : St W ((w3.alloc (.cells #[] 5)).alloc (.cells #[] 5)) J ([(w3.heap.size, .cells #[] 5 (0, 0))] ++ ([(w3.heap.size + 1, .cells #[] 5 (0, 0))] ++ F1)) := by
    have := (h4.alloc (.cells #[] 5)).alloc (.cells #[] 5)
    simp only [World.size_alloc] at this
    exact this.perm (List.Perm.swap _ _ _)
  have hm0 : M2 W ((w3.alloc (.cells #[] 5)).alloc (.cells #[] 5)) J (.slice (some ⟨w3.heap.size, 0, none⟩) 0 0) (.slice (some ⟨w3.heap.size + 1, 0, none⟩) 0 0) (preOf k 54 0) (preOf k 92 0) F1 :=
    ⟨_, _, _, _, _, _, rfl, rfl, Row.empty 5 1 _, Row.empty 5 1 _, h5⟩
  have HM0 := Lib.hid hm0
  clear h5 hm0 h3 h4 hJ le1 hkk hk32 HB1 HP HKE0
  go_wp2_with fail
  have hm0 := HM0.out
  clear HM0
  go_loopw [6, 7, 8] (fun s6 s7 i wr => ∃ j : Nat, j ≤ 64 ∧ i = .int .i64 j ∧ M2 W wr J s6 s7 (preOf k 54 j) (preOf k 92 j) F1) (fun _ _ i _ => 64 - (intOf i).toNat)
  case atStart => exact ⟨0, by omega, rfl, hm0⟩
  case round =>
    obtain ⟨j, hj, rfl, A6, c6, L6, A7, c7, L7, rfl, rfl, hr6, hr7, hst⟩ := hrel
    clear hm0
    have e6 := preOf_len k 54 j HKL.out hj
    have e7 := preOf_len k 92 j HKL.out hj
    by_cases hlt : j < 64
    · have hji : (j : Int) < 64 := by omega
      have n6 := preOf_next k 54 j HKL.out hlt
      have n7 := preOf_next k 92 j HKL.out hlt
      by_cases hjk : j < k.length
      · have hjki : (j : Int) < 32 := by have := HK32.out; omega
        obtain ⟨ad, had, q⟩ := kpart_get HKIN.out hst hjk
        injection had with had
        subst had
        rw [show (⟨g5, 0, none⟩ : Addr).add j = ⟨g5, j, none⟩ by unfold Addr.add; split <;> simp_all] at q
        rw [key64_in k hjk] at n6 n7
        obtain ⟨x, hx⟩ : ∃ x, x = k.getD j 0 := ⟨_, rfl⟩
        rw [← hx] at n6 n7 q
        clear hx
        obtain ⟨y6, hy6⟩ : ∃ y6, y6 = x ^^^ 54 := ⟨_, rfl⟩
        obtain ⟨y7, hy7⟩ : ∃ y7, y7 = x ^^^ 92 := ⟨_, rfl⟩
        have bx6 : bits .xor .u8 (x.toNat : Int) 54 = (y6.toNat : Int) := by rw [hy6]; exact u8_xorI x 54
        have bx7 : bits .xor .u8 (x.toNat : Int) 92 = (y7.toNat : Int) := by rw [hy7]; exact u8_xorI x 92
        rw [← hy6] at n6
        rw [← hy7] at n7
        have HR6 := Lib.hid hr6; have HR7 := Lib.hid hr7; have E6 := Lib.hid e6; have E7 := Lib.hid e7; have N6 := Lib.hid n6; have N7 := Lib.hid n7
        have HX := Lib.hid (fun o => hst.alloc_ o)
        have Q6 := Lib.hid (show (wr.alloc (.cells #[.int .u8 (y6.toNat : Int)] 5)).cell? ⟨wr.heap.size, 0, none⟩ = some (.int .u8 (y6.toNat : Int)) from cell_new rfl rfl)
        rw [e6, e7]
        clear hy6 hy7 hr6 hr7 e6 e7 n6 n7 hst
        go_wp2_with (at_builtin; refine Hid.out ?_)
        clear q
        refine Lib.hid ?_
        refine wpList_append_byte (F := L7 ++ F1) rfl (.tmp 31) (.tmp 34) rfl (m := preOf k 54 j) (A := A6) (c := c6) (by rw [E6.out]; rfl) HR6.out (by exact HX.out _) rfl y6 (by exact Q6.out) (j + 1) (by rw [E6.out]) (by omega) ?_
        rintro A6' c6' w5 ⟨A8, c8, L8, e8, hr8, h8⟩
        obtain ⟨rfl, el8, rfl⟩ : A6' = A8 ∧ j + 1 = (preOf k 54 j ++ [y6]).length ∧ c6' = c8 := by injection e8 with a b c; exact ⟨a, b, c⟩
        have h8' : St W w5 J (L7 ++ (L8 ++ F1)) := h8.swap
        have HR8 := Lib.hid hr8; have EL8 := Lib.hid el8
        have HX7 := Lib.hid (fun o => h8'.alloc_ o)
        have Q7 := Lib.hid (show (w5.alloc (.cells #[.int .u8 (y7.toNat : Int)] 5)).cell? ⟨w5.heap.size, 0, none⟩ = some (.int .u8 (y7.toNat : Int)) from cell_new rfl rfl)
        clear e8 hr8 h8 h8' HX Q6 HR6 E6 el8
        go_wp2_with (at_builtin; refine Hid.out ?_)
        refine Lib.hid ?_
        refine wpList_append_byte (F := L8 ++ F1) rfl (.tmp 36) (.tmp 39) rfl (m := preOf k 92 j) (A := A7) (c := c7) (by rw [E7.out]; rfl) HR7.out (by exact HX7.out _) rfl y7 (by exact Q7.out) (j + 1) (by rw [E7.out]) (by omega) ?_
        rintro A7' c7' w6 ⟨A9, c9, L9, e9, hr9, h9⟩
        obtain ⟨rfl, el9, rfl⟩ : A7' = A9 ∧ j + 1 = (preOf k 92 j ++ [y7]).length ∧ c7' = c9 := by injection e9 with a b c; exact ⟨a, b, c⟩
        have h9' : St W w6 J (L8 ++ (L9 ++ F1)) := h9.swap
        have hm2 : M2 W w6 J (.slice A6' (j + 1) c6') (.slice A7' (j + 1) c7') (preOf k 54 (j + 1)) (preOf k 92 (j + 1)) F1 := by
          rw [N6.out, N7.out]
          exact ⟨A6', c6', L8, A7', c7', L9, by rw [← EL8.out], by rw [← el9], HR8.out, hr9, h9'⟩
        have HM2 := Lib.hid hm2
        clear e9 hr9 h9 h9' HX7 Q7 HR7 E7 el9 hm2 HR8 EL8 bx6 bx7
        go_wp2_with fail
        go_roundw
        case rel => exact ⟨j + 1, by omega, by go_num, HM2.out⟩
        case measure => simp [intOf]; omega
      · have hjki : ¬ (j : Int) < 32 := by have := HK32.out; omega
        rw [key64_out k hjk] at n6 n7
        obtain ⟨x, hx⟩ : ∃ x : UInt8, x = 0 := ⟨_, rfl⟩
        rw [← hx] at n6 n7
        obtain ⟨y6, hy6⟩ : ∃ y6, y6 = x ^^^ 54 := ⟨_, rfl⟩
        obtain ⟨y7, hy7⟩ : ∃ y7, y7 = x ^^^ 92 := ⟨_, rfl⟩
        have bx6 : bits .xor .u8 (x.toNat : Int) 54 = (y6.toNat : Int) := by rw [hy6]; exact u8_xorI x 54
        have bx7 : bits .xor .u8 (x.toNat : Int) 92 = (y7.toNat : Int) := by rw [hy7]; exact u8_xorI x 92
        rw [← hy6] at n6
        rw [← hy7] at n7
        have HR6 := Lib.hid hr6; have HR7 := Lib.hid hr7; have E6 := Lib.hid e6; have E7 := Lib.hid e7; have N6 := Lib.hid n6; have N7 := Lib.hid n7
        have HX := Lib.hid (fun o => hst.alloc_ o)
        have Q6 := Lib.hid (show (wr.alloc (.cells #[.int .u8 (y6.toNat : Int)] 5)).cell? ⟨wr.heap.size, 0, none⟩ = some (.int .u8 (y6.toNat : Int)) from cell_new rfl rfl)
        rw [e6, e7]
        clear hy6 hy7 hr6 hr7 e6 e7 n6 n7 hst
        subst hx
        have hx0 : ((0 : UInt8).toNat : Int) = 0 := rfl
        rw [hx0] at bx6 bx7
        clear hx0
        go_wp2_with (at_builtin; refine Hid.out ?_)
        refine Lib.hid ?_
        refine wpList_append_byte (F := L7 ++ F1) rfl (.tmp 31) (.tmp 34) rfl (m := preOf k 54 j) (A := A6) (c := c6) (by rw [E6.out]; rfl) HR6.out (by exact HX.out _) rfl y6 (by exact Q6.out) (j + 1) (by rw [E6.out]) (by omega) ?_
        rintro A6' c6' w5 ⟨A8, c8, L8, e8, hr8, h8⟩
        obtain ⟨rfl, el8, rfl⟩ : A6' = A8 ∧ j + 1 = (preOf k 54 j ++ [y6]).length ∧ c6' = c8 := by injection e8 with a b c; exact ⟨a, b, c⟩
        have h8' : St W w5 J (L7 ++ (L8 ++ F1)) := h8.swap
        have HR8 := Lib.hid hr8; have EL8 := Lib.hid el8
        have HX7 := Lib.hid (fun o => h8'.alloc_ o)
        have Q7 := Lib.hid (show (w5.alloc (.cells #[.int .u8 (y7.toNat : Int)] 5)).cell? ⟨w5.heap.size, 0, none⟩ = some (.int .u8 (y7.toNat : Int)) from cell_new rfl rfl)
        clear e8 hr8 h8 h8' HX Q6 HR6 E6 el8
        go_wp2_with (at_builtin; refine Hid.out ?_)
        refine Lib.hid ?_
        refine wpList_append_byte (F := L8 ++ F1) rfl (.tmp 36) (.tmp 39) rfl (m := preOf k 92 j) (A := A7) (c := c7) (by rw [E7.out]; rfl) HR7.out (by exact HX7.out _) rfl y7 (by exact Q7.out) (j + 1) (by rw [E7.out]) (by omega) ?_
        rintro A7' c7' w6 ⟨A9, c9, L9, e9, hr9, h9⟩
        obtain ⟨rfl, el9, rfl⟩ : A7' = A9 ∧ j + 1 = (preOf k 92 j ++ [y7]).length ∧ c7' = c9 := by injection e9 with a b c; exact ⟨a, b, c⟩
        have h9' : St W w6 J (L8 ++ (L9 ++ F1)) := h9.swap
        have hm2 : M2 W w6 J (.slice A6' (j + 1) c6') (.slice A7' (j + 1) c7') (preOf k 54 (j + 1)) (preOf k 92 (j + 1)) F1 := by
          rw [N6.out, N7.out]
          exact ⟨A6', c6', L8, A7', c7', L9, by rw [← EL8.out], by rw [← el9], HR8.out, hr9, h9'⟩
        have HM2 := Lib.hid hm2
        clear e9 hr9 h9 h9' HX7 Q7 HR7 E7 el9 hm2 HR8 EL8 bx6 bx7
        go_wp2_with fail
        go_roundw
        case rel => exact ⟨j + 1, by omega, by go_num, HM2.out⟩
        case measure => simp [intOf]; omega
    · obtain rfl : j = 64 := by omega
      rw [preOf_all k 54 HKL.out] at hr6 e6
      rw [preOf_all k 92 HKL.out] at hr7 e7
      simp only [preOf_all k 54 HKL.out, preOf_all k 92 HKL.out]
      rw [e6] at hr6 ⊢
      rw [e7] at hr7 ⊢
      have hsrc := HPIN.out _ _ hst
      simp only at hsrc
      have HSRC := Lib.hid hsrc; have HR6 := Lib.hid hr6; have HR7 := Lib.hid hr7; have HST := Lib.hid hst
      clear hsrc hr6 hr7 hst
      go_wp2_with (at_builtin; refine Hid.out ?_)
      refine Lib.hid ?_
      refine wpList_append_row (F := L7 ++ F1) rfl (.tmp 41) (.tmp 42) _ rfl 5 (.int .u8 0) 1 1 Try.underlying22 (by kernel_rfl) rfl (by omega) rfl HR6.out (by exact HST.out) rfl (by exact HSRC.out) (one_bytes bs) (64 + bs.length) (by omega) ((padOf k 54 ++ bs).map bval) (by rw [List.map_append]) (by unfold maxLen; omega) (by omega) ?_
      intro A8 c8 w8 L8 hr8 h8
      clear HR6 HSRC HST
      have em : (padOf k 54 ++ bs).length = 64 + bs.length := by rw [List.length_append, e6]
      obtain ⟨mi, hmi0⟩ : ∃ mi, mi = padOf k 54 ++ bs := ⟨_, rfl⟩
      have MIE0 := Lib.hid hmi0
      have hmi : padOf k 54 ++ bs = mi := hmi0.symm
      clear hmi0
      rw [hmi] at hr8 em
      rw [← em] at hr8 ⊢
      obtain ⟨g8, o8, cur8, rfl, rfl, _, _, hc8⟩ := row_open hr8 (by omega)
      obtain ⟨J2, le2, hJ2, h9⟩ := St.freeze h8
      have hin2 : Part.In ⟨some ⟨g8, o8, none⟩, c8, mi⟩ W J2 := part_row hJ2 hc8
      have kr := refsum ⟨some ⟨g8, o8, none⟩, c8, mi⟩ hin2 (by show mi.length ≤ _; omega) h9
      simp only at kr
      rw [em] at kr
      have KR := Lib.hid kr; have LE2 := Lib.hid (HLE.out.trans le2); have EM := Lib.hid em
      clear kr hin2 h9 h8 hJ2 le2 hr8 hc8 hmi
      go_wp2_with fail
      refine KR.out.mono ?_
      clear KR
      rintro e w10 ⟨rfl, h10⟩
      have hx := hv_facts mi
      obtain ⟨z1, i1, f1, o1, x1, hb1⟩ := hx
      have H10 := Lib.hid (h10.alloc (.cells #[.int .u8 0, .int .u8 0, .int .u8 0, .int .u8 0, .int .u8 0, .int .u8 0, .int .u8 0, .int .u8 0, .int .u8 0, .int .u8 0, .int .u8 0, .int .u8 0, .int .u8 0, .int .u8 0, .int .u8 0, .int .u8 0, .int .u8 0, .int .u8 0, .int .u8 0, .int .u8 0, .int .u8 0, .int .u8 0, .int .u8 0, .int .u8 0, .int .u8 0, .int .u8 0, .int .u8 0, .int .u8 0, .int .u8 0, .int .u8 0, .int .u8 0, .int .u8 0] 26))
      have IX := Lib.hid i1; have FX := Lib.hid f1; have OX := Lib.hid o1; have EX := Lib.hid x1; have HB1 := Lib.hid hb1
      clear h10 z1 i1 f1 o1 x1 hb1
      have sb := slice_arr32
      go_wp2_with (first
        | (with_reducible refine wpList_store_st rfl 26 (.tmp 10) (.tmp 44) rfl (g := w10.heap.size) (off := 0) (HV mi) rfl rfl H10.out FX.out IX.out OX.out ?_; intro w11 h11; refine Hid.out ?_))
      refine Lib.hid ?_
      rw [EX.out] at h11
      clear H10 IX FX OX EX
      generalize w10.heap.size = g10 at *
      have h11' : St W w11 J2 (L7 ++ ((g10, .cells (HV mi) 26 (0, 0)) :: F1)) := h11.perm (List.perm_middle (l₁ := L7) (l₂ := F1)).symm
      have hs10 : Src w11 1 (some ⟨g10, 0, none⟩) 32 ((hashOf mi).map bval) := by
        refine ⟨by rw [List.length_map, hashOf_len], fun j u hj => ⟨_, rfl, ?_⟩⟩
        rw [show (⟨g10, 0, none⟩ : Addr).add j = ⟨g10, j, none⟩ by unfold Addr.add; split <;> simp_all, h11.cell (g := g10) (cs := HV mi) (t := 26) (fr := (0, 0)) (by simp), HB1.out]
        simpa [bcells] using hj
      have H11 := Lib.hid h11'; have HS10 := Lib.hid hs10
      clear h11 h11' hs10
      go_wp2_with (at_builtin; refine Hid.out ?_)
      refine Lib.hid ?_
      refine wpList_append_row (F := (g10, .cells (HV mi) 26 (0, 0)) :: F1) rfl (.tmp 45) (.tmp 46) _ rfl 5 (.int .u8 0) 1 1 Try.underlying22 (by kernel_rfl) rfl (by omega) rfl HR7.out (by exact H11.out) rfl (by exact HS10.out) (one_bytes (hashOf mi)) 96 (by omega) ((padOf k 92 ++ hashOf mi).map bval) (by rw [List.map_append]) (by unfold maxLen; omega) (by omega) ?_
      intro A12 c12 w12 L12 hr12 h12
      clear HR7 HS10 H11 sb
      have em2 : (padOf k 92 ++ hashOf mi).length = 96 := by rw [List.length_append, e7, hashOf_len]
      obtain ⟨mo, hmo⟩ : ∃ mo, mo = padOf k 92 ++ hashOf mi := ⟨_, rfl⟩
      rw [← hmo] at hr12 em2
      rw [← em2] at hr12 ⊢
      obtain ⟨g12, o12, cur12, rfl, rfl, _, _, hc12⟩ := row_open hr12 (by omega)
      obtain ⟨J3, le3, hJ3, h13⟩ := St.freeze h12
      have hin3 : Part.In ⟨some ⟨g12, o12, none⟩, c12, mo⟩ W J3 := part_row hJ3 hc12
      have kr := refsum ⟨some ⟨g12, o12, none⟩, c12, mo⟩ hin3 (by show mo.length ≤ _; omega) h13
      simp only at kr
      rw [em2] at kr
      have KR := Lib.hid kr; have LE3 := Lib.hid (LE2.out.trans le3); have EM2 := Lib.hid em2
      have HMO : Hid (mo = macOut kb bs) := Lib.hid (by rw [hmo, macOut, macIn, HKE.out, ← MIE0.out])
      clear kr hin3 h13 h12 hJ3 le3 hr12 hc12 hmo e6 e7
      go_wp2_with fail
      refine KR.out.mono ?_
      clear KR
      rintro e w14 ⟨rfl, h14⟩
      have hx := hv_facts mo
      obtain ⟨z1, i1, f1, o1, x1, hb1⟩ := hx
      have h14' : St W w14 J3 ((w.heap.size, .cells #[.int .u8 0, .int .u8 0, .int .u8 0, .int .u8 0, .int .u8 0, .int .u8 0, .int .u8 0, .int .u8 0, .int .u8 0, .int .u8 0, .int .u8 0, .int .u8 0, .int .u8 0, .int .u8 0, .int .u8 0, .int .u8 0, .int .u8 0, .int .u8 0, .int .u8 0, .int .u8 0, .int .u8 0, .int .u8 0, .int .u8 0, .int .u8 0, .int .u8 0, .int .u8 0, .int .u8 0, .int .u8 0, .int .u8 0, .int .u8 0, .int .u8 0, .int .u8 0] 26 (0, 0)) :: (g10, .cells (HV mi) 26 (0, 0)) :: F) := by
        rw [← HF1.out] at h14
        exact h14.perm (List.Perm.swap _ _ _)
      have H14 := Lib.hid h14'
      have IX := Lib.hid i1; have FX := Lib.hid f1; have OX := Lib.hid o1; have EX := Lib.hid x1
      clear h14 h14' z1 i1 f1 o1 x1 hb1
      go_wp2_with (with_reducible refine wpList_store_st rfl 26 (.tmp 4) (.tmp 48) rfl (g := w.heap.size) (off := 0) (HV mo) rfl rfl H14.out FX.out IX.out OX.out ?_; intro w15 h15; refine Hid.out ?_)
      refine Lib.hid ?_
      rw [EX.out] at h15
      go_wp2_with fail
      refine bodyPost_ret (results_cell_row rfl _ w15 w.heap.size 26 (HV mo) (0, 0) _ rfl (h15.own (w.heap.size, .cells (HV mo) 26 (0, 0)) (by simp)) Try.underlying26 (by kernel_rfl) IX.out) rfl ?_
      exact ⟨by rw [HMO.out], (St.weaken (A := [_, _]) h15).less LE3.out⟩

end Go.Proofs.Ytjkepnddmpgljaa
