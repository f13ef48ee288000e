/- glyph.escaped: walk. strings.Builder: String more than once: walk. glyph.Read: walk. -/
import Derived.Test.YtjcekmmieihllaaDoorPnR
import Derived.IntWalk
import Derived.Test.YtjcekmmieihllaaDoorTxA
import Derived.RegionTactic
import Derived.Test.YtjcekmmieihllaaDoorTxB
namespace Go.Proofs.YtjcekmmieihllaaDoor
section
set_option linter.unusedVariables false
set_option linter.unusedSimpArgs false
open Go.RowKit Go.Lib

def escR (l : List UInt8) : List UInt8 × Nat := (escO l).getD ([], 0)
theorem ext_list (s : ByteArray) (a b : Nat) (hb : b ≤ s.size) : (s.extract a b).data.toList = (s.data.toList.drop a).take (b - a) := by
  simp [ByteArray.data_extract, List.take_drop]
theorem indexByte_lt : ∀ (l : List UInt8) (c : UInt8), Lib.indexByte l c < l.length
  | [], c => by simp [Lib.indexByte]
  | b :: l, c => by
    have ih := indexByte_lt l c
    unfold Lib.indexByte
    simp only [List.length_cons]
    split
    · omega
    · split
      · omega
      · omega
theorem index_two (l : List UInt8) (h : Lib.hasPrefix l [117, 123] = true) (h0 : 0 ≤ Lib.indexByte l 125) : 2 ≤ Lib.indexByte l 125 := by
  match l, h with
  | [], h => simp [Lib.hasPrefix] at h
  | [a], h => simp [Lib.hasPrefix, List.isPrefixOf] at h
  | a :: b :: r, h =>
    simp [Lib.hasPrefix, List.isPrefixOf] at h
    obtain ⟨rfl, rfl⟩ := h
    have := Lib.indexByte_ge r 125
    simp only [Lib.indexByte] at h0 ⊢
    simp at h0 ⊢
    split at h0
    · omega
    · rename_i h1
      rw [if_neg h1]
      split at h0
      · omega
      · rename_i h2
        rw [if_neg h2]
        omega
theorem byteZ (n : Nat) : ((n : Int)).toNat.toUInt8 = UInt8.ofNat n := by simp
theorem encode_eq (n : Nat) (hn : n ≤ 1114111) : Utf8.encode (n : Int) = ⟨(Lib.encodeRune (n : Int)).toArray⟩ := by
  unfold Utf8.encode Lib.encodeRune
  by_cases hv : Utf8.valid (n : Int) = true
  · simp only [hv, if_true, Int.toNat_natCast]
    have hv2 : n < 55296 ∨ 57343 < n := by
      unfold Utf8.valid at hv
      simp at hv
      omega
    by_cases h1 : n < 128
    · rw [if_pos h1, Lib.encodeRuneZ_one (by omega) (by omega)]
      simp
    · rw [if_neg h1]
      by_cases h2 : n < 2048
      · rw [if_pos h2, Lib.encodeRuneZ_two (by omega) (by omega)]
        have e1 : (192 + (n : Int) / 64).toNat = 192 + n / 64 := by omega
        have e2 : (128 + (n : Int) % 64).toNat = 128 + n % 64 := by omega
        simp only [List.map_cons, List.map_nil, e1, e2]
      · rw [if_neg h2]
        by_cases h3 : n < 65536
        · rw [if_pos h3, Lib.encodeRuneZ_three (by omega)]
          have e1 : (224 + (n : Int) / 4096).toNat = 224 + n / 4096 := by omega
          have e2 : (128 + (n : Int) / 64 % 64).toNat = 128 + n / 64 % 64 := by omega
          have e3 : (128 + (n : Int) % 64).toNat = 128 + n % 64 := by omega
          simp only [List.map_cons, List.map_nil, e1, e2, e3]
        · rw [if_neg h3, Lib.encodeRuneZ_four (by omega) (by omega)]
          have e1 : (240 + (n : Int) / 262144).toNat = 240 + n / 262144 := by omega
          have e2 : (128 + (n : Int) / 4096 % 64).toNat = 128 + n / 4096 % 64 := by omega
          have e3 : (128 + (n : Int) / 64 % 64).toNat = 128 + n / 64 % 64 := by omega
          have e4 : (128 + (n : Int) % 64).toNat = 128 + n % 64 := by omega
          simp only [List.map_cons, List.map_nil, e1, e2, e3, e4]
  · have hv2 : 55296 ≤ n ∧ n ≤ 57343 := by
      unfold Utf8.valid at hv
      simp at hv
      omega
    rw [if_neg hv, Lib.encodeRuneZ_bad (by omega)]
    rfl
section
variable {W w : World} {I : Nat → Option Obj} {F : List (Nat × Obj)}
set_option maxRecDepth 100000 in
set_option maxHeartbeats 4000000 in
theorem glyph_escaped (ev : ErrV W I) (x : ByteArray) (hx : x.size ≤ 1000000000) (h : St W w I F) :
    Calls Tryd.prog 64 #[.string x] w fun e w' => e = .returned (.tuple #[.string ⟨(escR x.data.toList).1.toArray⟩, .int .i64 (escR x.data.toList).2]) ∧ St W w' I F := by
  have hsz : x.data.toList.length = x.size := by rw [Array.length_toList]; rfl
  have hes := escO.eq_1 x.data.toList
  have her := escR.eq_1 x.data.toList
  obtain ⟨r, hr⟩ : ∃ r, escR x.data.toList = r := ⟨_, rfl⟩
  rw [hr] at her ⊢
  rw [hsz] at hes
  have kN := fun (v : World) => Tryd.strings_IndexByte x 125 v
  have kH := fun (v : World) => Tryd.strings_HasPrefix x ⟨#[117, 123]⟩ v
  rw [show (125 : Int).toNat.toUInt8 = 125 from rfl] at kN
  rw [show (⟨#[117, 123]⟩ : ByteArray).data.toList = [117, 123] from rfl] at kH
  have kP := fun (y : ByteArray) (hy : y.size ≤ 1000000000) (v : World) (hv : St W v I F) => pu_x8 ev y hy hv
  have kQ := fun (y : ByteArray) (hy : y.size ≤ 1000000000) (v : World) (hv : St W v I F) => pu_x32 ev y hy hv
  by_cases hA : 3 ≤ x.size ∧ x.data.toList.getD 0 0 = 120
  · rw [if_pos hA] at hes
    obtain ⟨a3, a0⟩ := hA
    have hg0 : x[0]'(by omega) = 120 := by
      rw [List.getD_eq_getElem?_getD, List.getElem?_eq_getElem (by rw [hsz]; omega)] at a0
      exact a0
    have kP1 := kP (x.extract 1 3) (by simp; omega)
    rw [ext_list x 1 3 (by omega)] at kP1
    obtain ⟨R, hR⟩ : ∃ R, pN 16 255 (List.take (3 - 1) (List.drop 1 x.data.toList)) = R := ⟨_, rfl⟩
    rw [hR] at kP1
    rw [show List.take 2 (List.drop 1 x.data.toList) = List.take (3 - 1) (List.drop 1 x.data.toList) from rfl, hR] at hes
    have hRl : ∀ u, R = some u → u ≤ 255 := fun u hu => pN_le _ _ _ _ (hR.trans hu)
    have hg : ((x[0]'(by omega)).toNat : Int) = 120 := by rw [hg0]; rfl
    have a3' : (3 : Int) ≤ (x.size : Int) := by omega
    have a1 : 0 < x.size := by omega
    have KP := Lib.hid kP1; have H0 := Lib.hid h; have HES := Lib.hid hes; have HER := Lib.hid her; have HRL := Lib.hid hRl
    clear kP kQ kN kH kP1 h hes her hR hr a0 ev hRl
    go_enter Tryd.func64, Tryd.ntmps64
    go_wp2_with fail
    refine (KP.out _ H0.out).mono ?_
    rintro e w1 ⟨h1, he⟩
    have H1 := Lib.hid h1
    clear h1 KP H0
    cases R with
    | none =>
      obtain ⟨z, t, p, rfl⟩ := he
      have hr0 : r = ([], 0) := by rw [HER.out, HES.out]; rfl
      subst hr0
      clear HER HES HRL
      go_wp2_with fail
      go_ret2
      exact ⟨rfl, H1.out⟩
    | some u =>
      obtain rfl := he
      have hu := HRL.out u rfl
      have hr0 : r = ([UInt8.ofNat u], 3) := by rw [HER.out, HES.out]; rfl
      subst hr0
      have hw1 : IntKind.u8.wrap (u : Int) = (u : Int) := IntWalk.u8_in _ (by omega)
      have hcv : ∀ (v : World), (convert 104 9 (.slice (some ⟨v.heap.size, 0, none⟩) 1 1)).run Tryd.prog (v.alloc (.cells #[.int .u8 (u : Int)] 5)) = .ok (.string ⟨#[UInt8.ofNat u]⟩) (v.alloc (.cells #[.int .u8 (u : Int)] 5)) := fun v => by
        have hb : ((UInt8.ofNat u).toNat : Int) = u := by rw [UInt8.toNat_ofNat']; omega
        have h9 := run_convert_bytes_back (P := Tryd.prog) (v.alloc (.cells #[.int .u8 (u : Int)] 5)) 104 9 5 ⟨v.heap.size, 0, none⟩ 1 [UInt8.ofNat u] Tryd.underlying104 Tryd.underlying5 Tryd.underlying9 (fun j hj => by
          have hj0 : j = 0 := by simpa using hj
          subst hj0
          rw [Lib.add_plain, World.cell?_alloc_new]
          simp [hb]
          omega)
        exact h9
      have h2 := H1.out.alloc_ (.cells #[.int .u8 (u : Int)] 5)
      have H2 := Lib.hid h2
      clear HER HES HRL hu h2
      go_wp2_with fail
      go_ret2
      exact ⟨rfl, H2.out⟩
  · rw [if_neg hA] at hes
    have H0 := Lib.hid h
    have ix := indexByte_lt x.data.toList 125
    have ig := Lib.indexByte_ge x.data.toList 125
    have i2 := index_two x.data.toList
    obtain ⟨N, hN⟩ : ∃ N, Lib.indexByte x.data.toList 125 = N := ⟨_, rfl⟩
    rw [hN] at kN hes ix ig i2
    rw [hsz] at ix
    obtain ⟨Pf, hPf⟩ : ∃ P, Lib.hasPrefix x.data.toList [117, 123] = P := ⟨_, rfl⟩
    rw [hPf] at kH hes i2
    have KN := Lib.hid kN; have KH := Lib.hid kH; have HER := Lib.hid her
    have hin : x.size < 3 ∨ (3 ≤ x.size ∧ x.data.toList.getD 0 0 ≠ 120) := by
      by_cases h3 : x.size < 3
      · exact .inl h3
      · exact .inr ⟨by omega, fun h => hA ⟨by omega, h⟩⟩
    by_cases hP : Pf = true ∧ 0 ≤ N
    · obtain ⟨rfl, hN0⟩ := hP
      rw [if_pos ⟨rfl, hN0⟩] at hes
      have hN2 := i2 rfl hN0
      obtain ⟨k, rfl⟩ : ∃ k : Nat, N = (k : Int) := ⟨N.toNat, by omega⟩
      rw [Int.toNat_natCast] at hes
      have kQ1 := kQ (x.extract 2 k) (by simp; omega)
      rw [ext_list x 2 k (by omega)] at kQ1
      have hdt : List.drop 2 (List.take k x.data.toList) = List.take (k - 2) (List.drop 2 x.data.toList) := by rw [List.drop_take]
      rw [hdt] at hes
      obtain ⟨R, hR⟩ : ∃ R, pN 16 4294967295 (List.take (k - 2) (List.drop 2 x.data.toList)) = R := ⟨_, rfl⟩
      rw [hR] at kQ1 hes
      have hRl : ∀ u, R = some u → u ≤ 4294967295 := fun u hu => pN_le _ _ _ _ (hR.trans hu)
      have KQ := Lib.hid kQ1; have HES := Lib.hid hes; have HRL := Lib.hid hRl
      have hk2 : 2 ≤ k := by omega
      have hks : k ≤ x.size := by omega
      have hki : (2 : Int) ≤ (k : Int) := by omega
      have hki2 : (k : Int) ≤ (x.size : Int) := by omega
      have W2 : Calls Tryd.prog 64 #[.string x] w fun e w' => e = .returned (.tuple #[.string ⟨r.1.toArray⟩, .int .i64 r.2]) ∧ St W w' I F := by
        clear kP kQ kN kH kQ1 h hes her hR hr hdt i2 hN hPf hsz ev hRl hA
        have rest : ∀ (t9 : Value), True := fun _ => trivial
        clear rest
        rcases hin with h3 | ⟨h3, hx0⟩
        · have h3' : ¬ ((3 : Int) ≤ (x.size : Int)) := by omega
          exfalso
          omega
        · have h3' : (3 : Int) ≤ (x.size : Int) := by omega
          have a1 : 0 < x.size := by omega
          have hg : (((x[0]'a1).toNat : Int) == 120) = false := beq_eq_false_iff_ne.2 (fun h => hx0 (by
            rw [List.getD_eq_getElem?_getD, List.getElem?_eq_getElem (by rw [Array.length_toList]; exact a1)]
            apply UInt8.toNat_inj.1
            have : (x[0]'a1).toNat = 120 := by omega
            exact this))
          clear h3 hx0
          go_enter Tryd.func64, Tryd.ntmps64
          go_wp2_with fail
          refine (KN.out _).mono ?_
          rintro e w1 ⟨rfl, rfl⟩
          go_wp2_with fail
          refine (KH.out _).mono ?_
          rintro e w2 ⟨rfl, rfl⟩
          go_wp2_with fail
          refine (KQ.out _ H0.out).mono ?_
          rintro e w3 ⟨h3, he⟩
          have H3 := Lib.hid h3
          clear h3 KQ H0
          cases R with
          | none =>
            obtain ⟨z, t, p, rfl⟩ := he
            have hr0 : r = ([], 0) := by rw [HER.out, HES.out]; rfl
            subst hr0
            clear HER HES HRL
            go_wp2_with fail
            go_ret2
            exact ⟨rfl, H3.out⟩
          | some u =>
            obtain rfl := he
            have hu := HRL.out u rfl
            by_cases hbig : 1114111 < u
            · have hr0 : r = ([], 0) := by rw [HER.out, HES.out, Option.bind_some, if_pos hbig]; rfl
              subst hr0
              have hb2 : (1114111 : Int) < (u : Int) := by omega
              clear HER HES HRL hbig
              go_wp2_with fail
              go_ret2
              exact ⟨rfl, H3.out⟩
            · have hr0 : r = (Lib.encodeRune (u : Int), k + 1) := by rw [HER.out, HES.out, Option.bind_some, if_neg hbig]; rfl
              subst hr0
              have hb2 : (u : Int) ≤ 1114111 := by omega
              have hb0 : (0 : Int) ≤ (u : Int) := by omega
              have hbn : u ≤ 1114111 := by omega
              have hbd : decide ((1114111 : Int) < (u : Int)) = false := by simp; omega
              obtain ⟨z, hz⟩ : ∃ z : Int, (u : Int) = z := ⟨_, rfl⟩
              have hen := encode_eq u (by omega)
              have HEN := Lib.hid hen
              have HZ := Lib.hid hz
              rw [hz] at hb0 hb2 hbd HEN ⊢
              clear HER HES HRL hbig hen hz hu hbn
              go_wp2_with fail
              go_ret2
              exact ⟨by rw [HZ.out, ← HEN.out]; rfl, H3.out⟩
      exact W2
    · rw [if_neg hP] at hes
      have hr0 : r = ([], 0) := by rw [her, hes]; rfl
      subst hr0
      have hP2 : Pf = false ∨ (Pf = true ∧ N < 0) := by
        cases Pf with
        | false => exact .inl rfl
        | true => exact .inr ⟨rfl, Int.not_le.1 (fun h => hP ⟨rfl, h⟩)⟩
      clear kP kQ kN kH h hes her hr i2 hN hPf hsz ev hA hP HER
      rcases hP2 with rfl | ⟨rfl, hN0⟩
      all_goals
        rcases hin with h3 | ⟨h3, hx0⟩
        · have h3' : ¬ ((3 : Int) ≤ (x.size : Int)) := by omega
          clear h3
          go_enter Tryd.func64, Tryd.ntmps64
          go_wp2_with fail
          refine (KN.out _).mono ?_
          rintro e w1 ⟨rfl, rfl⟩
          go_wp2_with fail
          refine (KH.out _).mono ?_
          rintro e w2 ⟨rfl, rfl⟩
          go_wp2_with fail
          go_ret2
          exact ⟨rfl, H0.out⟩
        · have h3' : (3 : Int) ≤ (x.size : Int) := by omega
          have a1 : 0 < x.size := by omega
          have hg : (((x[0]'a1).toNat : Int) == 120) = false := beq_eq_false_iff_ne.2 (fun h => hx0 (by
            rw [List.getD_eq_getElem?_getD, List.getElem?_eq_getElem (by rw [Array.length_toList]; exact a1)]
            apply UInt8.toNat_inj.1
            have : (x[0]'a1).toNat = 120 := by omega
            exact this))
          clear h3 hx0
          go_enter Tryd.func64, Tryd.ntmps64
          go_wp2_with fail
          refine (KN.out _).mono ?_
          rintro e w1 ⟨rfl, rfl⟩
          go_wp2_with fail
          refine (KH.out _).mono ?_
          rintro e w2 ⟨rfl, rfl⟩
          go_wp2_with fail
          go_ret2
          exact ⟨rfl, H0.out⟩
end
end

section
set_option linter.unusedVariables false
set_option linter.unusedSimpArgs false
open Go.RowKit Go.Lib

theorem St.freezeIn {W w : World} {I : Nat → Option Obj} {g n : Nat} {cs : Array Value} {t : TypeId} {fr : Nat × Nat} {F : List (Nat × Obj)} (h : St W w I ((g, .cells cs t fr) :: F)) (i : Nat) : ∃ fr', St W (w.freeze ⟨g, i, none⟩ n) I ((g, .cells cs t fr') :: F) := by
  have hg := h.own (g, .cells cs t fr) (by simp)
  simp only at hg
  unfold World.freeze
  split
  · exact ⟨fr, h⟩
  · have hn := h.nodup
    simp only [List.map_cons, List.nodup_cons] at hn
    obtain ⟨lo, hi⟩ := fr
    refine ⟨if lo == hi then (i, i + n) else (min lo i, max hi (i + n)), h.os, h.tape, h.output, fun p hp => ?_, by simpa using h.nodup, fun b o' hb => ?_, fun p hp => ?_⟩
    · rcases List.mem_cons.1 hp with rfl | hp
      · simp only [Array.getElem?_modify]
        rw [if_pos trivial, hg]
        rfl
      · have hne : g ≠ p.1 := fun e => hn.1 (e ▸ List.mem_map_of_mem hp)
        simp only [Array.getElem?_modify]
        rw [if_neg hne]
        exact h.own p (by simp [hp])
    · have hne : g ≠ b := by
        rintro rfl
        have := h.apart (g, .cells cs t (lo, hi)) (by simp)
        simp only at this
        rw [this] at hb
        cases hb
      simp only [Array.getElem?_modify]
      rw [if_neg hne]
      exact h.imm b o' hb
    · rcases List.mem_cons.1 hp with rfl | hp
      · exact h.apart (g, .cells cs t (lo, hi)) (by simp)
      · exact h.apart p (by simp [hp])
/-- A builder that was read. -/
def BldF (W w : World) (I : Nat → Option Obj) (sb : Nat) (bs : List UInt8) (F : List (Nat × Obj)) : Prop :=
  ∃ A0 g c cur fr, bs ≠ [] ∧ bs.length ≤ c ∧ c ≤ 9223372036854775807 ∧ (∀ (j : Nat) (x : UInt8), bs[j]? = some x → cur[j]? = some (.int .u8 x.toNat)) ∧
    St W w I ((g, .cells cur 5 fr) :: (sb, .cells #[A0, .slice (some ⟨g, 0, none⟩) bs.length c] 106 (0, 0)) :: F)
theorem BldF.frame {W w : World} {I : Nat → Option Obj} {sb : Nat} {bs : List UInt8} {F : List (Nat × Obj)} (h : BldF W w I sb bs F) : St W w I F := by
  obtain ⟨A0, g, c, cur, fr, _, _, _, _, hst⟩ := h
  exact St.weaken (A := [_, _]) hst
theorem BldF.map {W w : World} {I : Nat → Option Obj} {sb : Nat} {bs : List UInt8} {F : List (Nat × Obj)} {f : FuncId} {args : Array Value} {R : Ending → Prop} (hf : ∀ L, St W w I L → Calls Tryd.prog f args w fun e w' => R e ∧ St W w' I L) (h : BldF W w I sb bs F) : Calls Tryd.prog f args w fun e w' => R e ∧ BldF W w' I sb bs F := by
  obtain ⟨A0, g, c, cur, fr, a1, a2, a3, a4, hst⟩ := h
  exact (hf _ hst).mono fun e w' ⟨h1, h2⟩ => ⟨h1, A0, g, c, cur, fr, a1, a2, a3, a4, h2⟩
theorem BldSt.toF {W w : World} {I : Nat → Option Obj} {sb : Nat} {bs : List UInt8} {F : List (Nat × Obj)} (h : BldSt W w I sb bs F) (hne : bs ≠ []) : BldF W w I sb bs F := by
  obtain ⟨A0, A, c, Lr, hA, hr, h0, hst⟩ := h
  have hlen : 0 < bs.length := by cases bs with | nil => exact absurd rfl hne | cons _ _ => simp
  obtain ⟨hl, ⟨_, hz, _⟩ | ⟨g, off, cap, cur, hv, rfl, hnc, hcm, hsz, hx⟩⟩ := id hr
  · omega
  injection hv with hv1 _ hv2
  subst hv1; subst hv2
  obtain rfl := h0 _ _ _ _ rfl
  have hst' : St W w I ([(g, .cells cur 5 (0, 0))] ++ ([(sb, .cells #[A0, .slice (some ⟨g, 0, none⟩) bs.length c] 106 (0, 0))] ++ F)) := St.swap (A := [(sb, _)]) hst
  refine ⟨A0, g, c, cur, (0, 0), hne, hnc, by unfold maxLen at hcm; omega, fun j x hj => ?_, hst'⟩
  obtain ⟨g', off', cap', cur', hA', hL', hc'⟩ := hr.cells (j := j) (u := .int .u8 x.toNat) (by rw [List.getElem?_map, hj]; rfl)
  injection hA' with e1
  injection e1 with e1
  injection e1 with eg eo
  subst eg; subst eo
  injection hL' with h9
  injection h9 with h9 h10
  injection h10 with h10
  subst h10
  simpa using hc'
set_option maxRecDepth 100000 in
set_option maxHeartbeats 1000000 in
theorem bldStringF {W w : World} {I : Nat → Option Obj} {sb : Nat} {bs : List UInt8} {F : List (Nat × Obj)} (h : BldF W w I sb bs F) :
    Calls Tryd.prog 59 #[.pointer (some ⟨sb, 0, none⟩)] w fun e w' => e = .returned (.string ⟨bs.toArray⟩) ∧ BldF W w' I sb bs F := by
  obtain ⟨A0, g, c, cur, fr, hne, hnc, hcm, hx, hst⟩ := h
  have hlen : 0 < bs.length := by cases bs with | nil => exact absurd rfl hne | cons _ _ => simp
  have c1 : w.drew.cell? ⟨sb, 1, none⟩ = some (.slice (some ⟨g, 0, none⟩) bs.length c) := hst.drew1.cell (g := sb) (cs := #[A0, .slice (some ⟨g, 0, none⟩) bs.length c]) (t := 106) (fr := (0, 0)) (by simp) 1
  have hg : w.heap[g]? = some (.cells cur 5 fr) := hst.own (g, .cells cur 5 fr) (by simp)
  have hSD : (Builtin.unsafeSliceData_ #[104] 135 #[.slice (some ⟨g, 0, none⟩) bs.length c]).run Tryd.prog w.drew = .ok (.pointer (some ⟨g, 0, none⟩)) w.drew :=
    Lib.run_unsafeSliceData_row _ _ _ _ _ _ (by omega)
  have hsz : bs.length ≤ cur.size := by
    have h1 := hx (bs.length - 1) _ (List.getElem?_eq_getElem (by omega))
    have := (Array.getElem?_eq_some_iff.1 h1).1
    omega
  have hUS : (Builtin.unsafeString_ #[135, 3] 9 #[.pointer (some ⟨g, 0, none⟩), .int .i64 bs.length]).run Tryd.prog w.drew = .ok (.string ⟨bs.toArray⟩) (w.drew.freeze ⟨g, 0, none⟩ bs.length) := by
    refine Lib.run_unsafeString_row (w := w.drew) 135 3 9 5 Tryd.underlying135 (by kernel_rfl) g cur.size (bldShape hg) bs hne (by omega) (by omega) ?_
    intro j x hj
    rw [show (⟨g, 0, none⟩ : Addr).add j = ⟨g, j, none⟩ by unfold Addr.add; split <;> simp_all, hst.drew1.cell (g := g) (cs := cur) (t := 5) (fr := fr) (by simp)]
    exact hx j x hj
  obtain ⟨fr', fin⟩ := St.freezeIn (n := bs.length) hst.drew1 0
  have fin2 : BldF W (w.drew.freeze ⟨g, 0, none⟩ bs.length) I sb bs F := ⟨A0, g, c, cur, fr', hne, hnc, hcm, hx, fin⟩
  have Fin := Lib.hid fin2
  clear fin fin2 hst hg hx hsz hne hcm
  generalize w.drew.freeze ⟨g, 0, none⟩ bs.length = w9 at *
  generalize bs.length = nb at *
  go_enter Tryd.func59, Tryd.ntmps59
  go_wp2_with fail
  go_region
  all_goals
    go_wp2_with fail
    go_ret
    exact ⟨rfl, Fin.out⟩
set_option maxRecDepth 100000 in
set_option maxHeartbeats 1000000 in
theorem bldString0k {W w : World} {I : Nat → Option Obj} {sb : Nat} {F : List (Nat × Obj)} (hst : St W w I ((sb, .cells #[.pointer none, .slice none 0 0] 106 (0, 0)) :: F)) :
    Calls Tryd.prog 59 #[.pointer (some ⟨sb, 0, none⟩)] w fun e w' => e = .returned (.string ⟨#[]⟩) ∧ St W w' I ((sb, .cells #[.pointer none, .slice none 0 0] 106 (0, 0)) :: F) := by
  have c1 : w.drew.cell? ⟨sb, 1, none⟩ = some (.slice none 0 0) := hst.drew1.cell (g := sb) (cs := #[.pointer none, .slice none 0 0]) (t := 106) (fr := (0, 0)) (by simp) 1
  have hSD : (Builtin.unsafeSliceData_ #[104] 135 #[.slice none 0 0]).run Tryd.prog w.drew = .ok (.pointer none) w.drew :=
    Lib.run_unsafeSliceData_nil _ _ _ _ _
  have hUS : (Builtin.unsafeString_ #[135, 3] 9 #[.pointer none, .int .i64 0]).run Tryd.prog w.drew = .ok (.string ⟨#[]⟩) w.drew := Lib.run_unsafeString_none _ _ _ _ _
  have fin : ∀ n, St W (w.drewN n) I ((sb, .cells #[.pointer none, .slice none 0 0] 106 (0, 0)) :: F) := fun n => hst.drew n
  have Fin := Lib.hid fin
  clear fin hst
  go_enter Tryd.func59, Tryd.ntmps59
  go_wp2_with fail
  go_region
  all_goals
    go_wp2_with fail
    go_ret
    exact ⟨rfl, Fin.out 1⟩
end

section
set_option linter.unusedVariables false
set_option linter.unusedSimpArgs false
open Go.RowKit Go.Lib

/-- What Read answers. -/
def readR (l : List UInt8) : List UInt8 × Int := match readO l with
  | none => ([], 41)
  | some b => if showOf ⟨b.toArray⟩ = l then (b, 0) else ([], 41)
theorem tail_get (s : ByteArray) (pos k : Nat) (h : pos + k < s.size) (h2 : k < (tailOf s pos).size) : (tailOf s pos)[k]'h2 = s[pos + k]'h := by
  simp [tailOf, ByteArray.getElem_extract]
theorem tail_list (s : ByteArray) (pos : Nat) : (tailOf s pos).data.toList = s.data.toList.drop pos := by
  unfold tailOf
  rw [ext_list s pos s.size (Nat.le_refl _)]
  exact List.take_of_length_le (by rw [List.length_drop, Array.length_toList]; exact Nat.le_refl _)
theorem escO_len (l : List UInt8) (t : List UInt8) (u : Nat) (h : escO l = some (t, u)) : 1 ≤ u ∧ u ≤ l.length ∧ 1 ≤ t.length ∧ t.length ≤ 4 := by
  unfold escO at h
  split at h
  · rename_i h1
    cases hp : pN 16 255 (List.take 2 (List.drop 1 l)) with
    | none => rw [hp] at h; cases h
    | some n =>
      rw [hp] at h
      simp at h
      obtain ⟨rfl, rfl⟩ := h
      simp
      omega
  · split at h
    · rename_i h1
      have hlt := indexByte_lt l 125
      cases hp : pN 16 4294967295 (List.drop 2 (List.take (Lib.indexByte l 125).toNat l)) with
      | none => rw [hp] at h; cases h
      | some n =>
        rw [hp] at h
        simp only [Option.bind_some] at h
        split at h
        · cases h
        · simp at h
          obtain ⟨rfl, rfl⟩ := h
          have hl := Lib.encodeRuneZ_length (n : Int)
          unfold Lib.encodeRune
          rw [List.length_map]
          omega
    · cases h
theorem str_from (x : ByteArray) (k : Nat) (hk : k ≤ x.size) (w : World) : (Instr.slice 9 (.string x) (some (.int .i64 (k : Int))) none none).run Tryd.prog w = .ok (.string (x.extract k x.size)) w := by
  have h1 : (0 : Int) ≤ (k : Int) ∧ (k : Int) ≤ (x.size : Int) := by omega
  simp [Instr.slice, run_underlying Tryd.underlying9, Instr.sliceBounds, Instr.sliceBound, asIntOf, h1, hk]
section
variable {W w : World} {I : Nat → Option Obj} {F : List (Nat × Obj)}
def RdPost (W : World) (I : Nat → Option Obj) (F : List (Nat × Obj)) (r : List UInt8 × Int) (e : Ending) (w' : World) : Prop := e = .returned (.tuple #[.string ⟨r.1.toArray⟩, .int .i64 r.2]) ∧ St W w' I F
set_option maxRecDepth 100000 in
set_option maxHeartbeats 4000000 in
theorem glyph_read (t : TB W I) (ht : roCell I ⟨14, 15, none⟩ = some (.int .u8 4)) (ev : ErrV W I) (s : ByteArray) (hs : s.size ≤ 100000000) (h : St W w I F) :
    Calls Tryd.prog 41 #[.string s] w (RdPost W I F (readR s.data.toList)) := by
  obtain ⟨sb, hsb⟩ : ∃ sb, w.heap.size = sb := ⟨_, rfl⟩
  have h1 := h.alloc (.cells #[.pointer none, .slice none 0 0] 106)
  rw [hsb] at h1
  have hll : s.data.toList.length = s.size := by rw [Array.length_toList]; rfl
  have hrr := readR.eq_1 s.data.toList
  obtain ⟨R, hR⟩ : ∃ R, readR s.data.toList = R := ⟨_, rfl⟩
  rw [hR] at hrr ⊢
  unfold readO at hrr
  rw [hll] at hrr
  have kS := fun (b : ByteArray) (hb : b.size ≤ 1000000000) (v : World) (F : List (Nat × Obj)) (hv : St W v I F) => show_any t ht b hb hv
  have kE := fun (x : ByteArray) (hx : x.size ≤ 1000000000) (v : World) (F : List (Nat × Obj)) (hv : St W v I F) => glyph_escaped ev x hx hv
  have H1 := Lib.hid h1; have HRR := Lib.hid hrr; have KS := Lib.hid kS; have KE := Lib.hid kE; have HLL := Lib.hid hll
  clear h1 hrr kS kE h t ht ev hR hll
  by_cases hs0 : s.size = 0
  · have hl0 : s.data.toList = [] := List.eq_nil_of_length_eq_zero (by rw [HLL.out]; exact hs0)
    have hso : showOf (⟨#[]⟩ : ByteArray) = [] := by
      have := showOf_len (⟨#[]⟩ : ByteArray)
      exact List.eq_nil_of_length_eq_zero (by have h2 : (⟨#[]⟩ : ByteArray).size = 0 := rfl; omega)
    have hR0 : R = ([], 0) := by
      rw [HRR.out, hl0, hs0]
      simp only [rdO]
      rw [if_pos hso]
    subst hR0
    have hemp : (!s.toList.isEmpty) = false := by
      rw [ByteArray.toList_eq, hl0]
      rfl
    have hse : s.toList = [] := by rw [ByteArray.toList_eq, hl0]
    have kS0 := fun (v : World) (F : List (Nat × Obj)) (hv : St W v I F) => KS.out ⟨#[]⟩ (by decide) v F hv
    rw [hso] at kS0
    have KS0 := Lib.hid kS0
    have HEMP := Lib.hid hemp; have HSE := Lib.hid hse
    clear kS0 HRR HLL KS KE hs0 hl0 hso hemp hse
    go_enter Tryd.func41, Tryd.ntmps41
    go_wp2_with fail
    go_loopw [5] (fun v wr => v = .string s ∧ St W wr I ((sb, .cells #[.pointer none, .slice none 0 0] 106 (0, 0)) :: F)) (fun _ _ => 0)
    case atStart => exact ⟨rfl, H1.out⟩
    case round =>
      obtain ⟨rfl, hst⟩ := hrel
      have H2 := Lib.hid hst
      have hemp := HEMP.out
      clear hst H1
      go_wp2_with fail
      refine (bldString0k H2.out).mono ?_
      rintro e w1 ⟨rfl, h2⟩
      have H3 := Lib.hid h2
      clear h2 H2
      go_wp2_with fail
      refine (KS0.out _ _ H3.out).mono ?_
      rintro e w2 ⟨rfl, h3⟩
      have H4 := Lib.hid h3
      clear h3 H3
      have hse := HSE.out
      go_wp2_with fail
      refine (bldString0k H4.out).mono ?_
      rintro e w3 ⟨rfl, h4⟩
      have H5 := Lib.hid (St.weaken (A := [_]) h4)
      clear h4 H4
      go_wp2_with fail
      go_ret2
      exact ⟨rfl, H5.out⟩
  go_enter Tryd.func41, Tryd.ntmps41
  go_wp2_with fail
  go_loopw [5] (fun v wr => ∃ (f pos : Nat) (acc : List UInt8), v = .string (tailOf s pos) ∧ pos ≤ s.size ∧ s.size - pos < f ∧ acc.length ≤ 4 * pos ∧ (acc = [] → pos = 0) ∧ rdO (s.size + 1) [] s.data.toList = rdO f acc (s.data.toList.drop pos) ∧ BldSt W wr I sb acc F) (fun v _ => match v with | .string x => x.size | _ => 0)
  case atStart => exact ⟨s.size + 1, 0, [], by rw [show tailOf s 0 = s by apply ByteArray.ext; simp [tailOf]], by omega, by omega, by simp, fun _ => rfl, by simp, ⟨_, none, 0, [], .inl rfl, Row.nil _ _, Off0.nil, H1.out⟩⟩
  case round =>
    obtain ⟨f, pos, acc, rfl, hp, hf, hal, hac, hro, hB⟩ := hrel
    clear H1
    have hts := tailOf_size s pos
    have htl := tail_list s pos
    obtain ⟨g, rfl⟩ : ∃ g, f = g + 1 := ⟨f - 1, by omega⟩
    by_cases hpl : pos < s.size
    · have hne : (!(tailOf s pos).toList.isEmpty) = true := by
        rw [← decide_eq_emptyBytes]
        simp
        intro h
        rw [h] at hts
        simp at hts
        omega
      have hl : pos < s.data.toList.length := by rw [HLL.out]; exact hpl
      have hget : s.data.toList[pos]'hl = s[pos]'hpl := rfl
      rw [List.drop_eq_getElem_cons hl, hget] at hro
      have hg0 := tail_get s pos 0 hpl (by rw [hts]; omega)
      have h0s : 0 < (tailOf s pos).size := by rw [hts]; omega
      obtain ⟨c, hc⟩ : ∃ c, s[pos]'hpl = c := ⟨_, rfl⟩
      simp only [Nat.add_zero] at hg0
      rw [hc] at hg0 hro
      have HTS := Lib.hid hts
      by_cases h92 : c = 92
      · subst h92
        have hcb : (((92 : UInt8).toNat : Int) != 92) = false := by decide
        have hg0' : (((tailOf s pos)[0]'h0s).toNat : Int) = 92 := by rw [hg0]; rfl
        have hb2 : ((((tailOf s pos)[0]'h0s).toNat : Int) != 92) = false := by rw [hg0']; rfl
        have hs1 := fun v => str_from (tailOf s pos) 1 (by rw [hts]; omega) v
        rw [show (tailOf s pos).extract 1 (tailOf s pos).size = tailOf s (pos + 1) from tail_tail s pos 1 (by omega)] at hs1
        have hs1 : ∀ v, (Instr.slice 9 (.string (tailOf s pos)) (some (.int .i64 1)) none none).run Tryd.prog v = .ok (.string (tailOf s (pos + 1))) v := hs1
        have kE1 := BldSt.map (fun L hL => KE.out (tailOf s (pos + 1)) (by rw [tailOf_size]; omega) wr L hL) hB
        rw [tail_list s (pos + 1)] at kE1
        have hdl : (s.data.toList.drop (pos + 1)).length = s.size - (pos + 1) := by rw [List.length_drop, HLL.out]
        cases hes : escO (s.data.toList.drop (pos + 1)) with
        | none =>
          have hro2 : rdO (s.size + 1) [] s.data.toList = none := by
            rw [hro]
            simp only [rdO]
            rw [hes]
            rfl
          have hR0 : R = ([], 41) := by rw [HRR.out, hro2]
          subst hR0
          rw [show escR (s.data.toList.drop (pos + 1)) = ([], 0) by rw [escR, hes]; rfl] at kE1
          have KE1 := Lib.hid kE1
          clear kE1 hes hro2 hro hdl HRR hB hg0 hc hts htl hl hget hac
          go_wp2_with fail
          refine KE1.out.mono ?_
          rintro e w1 ⟨rfl, h2⟩
          have H2 := Lib.hid h2.frame
          clear h2 KE1
          go_wp2_with fail
          go_ret2
          exact ⟨rfl, H2.out⟩
        | some r =>
          obtain ⟨tx, u⟩ := r
          obtain ⟨u1, u2, t1, t4⟩ := escO_len _ _ _ hes
          rw [hdl] at u2
          have hro2 : rdO (s.size + 1) [] s.data.toList = rdO g (acc ++ tx) (s.data.toList.drop (pos + 1 + u)) := by
            rw [hro]
            simp only [rdO]
            rw [hes]
            simp only [if_pos, List.drop_drop]
          rw [show escR (s.data.toList.drop (pos + 1)) = (tx, u) by rw [escR, hes]; rfl] at kE1
          have hs2 := fun v => str_from (tailOf s pos) (1 + u) (by rw [hts]; omega) v
          rw [show (tailOf s pos).extract (1 + u) (tailOf s pos).size = tailOf s (pos + 1 + u) by rw [Nat.add_assoc]; exact tail_tail s pos (1 + u) (by omega)] at hs2
          have hs2 : ∀ v, (Instr.slice 9 (.string (tailOf s pos)) (some (.int .i64 (1 + (u : Int)))) none none).run Tryd.prog v = .ok (.string (tailOf s (pos + 1 + u))) v := by
            intro v
            have := hs2 v
            rwa [show ((1 + u : Nat) : Int) = 1 + (u : Int) by omega] at this
          have hu0 : ((u : Int) == 0) = false := beq_eq_false_iff_ne.2 (by omega)
          have hut : (0 : Int) ≤ (u : Int) := by omega
          have hub : (u : Int) ≤ 1000000000 := by omega
          have hts2 := tailOf_size s (pos + 1 + u)
          obtain ⟨nx, hnx⟩ : ∃ x, tailOf s (pos + 1 + u) = x := ⟨_, rfl⟩
          rw [hnx] at hs2 hts2
          have KE1 := Lib.hid kE1; have HRO := Lib.hid hro2; have HNX := Lib.hid hnx; have HT2 := Lib.hid hts2
          clear kE1 hes hro2 hro hdl hB hg0 hc hts htl hl hget hac hnx hts2
          go_wp2_with fail
          refine KE1.out.mono ?_
          rintro e w1 ⟨rfl, h2⟩
          have kw := bldWs ⟨tx.toArray⟩ h2 (by have : (⟨tx.toArray⟩ : ByteArray).size = tx.length := by simp [ByteArray.size]
                                               rw [this]; omega)
          rw [show sL ⟨tx.toArray⟩ = tx by simp [sL]] at kw
          have KW := Lib.hid kw
          clear h2 KE1 kw
          go_wp2_with fail
          refine KW.out.mono ?_
          rintro e w2 ⟨v, rfl, h4⟩
          have H4 := Lib.hid h4
          clear h4 KW
          go_wp2_with fail
          go_roundw
          case rel => exact ⟨g, pos + 1 + u, acc ++ tx, by rw [HNX.out], by omega, by omega, by rw [List.length_append]; omega, fun h => by simp at h; rw [h.2] at t1; simp at t1, HRO.out, H4.out⟩
          case measure =>
            simp only [HT2.out, HTS.out]
            omega
      · have hci : ((c.toNat : Int) != 92) = true := by
          rw [bne_iff_ne]
          intro h
          exact h92 (UInt8.toNat_inj.1 (by rw [show (92 : UInt8).toNat = 92 from rfl]; omega))
        have hg1 : (((tailOf s pos)[0]'h0s).toNat : Int) = (c.toNat : Int) := by rw [hg0]
        have hs1 := fun v => str_from (tailOf s pos) 1 (by rw [hts]; omega) v
        rw [show (tailOf s pos).extract 1 (tailOf s pos).size = tailOf s (pos + 1) from tail_tail s pos 1 (by omega)] at hs1
        have hs1 : ∀ v, (Instr.slice 9 (.string (tailOf s pos)) (some (.int .i64 1)) none none).run Tryd.prog v = .ok (.string (tailOf s (pos + 1))) v := hs1
        have hro2 : rdO (s.size + 1) [] s.data.toList = rdO g (acc ++ [c]) (s.data.toList.drop (pos + 1)) := by
          rw [hro]
          simp only [rdO]
          rw [if_neg h92]
        have kb := bldByte c hB (by omega)
        have hts2 := tailOf_size s (pos + 1)
        obtain ⟨nx, hnx⟩ : ∃ x, tailOf s (pos + 1) = x := ⟨_, rfl⟩
        rw [hnx] at hs1 hts2
        have KB := Lib.hid kb; have HRO := Lib.hid hro2; have HNX := Lib.hid hnx; have HT2 := Lib.hid hts2
        clear kb hro2 hro hB hg0 hc hts htl hl hget hac hnx hts2 h92
        go_wp2_with fail
        refine KB.out.mono ?_
        rintro e w1 ⟨rfl, h2⟩
        have H2 := Lib.hid h2
        clear h2 KB
        go_wp2_with fail
        go_roundw
        case rel => exact ⟨g, pos + 1, acc ++ [c], by rw [HNX.out], by omega, by omega, by rw [List.length_append]; simp; omega, fun h => by simp at h, HRO.out, H2.out⟩
        case measure =>
          simp only [HT2.out, HTS.out]
          omega
    · have hpe : pos = s.size := by omega
      subst hpe
      have hemp : (!(tailOf s s.size).toList.isEmpty) = false := by
        rw [← decide_eq_emptyBytes]
        simp
        apply ByteArray.ext
        apply Array.toList_inj.1
        rw [htl]
        exact List.drop_eq_nil_of_le (by rw [HLL.out]; exact Nat.le_refl _)
      rw [List.drop_eq_nil_of_le (by rw [HLL.out]; exact Nat.le_refl _)] at hro
      have hro2 : rdO (s.size + 1) [] s.data.toList = some acc := hro
      have hrr := HRR.out
      rw [hro2] at hrr
      simp only at hrr
      have ha : acc ≠ [] := fun h => hs0 (hac h)
      have hF := hB.toF ha
      have hal2 : acc.length ≤ 400000000 := by omega
      have kS1 := BldF.map (fun L hL => KS.out ⟨acc.toArray⟩ (by simp [ByteArray.size]; omega) wr L hL) hF
      have kS2 := fun (v : World) (hv : BldF W v I sb acc F) => BldF.map (fun L hL => KS.out ⟨acc.toArray⟩ (by simp [ByteArray.size]; omega) v L hL) hv
      have k1 := fun (v : World) (hv : BldF W v I sb acc F) => bldStringF hv
      obtain ⟨sx, hsx⟩ : ∃ x : ByteArray, (⟨(showOf ⟨acc.toArray⟩).toArray⟩ : ByteArray) = x := ⟨_, rfl⟩
      rw [hsx] at kS2
      have hxl : sx.toList = showOf ⟨acc.toArray⟩ := by rw [← hsx, ByteArray.toList_eq]
      have HF := Lib.hid hF; have KS2 := Lib.hid kS2; have K1 := Lib.hid k1
      by_cases he : showOf ⟨acc.toArray⟩ = s.data.toList
      · rw [if_pos he] at hrr
        subst hrr
        have hq : (sx.toList == s.toList) = true := by rw [hxl, he, ByteArray.toList_eq]; exact beq_self_eq_true _
        clear hF kS1 kS2 k1 hsx hxl he hro hro2 HRR hB htl hts HLL KS KE hac ha
        go_wp2_with fail
        refine (K1.out _ HF.out).mono ?_
        rintro e w1 ⟨rfl, h2⟩
        have H2 := Lib.hid h2
        clear h2 HF
        go_wp2_with fail
        refine (KS2.out _ H2.out).mono ?_
        rintro e w2 ⟨rfl, h3⟩
        have H3 := Lib.hid h3
        clear h3 H2
        go_wp2_with fail
        refine (K1.out _ H3.out).mono ?_
        rintro e w3 ⟨rfl, h4⟩
        have H4 := Lib.hid h4.frame
        clear h4 H3
        go_wp2_with fail
        go_ret2
        exact ⟨rfl, H4.out⟩
      · rw [if_neg he] at hrr
        subst hrr
        have hq : (sx.toList == s.toList) = false := by rw [hxl, ByteArray.toList_eq]; exact beq_eq_false_iff_ne.2 he
        clear hF kS1 kS2 k1 hsx hxl he hro hro2 HRR hB htl hts HLL KS KE hac ha
        go_wp2_with fail
        refine (K1.out _ HF.out).mono ?_
        rintro e w1 ⟨rfl, h2⟩
        have H2 := Lib.hid h2
        clear h2 HF
        go_wp2_with fail
        refine (KS2.out _ H2.out).mono ?_
        rintro e w2 ⟨rfl, h3⟩
        have H3 := Lib.hid h3.frame
        clear h3 H2
        go_wp2_with fail
        go_ret2
        exact ⟨rfl, H3.out⟩
end
end
end Go.Proofs.YtjcekmmieihllaaDoor
