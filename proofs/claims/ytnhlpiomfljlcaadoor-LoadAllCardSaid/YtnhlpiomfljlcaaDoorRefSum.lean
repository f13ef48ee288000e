/- The reference's Sum. -/
import Derived.Test.YtnhlpiomfljlcaaDoorDrefA
import Derived.Test.YtnhlpiomfljlcaaDoorQtail
import Derived.Test.YtnhlpiomfljlcaaDoorHashB
namespace Go.Proofs.YtnhlpiomfljlcaaDoor
set_option linter.unusedVariables false
set_option linter.unusedSimpArgs false
open Go.RowKit

def addTo (l x : List Wd) : Nat → List Wd
  | 0 => l
  | i + 1 => (addTo l x i).set i (l.getD i 0 + x.getD i 0)
theorem addTo_len (l x : List Wd) : ∀ i, (addTo l x i).length = l.length
  | 0 => rfl
  | i + 1 => by rw [addTo, List.length_set, addTo_len l x i]
theorem addTo_get (l x : List Wd) : ∀ i j, i ≤ j → (addTo l x i).getD j 0 = l.getD j 0
  | 0, _, _ => rfl
  | i + 1, j, h => by
    rw [addTo, List.getD_eq_getElem?_getD, List.getElem?_set_ne (by omega), ← List.getD_eq_getElem?_getD, addTo_get l x i j (by omega)]
theorem part_set (n : Nat) (l : List Wd) (i : Nat) (y : Wd) (h : l.length = n) : (part n l).setIfInBounds i (wval y) = part n (l.set i y) := by
  rw [part_full n l h, part_full n _ (by rw [List.length_set]; exact h), List.map_set]
  simp


theorem bpart_next (S : List Wd) (n : Nat) (h : n < 32) : (bpart ((List.range n).map (hashByte S))).setIfInBounds n (bval (hashByte S n)) = bpart ((List.range (n + 1)).map (hashByte S)) := by
  have := bpart_push ((List.range n).map (hashByte S)) (hashByte S n) (by simpa using h)
  rw [List.length_map, List.length_range] at this
  rw [this, List.range_succ, List.map_append]
  rfl


def RefPost (W : World) (I : Nat → Option Obj) (bs : List UInt8) (F : List (Nat × Obj)) (e : Ending) (w' : World) : Prop := e = .returned (.agg (HV bs)) ∧ St W w' I F
/-- What the last byte's weight is. -/
def wgt (k : Nat) : Nat := 72057594037927936 / 256 ^ k

theorem row_open {A : Option Addr} {c : Nat} {m : List UInt8} {L : List (Nat × Obj)} (hr : Row 5 1 (.slice A m.length c) m.length (m.map bval) L) (h0 : 0 < m.length) :
    ∃ gs off cur, A = some ⟨gs, off, none⟩ ∧ L = [(gs, .cells cur 5 (0, 0))] ∧ m.length ≤ c ∧ c ≤ maxLen ∧ ∀ j, j < m.length → cur[off + j]? = some (.int .u8 ((m.getD j 0).toNat : Int)) := by
  obtain ⟨hl, ⟨_, h1, _⟩ | ⟨g, off, cap, cur, hv, rfl, hc, hm, hs, hx⟩⟩ := hr
  · omega
  injection hv with hv1 _ hv2
  subst hv1; subst hv2
  refine ⟨g, off, cur, rfl, rfl, hc, hm, fun j hj => ?_⟩
  have h1 : (m.map bval)[j]? = some (.int .u8 ((m.getD j 0).toNat : Int)) := by
    rw [List.getElem?_map, List.getElem?_eq_getElem hj, List.getD_eq_getElem?_getD, List.getElem?_eq_getElem hj]
    rfl
  rw [← hx, List.getElem?_take, if_pos (by omega), List.getElem?_drop, Array.getElem?_toList] at h1
  exact h1

set_option maxRecDepth 100000 in
set_option maxHeartbeats 8000000 in
theorem refsum {W w : World} {I : Nat → Option Obj} {F : List (Nat × Obj)} (p : Part) (hp : p.In W I) (hl : p.bs.length ≤ 1000000) (hst : St W w I F) :
    Calls Tryd.prog 43 #[.slice p.A p.bs.length p.c] w (RefPost W I p.bs F) := by
  obtain ⟨A, c, bs⟩ := p
  simp only at hl ⊢
  have h0 := hst.alloc (.cells #[.int .u8 0, .int .u8 0, .int .u8 0, .int .u8 0, .int .u8 0, .int .u8 0, .int .u8 0, .int .u8 0, .int .u8 0, .int .u8 0, .int .u8 0, .int .u8 0, .int .u8 0, .int .u8 0, .int .u8 0, .int .u8 0, .int .u8 0, .int .u8 0, .int .u8 0, .int .u8 0, .int .u8 0, .int .u8 0, .int .u8 0, .int .u8 0, .int .u8 0, .int .u8 0, .int .u8 0, .int .u8 0, .int .u8 0, .int .u8 0, .int .u8 0, .int .u8 0] 50)
  generalize hF1 : (w.heap.size, Obj.cells #[.int .u8 0, .int .u8 0, .int .u8 0, .int .u8 0, .int .u8 0, .int .u8 0, .int .u8 0, .int .u8 0, .int .u8 0, .int .u8 0, .int .u8 0, .int .u8 0, .int .u8 0, .int .u8 0, .int .u8 0, .int .u8 0, .int .u8 0, .int .u8 0, .int .u8 0, .int .u8 0, .int .u8 0, .int .u8 0, .int .u8 0, .int .u8 0, .int .u8 0, .int .u8 0, .int .u8 0, .int .u8 0, .int .u8 0, .int .u8 0, .int .u8 0, .int .u8 0] 50) :: F = F1 at h0
  have HF1 := Lib.hid hF1
  have h1 : St W ((w.alloc (.cells #[.int .u8 0, .int .u8 0, .int .u8 0, .int .u8 0, .int .u8 0, .int .u8 0, .int .u8 0, .int .u8 0, .int .u8 0, .int .u8 0, .int .u8 0, .int .u8 0, .int .u8 0, .int .u8 0, .int .u8 0, .int .u8 0, .int .u8 0, .int .u8 0, .int .u8 0, .int .u8 0, .int .u8 0, .int .u8 0, .int .u8 0, .int .u8 0, .int .u8 0, .int .u8 0, .int .u8 0, .int .u8 0, .int .u8 0, .int .u8 0, .int .u8 0, .int .u8 0] 50)).alloc (.cells #[] 5)) I ([(w.heap.size + 1, .cells #[] 5 (0, 0))] ++ F1) := by
    have := h0.alloc (.cells #[] 5)
    rwa [World.size_alloc] at this
  have hsrc := hp _ _ h1
  simp only at hsrc
  have H1 := Lib.hid h1; have HSRC := Lib.hid hsrc
  clear hF1 h0 h1 hsrc hst hp
  go_enter Tryd.func43, Tryd.ntmps43
  go_wp2_with (at_builtin; refine Hid.out ?_)
  refine Lib.hid ?_
  refine wpList_append_row (F := F1) rfl (.tmp 25) (.tmp 26) _ rfl 5 (.int .u8 0) 1 1 Tryd.underlying27 (by kernel_rfl) rfl (by omega) rfl (Row.empty 5 1 _) (by exact H1.out) rfl (by exact HSRC.out) (one_bytes bs) bs.length (by omega) (bs.map bval) rfl (by unfold maxLen; omega) (by omega) ?_
  intro A1 c1 w1 L1 hr1 h2
  clear H1 HSRC
  have H2 := Lib.hid (h2.alloc_ (.cells #[.int .u8 128] 5))
  have HR1 := Lib.hid hr1
  have q : (w1.alloc (.cells #[.int .u8 128] 5)).cell? ⟨w1.heap.size, 0, none⟩ = some (.int .u8 128) := cell_new rfl rfl
  have Q := Lib.hid q
  clear h2 hr1 q
  go_wp2_with (at_builtin; refine Hid.out ?_)
  refine Lib.hid ?_
  refine wpList_append_byte rfl (.tmp 27) (.tmp 28) rfl rfl HR1.out (by exact H2.out) rfl 128 (by exact Q.out) (bs.length + 1) rfl (by omega) ?_
  intro A2 c2 w2 hs2
  clear H2 HR1 Q
  have hl1 : (bs ++ [128]).length = bs.length + 1 := by simp
  have hs2' : SSt W w2 I (.slice A2 (bs.length + 1) c2) (bs ++ [128] ++ List.replicate 0 0) F1 := by simpa using hs2
  clear hs2
  go_wp2_with fail
  go_loopw [3] (fun s wr => ∃ j, j ≤ padZ bs.length ∧ SSt W wr I s (bs ++ [128] ++ List.replicate j 0) F1) (fun s _ => (120 - slLen s % 64) % 64)
  case atStart => exact ⟨0, by omega, hs2'⟩
  case round =>
    obtain ⟨j, hj, A3, c3, L3, rfl, hr3, h3⟩ := hrel
    clear hs2'
    have hml : (bs ++ [128] ++ List.replicate j 0).length = bs.length + 1 + j := by simp; omega
    have hpz : padZ bs.length = (119 - bs.length % 64) % 64 := rfl
    obtain ⟨n, hn⟩ : ∃ n, n = (bs ++ [128] ++ List.replicate j 0).length := ⟨_, rfl⟩
    rw [hml] at hn
    by_cases h56 : n % 64 = 56
    · have hjp : j = padZ bs.length := by omega
      subst hjp
      have hs3 : SSt W wr I (.slice A3 (bs ++ [128] ++ List.replicate (padZ bs.length) 0).length c3) (endTo bs 0) F1 := ⟨A3, c3, L3, by simp [endTo], by simpa [endTo] using hr3, h3⟩
      rw [hml, ← hn] at hs3 ⊢
      have hni : (n : Int) % 64 = 56 := by omega
      have hnn : (n : Int) ≤ 1000200 := by omega
      have HN := Lib.hid hn
      clear hr3 h3 hml hn hpz hl1
      have ebl : ((bs.length : Int) * 8) % 18446744073709551616 = bs.length * 8 := Int.emod_eq_of_lt (by omega) (by omega)
      go_wp2_with fail
      clear hni
      go_loopw [3, 5, 6] (fun s wt i wr => ∃ k : Nat, k ≤ 8 ∧ i = .int .i64 k ∧ wt = .int .u64 (wgt k : Int) ∧ SSt W wr I s (endTo bs k) F1) (fun _ _ i _ => 8 - (intOf i).toNat)
      case atStart => exact ⟨0, by omega, rfl, rfl, hs3⟩
      case round =>
        obtain ⟨k, hk, rfl, rfl, A4, c4, L4, rfl, hr4, h4⟩ := hrel
        clear hs3
        have hel : (endTo bs k).length = n + k := by rw [HN.out]; simp [endTo]; omega
        by_cases hk8 : k < 8
        · have hnext : ∀ w' A' c', SSt W w' I (.slice A' (endTo bs k ++ [lenByte bs.length k]).length c') (endTo bs k ++ [lenByte bs.length k]) F1 → SSt W w' I (.slice A' (n + (k + 1)) c') (endTo bs (k + 1)) F1 := fun w' A' c' h => by
            have e : endTo bs (k + 1) = endTo bs k ++ [lenByte bs.length k] := by rw [endTo, List.range_succ, List.map_append, ← List.append_assoc]; rfl
            rw [e]
            have e2 : (endTo bs k ++ [lenByte bs.length k]).length = n + (k + 1) := by rw [List.length_append, hel]; rfl
            rw [e2] at h
            exact h
          have hwk : wgt k = 2 ^ (56 - 8 * k) := (by decide : ∀ k, k < 8 → wgt k = 2 ^ (56 - 8 * k)) k hk8
          have hwn : wgt (k + 1) = wgt k / 256 := by unfold wgt; rw [Nat.div_div_eq_div_mul, Nat.pow_succ]
          have hw1 : 1 ≤ wgt k := by rw [hwk]; exact Nat.one_le_two_pow
          have hw2 : wgt k ≤ 72057594037927936 := Nat.div_le_self _ _
          have hbv : (bs.length : Int) * 8 / (wgt k : Int) % 256 = ((lenByte bs.length k).toNat : Int) := by
            unfold lenByte
            rw [UInt8.toNat_ofNat', ← hwk, Nat.mod_eq_of_lt (show bs.length * 8 < 18446744073709551616 by omega)]
            simp
          have hbv2 : ((bs.length : Int) * 8 / (wgt k : Int)).tmod 256 % 256 = ((lenByte bs.length k).toNat : Int) := by rw [Int.tmod_eq_emod_of_nonneg (Int.ediv_nonneg (by omega) (by omega)), Int.emod_emod_of_dvd _ (by decide)]; exact hbv
          have q : (wr.alloc (.cells #[.int .u8 ((lenByte bs.length k).toNat : Int)] 5)).cell? ⟨wr.heap.size, 0, none⟩ = some (.int .u8 ((lenByte bs.length k).toNat : Int)) := cell_new rfl rfl
          have hx := fun o => h4.alloc_ o
          have Q := Lib.hid q; have HX := Lib.hid hx; have HR4 := Lib.hid hr4; have HNX := Lib.hid hnext; have HWN := Lib.hid hwn; have HEL := Lib.hid hel
          rw [hel]
          clear q hx hr4 hnext hwn hwk h4
          generalize lenByte bs.length k = bk at *
          generalize wgt k = wk at *
          have kk : (k : Int) < 8 := by omega
          have hw1i : (1 : Int) ≤ wk := by omega
          have hw2i : (wk : Int) ≤ 72057594037927936 := by omega
          go_wp2_with (at_builtin; refine Hid.out ?_)
          refine Lib.hid ?_
          refine wpList_append_byte rfl (.tmp 45) (.tmp 51) rfl (m := endTo bs k) (A := A4) (c := c4) (by rw [HEL.out]; rfl) HR4.out (by exact HX.out _) rfl bk (by exact Q.out) (n + (k + 1)) (by rw [HEL.out]; omega) (by omega) ?_
          intro A5 c5 w5 hs5
          have hs6 := HNX.out _ _ _ (by rw [List.length_append, HEL.out]; exact hs5)
          clear hs5 HX HR4 HNX Q hbv hbv2
          go_wp2_with fail
          go_roundw
          case rel =>
            refine ⟨k + 1, by omega, by go_num, ?_, hs6⟩
            rw [HWN.out]
            simp
          case measure => simp [intOf]; omega
        · obtain rfl : k = 8 := by omega
          have hn56 : n % 64 = 56 := h56
          have hst8 : endState bs = (took (endTo bs 8)).1 := rfl
          have hho : hashOf bs = (List.range 32).map (hashByte (endState bs)) := rfl
          rw [hst8] at hho
          obtain ⟨q, hq⟩ : ∃ q, n + 8 = 64 * q := ⟨(n + 8) / 64, by omega⟩
          rw [took_blocks _ q (by rw [hel]; exact hq)] at hho
          have hHV : HV bs = bcells (hashOf bs) := rfl
          rw [hho] at hHV
          rw [hel]
          generalize endTo bs 8 = m at *
          obtain ⟨gs, off, cur, rfl, rfl, hmc, hcm, hcell⟩ := row_open hr4 (by omega)
          have hq0 : 1 ≤ q := by omega
          have hqh : q ≤ 16000 := by omega
          rw [hq]
          have HHV := Lib.hid hHV; have HCELL := Lib.hid hcell; have HEL := Lib.hid (hel.trans hq)
          have H4 := Lib.hid h4
          unfold maxLen at hcm
          clear hHV hho hst8 hcell h4 hr4 hn56 h56 hel hq HN hj hk8 hk ebl
          go_wp2_with fail
          refine (first_any H4.out).mono ?_
          rintro e w5 ⟨rfl, h5⟩
          clear H4
          have H5 := Lib.hid h5
          clear h5
          go_wp2_with fail
          refine (rounds_any H5.out).mono ?_
          rintro e w6 ⟨rfl, h6⟩
          clear H5
          have z8 : (upart 8 hTab).size = 8 := upart_size _ _ (by rw [hTab_len]; omega)
          have z64 : (upart 64 kTab).size = 64 := upart_size _ _ (by rw [kTab_len]; omega)
          have y8 : (upart 8 []).size = 8 := upart_size _ _ (by simp)
          have y64 : (upart 64 []).size = 64 := upart_size _ _ (by simp)
          have e8 : setMany (upart 8 []) 0 (upart 8 hTab).toList = upart 8 hTab := by rw [setMany_whole _ _ (by simp [z8, y8])]
          have e64 : setMany (upart 64 []) 0 (upart 64 kTab).toList = upart 64 kTab := by rw [setMany_whole _ _ (by simp [z64, y64])]
          have h7 := (h6.alloc (.cells (upart 8 []) 142)).alloc (.cells (upart 64 []) 144)
          rw [World.size_alloc] at h7
          have h7' := h7.perm (List.Perm.swap _ _ _)
          have i8 : (Tryd.prog.info? 142).map (·.size) = some (upart 8 hTab).size := by rw [z8]; kernel_rfl
          have i64 : (Tryd.prog.info? 144).map (·.size) = some (upart 64 kTab).size := by rw [z64]; kernel_rfl
          have f8 : 0 + (upart 8 hTab).size ≤ (upart 8 []).size := by omega
          have f64 : 0 + (upart 64 kTab).size ≤ (upart 64 []).size := by omega
          have o8 := upart_one 8 hTab
          have o64 := upart_one 64 kTab
          rw [uzero64_cells, uzero8_cells] at h7'
          rw [uzero8_cells] at e8 f8
          rw [uzero64_cells] at e64 f64
          have H7 := Lib.hid h7'; have I8 := Lib.hid i8; have I64 := Lib.hid i64; have F8 := Lib.hid f8; have F64 := Lib.hid f64; have O8 := Lib.hid o8; have O64 := Lib.hid o64; have E8 := Lib.hid e8; have E64 := Lib.hid e64
          clear h6 h7 h7' i8 i64 f8 f64 o8 o64 e8 e64 z8 z64 y8 y64
          generalize hK64 : upart 64 kTab = K64 at *
          generalize hH8 : upart 8 hTab = H8 at *
          have HK64 := Lib.hid hK64; have HH8 := Lib.hid hH8
          clear hK64 hH8
          go_wp2_with (with_reducible refine wpList_store_st rfl 142 (.tmp 7) (.tmp 55) rfl (g := w6.heap.size) (off := 0) H8 rfl rfl H7.out F8.out I8.out O8.out ?_; intro w7 h8; refine Hid.out ?_)
          refine Lib.hid ?_
          rw [E8.out] at h8
          have H8' := Lib.hid (h8.perm (List.Perm.swap _ _ _))
          clear H7 h8 F8 O8 E8
          go_wp2_with (with_reducible refine wpList_store_st rfl 144 (.tmp 8) (.tmp 56) rfl (g := w6.heap.size + 1) (off := 0) K64 rfl rfl H8'.out F64.out I64.out O64.out ?_; intro w8 h9; refine Hid.out ?_)
          refine Lib.hid ?_
          rw [E64.out, ← HK64.out] at h9
          rw [← HH8.out] at h9
          clear H8' F64 O64 E64 I8 I64 HK64 HH8
          generalize w6.heap.size = gh at *
          have h9' : St W w8 I ((gh, .cells (upart 8 (stF hTab m 0)) 142 (0, 0)) :: (gh + 1, .cells (upart 64 kTab) 144 (0, 0)) :: (gs, .cells cur 5 (0, 0)) :: F1) := h9.perm (List.Perm.swap _ _ _)
          clear h9
          go_wp2_with fail
          go_loopw [9] (fun at_ wr => ∃ k : Nat, k ≤ q ∧ at_ = .int .i64 ((64 * k : Nat) : Int) ∧ St W wr I ((gh, .cells (upart 8 (stF hTab m k)) 142 (0, 0)) :: (gh + 1, .cells (upart 64 kTab) 144 (0, 0)) :: (gs, .cells cur 5 (0, 0)) :: F1)) (fun at_ _ => 64 * q - (intOf at_).toNat)
          case atStart => exact ⟨0, by omega, rfl, h9'⟩
          case round =>
            obtain ⟨k, hk, rfl, hst⟩ := hrel
            clear h9'
            by_cases hkq : k < q
            · have hki : (k : Int) < q := by omega
              obtain ⟨blk, hblk⟩ : ∃ blk, blk = (m.drop (64 * k)).take 64 := ⟨_, rfl⟩
              have hbg : ∀ j, j < 64 → blk.getD j 0 = m.getD (64 * k + j) 0 := fun j hj => by
                rw [hblk, List.getD_eq_getElem?_getD, List.getD_eq_getElem?_getD, List.getElem?_take, if_pos hj, List.getElem?_drop]
              have hnx : stF hTab m (k + 1) = mixW (stF hTab m k) blk := by rw [hblk]; rfl
              have hsl := stF_len hTab m hTab_len k
              have y64 : (upart 64 []).size = 64 := upart_size _ _ (by simp)
              have e64 : setMany (upart 64 []) 0 (upart 64 []).toList = upart 64 [] := by rw [setMany_whole _ _ (by simp)]
              have h7 := hst.alloc (.cells (upart 64 []) 144)
              have i64 : (Tryd.prog.info? 144).map (·.size) = some (upart 64 []).size := by rw [y64]; kernel_rfl
              have f64 : 0 + (upart 64 []).size ≤ (upart 64 []).size := by omega
              have o64 := upart_one 64 []
              rw [uzero64_cells] at h7 e64 i64 f64 o64
              have H7 := Lib.hid h7; have I64 := Lib.hid i64; have F64 := Lib.hid f64; have O64 := Lib.hid o64; have E64 := Lib.hid e64
              have HBG := Lib.hid hbg; have HNX := Lib.hid hnx; have HSL := Lib.hid hsl; have HBLK := Lib.hid hblk
              clear h7 i64 f64 o64 e64 y64 hst hbg hnx hsl hblk
              go_wp2_with (with_reducible refine wpList_store_st rfl 144 (.tmp 10) (.tmp 63) rfl (g := wr.heap.size) (off := 0) _ rfl rfl H7.out F64.out I64.out O64.out ?_; intro w9 h10; refine Hid.out ?_)
              refine Lib.hid ?_
              rw [E64.out, ← uzero64_cells] at h10
              clear H7 I64 F64 O64 E64
              generalize wr.heap.size = gw at *
              have h11 : St W w9 I ((gw, .cells (upart 64 (schedTo blk 0)) 144 (0, 0)) :: (gh, .cells (upart 8 (stF hTab m k)) 142 (0, 0)) :: (gh + 1, .cells (upart 64 kTab) 144 (0, 0)) :: (gs, .cells cur 5 (0, 0)) :: F1) := h10
              clear h10
              go_wp2_with fail
              go_loopw [11] (fun i wq => ∃ t : Nat, t ≤ 64 ∧ i = .int .i64 t ∧ St W wq I ((gw, .cells (upart 64 (schedTo blk t)) 144 (0, 0)) :: (gh, .cells (upart 8 (stF hTab m k)) 142 (0, 0)) :: (gh + 1, .cells (upart 64 kTab) 144 (0, 0)) :: (gs, .cells cur 5 (0, 0)) :: F1)) (fun i _ => 64 - (intOf i).toNat)
              case atStart => exact ⟨0, by omega, rfl, h11⟩
              case round =>
                obtain ⟨t, ht, rfl, hst⟩ := hrel
                clear h11
                by_cases ht64 : t < 64
                · have htl := schedTo_len blk t
                  by_cases ht16 : t < 16
                  · have hti : (t : Int) < 16 := by omega
                    have hz : (upart 64 (schedTo blk t)).setIfInBounds t (.int .u64 ((hw blk t 0 : Nat) : Int)) = upart 64 (schedTo blk t) := by
                      have h0 := upart_zero 64 (schedTo blk t) t (by omega) ht64
                      apply Array.ext_getElem?
                      intro j
                      rw [Array.getElem?_setIfInBounds]
                      have hsz := upart_size 64 (schedTo blk t) (by omega)
                      by_cases hjt : t = j
                      · rw [if_pos hjt, ← hjt, h0, if_pos (by omega)]
                        rfl
                      · rw [if_neg hjt]
                    rw [← hz] at hst
                    have HST := Lib.hid hst
                    clear hst hz
                    go_wp2_with fail
                    have hst := HST.out
                    clear HST
                    go_loopw [12] (fun i wq => ∃ j : Nat, j ≤ 4 ∧ i = .int .i64 j ∧ St W wq I ((gw, .cells ((upart 64 (schedTo blk t)).setIfInBounds t (.int .u64 ((hw blk t j : Nat) : Int))) 144 (0, 0)) :: (gh, .cells (upart 8 (stF hTab m k)) 142 (0, 0)) :: (gh + 1, .cells (upart 64 kTab) 144 (0, 0)) :: (gs, .cells cur 5 (0, 0)) :: F1)) (fun i _ => 4 - (intOf i).toNat)
                    case atStart => exact ⟨0, by omega, rfl, hst⟩
                    case round =>
                      obtain ⟨j, hj, rfl, hs5⟩ := hrel
                      clear hst
                      by_cases hj4 : j < 4
                      · have hsz := upart_size 64 (schedTo blk t) (by omega)
                        have q1 : wr.cell? ⟨gw, t, none⟩ = some (.int .u64 ((hw blk t j : Nat) : Int)) := by
                          rw [hs5.cell (g := gw) (cs := (upart 64 (schedTo blk t)).setIfInBounds t (.int .u64 ((hw blk t j : Nat) : Int))) (t := 144) (fr := (0, 0)) (by simp), Array.getElem?_setIfInBounds_self_of_lt (by omega)]
                        have q2 : wr.cell? ⟨gs, off + (64 * k + 4 * t + j), none⟩ = some (.int .u8 ((blk.getD (4 * t + j) 0).toNat : Int)) := by
                          rw [hs5.cell (g := gs) (cs := cur) (t := 5) (fr := (0, 0)) (by simp), HCELL.out _ (by have := HEL.out; omega), HBG.out _ (by omega), show 64 * k + (4 * t + j) = 64 * k + 4 * t + j by omega]
                        have f1 := hs5.frozen (g := gw) (cs := (upart 64 (schedTo blk t)).setIfInBounds t (.int .u64 ((hw blk t j : Nat) : Int))) (t := 144) (by simp) t
                        have hlt := hw_lt blk t j
                        have hh : hw blk t j < 4294967296 := Nat.lt_of_lt_of_le hlt ((by decide : ∀ j, j < 4 → 256 ^ j ≤ 4294967296) j hj4)
                        have hb := (blk.getD (4 * t + j) 0).toNat_lt
                        have hn5 : hw blk t (j + 1) = 256 * hw blk t j + (blk.getD (4 * t + j) 0).toNat := rfl
                        have hset : ∀ wq, St W wq I ((gw, .cells ((upart 64 (schedTo blk t)).setIfInBounds t (.int .u64 ((hw blk t j : Nat) : Int))) 144 (0, 0)) :: (gh, .cells (upart 8 (stF hTab m k)) 142 (0, 0)) :: (gh + 1, .cells (upart 64 kTab) 144 (0, 0)) :: (gs, .cells cur 5 (0, 0)) :: F1) → St W (wq.setCell ⟨gw, t, none⟩ (.int .u64 (256 * (hw blk t j : Int) + ((blk.getD (4 * t + j) 0).toNat : Int)))) I ((gw, .cells ((upart 64 (schedTo blk t)).setIfInBounds t (.int .u64 ((hw blk t (j + 1) : Nat) : Int))) 144 (0, 0)) :: (gh, .cells (upart 8 (stF hTab m k)) 142 (0, 0)) :: (gh + 1, .cells (upart 64 kTab) 144 (0, 0)) :: (gs, .cells cur 5 (0, 0)) :: F1) := fun wq h => by
                          have h2 := St.set (A := []) h t (.int .u64 (256 * (hw blk t j : Int) + ((blk.getD (4 * t + j) 0).toNat : Int)))
                          rw [Array.setIfInBounds_setIfInBounds] at h2
                          have e : (256 * (hw blk t j : Int) + ((blk.getD (4 * t + j) 0).toNat : Int)) = ((hw blk t (j + 1) : Nat) : Int) := by rw [hn5]; omega
                          rw [e] at h2 ⊢
                          exact h2
                        have HSET := Lib.hid hset; have HS5 := Lib.hid hs5
                        clear hset hs5 hn5 hlt hsz
                        generalize hw blk t j = hj5 at *
                        generalize blk.getD (4 * t + j) 0 = b5 at *
                        go_wp2_with fail
                        refine wp_region_quiet_tail 17 (by kernel_rfl) (by kernel_rfl) ?_
                        simp only [List.take_succ_cons, List.take_zero, List.drop_succ_cons, List.drop_zero]
                        repeat (go_big_quiet_step (fail))
                        refine wpQuiet_nil ?_
                        rintro _ ⟨nq, rfl⟩
                        clear q2
                        go_wp2_with fail
                        go_roundw
                        case rel => exact ⟨j + 1, by omega, by go_num, HSET.out _ (HS5.out.drew _)⟩
                        case measure => simp [intOf]; omega
                      · obtain rfl : j = 4 := by omega
                        have e : (upart 64 (schedTo blk t)).setIfInBounds t (.int .u64 ((hw blk t 4 : Nat) : Int)) = upart 64 (schedTo blk (t + 1)) := by
                          have h := upart_push 64 (schedTo blk t) (wordAt blk t) (by omega)
                          rw [htl] at h
                          rw [hw4, show schedTo blk (t + 1) = schedTo blk t ++ [wordAt blk t] by rw [schedTo, if_pos ht16], ← h]
                          rfl
                        rw [e] at hs5
                        clear e
                        go_wp2_with fail
                        go_roundw
                        case rel => exact ⟨t + 1, by omega, by go_num, hs5⟩
                        case measure => simp [intOf]; omega
                  · have hti : ¬ (t : Int) < 16 := by omega
                    have hti2 : (16 : Int) ≤ t := by omega
                    have hti3 : (t : Int) < 64 := by omega
                    have qw : ∀ d, 1 ≤ d → d ≤ 16 → wr.cell? ⟨gw, t - d, none⟩ = some (.int .u64 (wv ((schedTo blk t).getD (t - d) 0))) := fun d h1 h2 => by
                      rw [hst.cell (g := gw) (cs := upart 64 (schedTo blk t)) (t := 144) (fr := (0, 0)) (by simp)]
                      exact upart_get 64 _ _ (by omega)
                    have q15 := qw 15 (by omega) (by omega)
                    have q2 := qw 2 (by omega) (by omega)
                    have q16 := qw 16 (by omega) (by omega)
                    have q7 := qw 7 (by omega) (by omega)
                    have qt : wr.cell? ⟨gw, t, none⟩ = some (.int .u64 0) := by
                      rw [hst.cell (g := gw) (cs := upart 64 (schedTo blk t)) (t := 144) (fr := (0, 0)) (by simp)]
                      exact upart_zero 64 _ _ (by omega) ht64
                    have ft := hst.frozen (g := gw) (cs := upart 64 (schedTo blk t)) (t := 144) (by simp) t
                    have hnw : shaNextW (schedTo blk t) t = (schedTo blk t).getD (t - 16) 0 + sig0 ((schedTo blk t).getD (t - 15) 0) + (schedTo blk t).getD (t - 7) 0 + sig1 ((schedTo blk t).getD (t - 2) 0) := rfl
                    have hpush : ∀ y, y = shaNextW (schedTo blk t) t → ∀ wq, St W wq I ((gw, .cells (upart 64 (schedTo blk t)) 144 (0, 0)) :: (gh, .cells (upart 8 (stF hTab m k)) 142 (0, 0)) :: (gh + 1, .cells (upart 64 kTab) 144 (0, 0)) :: (gs, .cells cur 5 (0, 0)) :: F1) → St W (wq.setCell ⟨gw, t, none⟩ (.int .u64 (wv y))) I ((gw, .cells (upart 64 (schedTo blk (t + 1))) 144 (0, 0)) :: (gh, .cells (upart 8 (stF hTab m k)) 142 (0, 0)) :: (gh + 1, .cells (upart 64 kTab) 144 (0, 0)) :: (gs, .cells cur 5 (0, 0)) :: F1) := by
                      rintro y rfl wq h
                      have h2 := St.set (A := []) h t (.int .u64 (wv (shaNextW (schedTo blk t) t)))
                      have h3 := upart_push 64 (schedTo blk t) (shaNextW (schedTo blk t) t) (by omega)
                      rw [htl] at h3
                      rw [show schedTo blk (t + 1) = schedTo blk t ++ [shaNextW (schedTo blk t) t] by rw [schedTo, if_neg ht16], ← h3]
                      exact h2
                    have HPUSH := Lib.hid hpush; have HNW := Lib.hid hnw; have HST := Lib.hid hst
                    clear qw hpush hnw hst
                    generalize hx16 : (schedTo blk t).getD (t - 16) 0 = x16 at *
                    generalize hx15 : (schedTo blk t).getD (t - 15) 0 = x15 at *
                    generalize hx7 : (schedTo blk t).getD (t - 7) 0 = x7 at *
                    generalize hx2 : (schedTo blk t).getD (t - 2) 0 = x2 at *
                    clear hx16 hx15 hx7 hx2
                    have c1 : ∀ w, Calls Tryd.prog 69 #[.int .u64 (wv x15), .int .u64 7] w fun e w' => e = .returned (.int .u64 (wv (x15.rotateRight 7))) ∧ w = w' := fun w => right_any x15 7 (by omega) (by omega) w
                    have c2 : ∀ w, Calls Tryd.prog 69 #[.int .u64 (wv x15), .int .u64 18] w fun e w' => e = .returned (.int .u64 (wv (x15.rotateRight 18))) ∧ w = w' := fun w => right_any x15 18 (by omega) (by omega) w
                    have c3 : ∀ w, Calls Tryd.prog 69 #[.int .u64 (wv x2), .int .u64 17] w fun e w' => e = .returned (.int .u64 (wv (x2.rotateRight 17))) ∧ w = w' := fun w => right_any x2 17 (by omega) (by omega) w
                    have c4 : ∀ w, Calls Tryd.prog 69 #[.int .u64 (wv x2), .int .u64 19] w fun e w' => e = .returned (.int .u64 (wv (x2.rotateRight 19))) ∧ w = w' := fun w => right_any x2 19 (by omega) (by omega) w
                    have b1 := vv_xor (x15.rotateRight 7) (x15.rotateRight 18)
                    have b2 := vv_xor (x15.rotateRight 7 ^^^ x15.rotateRight 18) (x15 >>> 3)
                    have b3 := vv_xor (x2.rotateRight 17) (x2.rotateRight 19)
                    have b4 := vv_xor (x2.rotateRight 17 ^^^ x2.rotateRight 19) (x2 >>> 10)
                    have g1 := vv_shr3 x15
                    have g2 := vv_shr10 x2
                    have hs0 : x15.rotateRight 7 ^^^ x15.rotateRight 18 ^^^ (x15 >>> 3) = sig0 x15 := by rw [sig0, turnR2]
                    have hs1 : x2.rotateRight 17 ^^^ x2.rotateRight 19 ^^^ (x2 >>> 10) = sig1 x2 := by rw [sig1, turnR2]
                    rw [hs0] at b2
                    rw [hs1] at b4
                    clear hs0 hs1
                    generalize sig0 x15 = s15 at *
                    generalize sig1 x2 = s2 at *
                    generalize x15.rotateRight 7 ^^^ x15.rotateRight 18 = y1 at *
                    generalize x2.rotateRight 17 ^^^ x2.rotateRight 19 = y2 at *
                    generalize x15.rotateRight 7 = r1 at *
                    generalize x15.rotateRight 18 = r2 at *
                    generalize x2.rotateRight 17 = r3 at *
                    generalize x2.rotateRight 19 = r4 at *
                    generalize x15 >>> 3 = d1 at *
                    generalize x2 >>> 10 = d2 at *
                    have l1 := wv_lo x16; have l2 := wv_hi x16; have l3 := wv_lo s15; have l4 := wv_hi s15; have l5 := wv_lo x7; have l6 := wv_hi x7; have l7 := wv_lo s2; have l8 := wv_hi s2
                    have m1 : IntKind.u64.wrap (wv x16 + wv s15) = wv x16 + wv s15 := by rw [IntKind.wrap_u64]; omega
                    have m2 : IntKind.u64.wrap (wv x16 + wv s15 + wv x7) = wv x16 + wv s15 + wv x7 := by rw [IntKind.wrap_u64]; omega
                    have m3 : IntKind.u64.wrap (wv x16 + wv s15 + wv x7 + wv s2) = wv x16 + wv s15 + wv x7 + wv s2 := by rw [IntKind.wrap_u64]; omega
                    have m4 : (wv x16 + wv s15 + wv x7 + wv s2) % 4294967296 = wv (x16 + s15 + x7 + s2) := vv_addm _ _ _ (vv_addm _ _ _ (vv_add2 _ _))
                    have m5 : (wv x16 + wv s15 + wv x7 + wv s2).tmod 4294967296 = wv (x16 + s15 + x7 + s2) := by rw [Int.tmod_eq_emod_of_nonneg (by omega)]; exact m4
                    have C1 := Lib.hid c1; have C2 := Lib.hid c2; have C3 := Lib.hid c3; have C4 := Lib.hid c4
                    clear c1 c2 c3 c4
                    rw [← HNW.out] at m4 m5
                    have HSET := Lib.hid (HPUSH.out _ rfl)
                    clear HNW HPUSH
                    generalize shaNextW (schedTo blk t) t = nw at *
                    have n1 : IntKind.i64.wrap ((t : Int) - 15) = (t : Int) - 15 := IntWalk.i64_in _ (by omega)
                    have n2 : IntKind.i64.wrap ((t : Int) - 2) = (t : Int) - 2 := IntWalk.i64_in _ (by omega)
                    have n3 : IntKind.i64.wrap ((t : Int) - 16) = (t : Int) - 16 := IntWalk.i64_in _ (by omega)
                    have n4 : IntKind.i64.wrap ((t : Int) - 7) = (t : Int) - 7 := IntWalk.i64_in _ (by omega)
                    have t1 : ((t : Int) - 15).toNat = t - 15 := by omega
                    have t2 : ((t : Int) - 2).toNat = t - 2 := by omega
                    have t3 : ((t : Int) - 16).toNat = t - 16 := by omega
                    have t4 : ((t : Int) - 7).toNat = t - 7 := by omega
                    go_wp2_with fail
                    go_quiet (fail)
                    have q16' : (wr.drewN nq).cell? ⟨gw, t - 16, none⟩ = some (.int .u64 (wv x16)) := q16
                    have q7' : (wr.drewN nq).cell? ⟨gw, t - 7, none⟩ = some (.int .u64 (wv x7)) := q7
                    have qt' : (wr.drewN nq).cell? ⟨gw, t, none⟩ = some (.int .u64 0) := qt
                    have ft' : (wr.drewN nq).frozen? ⟨gw, t, none⟩ = false := ft
                    have HST2 := Lib.hid (HST.out.drew nq)
                    generalize wr.drewN nq = w24 at *
                    clear q15 q2 q16 q7 qt ft HST
                    go_wp2_with fail
                    refine wp_region_quiet_tail 30 (by kernel_rfl) (by kernel_rfl) ?_
                    simp only [List.take_succ_cons, List.take_zero, List.drop_succ_cons, List.drop_zero]
                    repeat (go_big_quiet_step ((go_at_call 69; first | (with_reducible exact quiet_left (C1.out _)) | (with_reducible exact quiet_left (C2.out _)) | (with_reducible exact quiet_left (C3.out _)) | (with_reducible exact quiet_left (C4.out _)))))
                    refine wpQuiet_nil ?_
                    rintro _ ⟨nq2, rfl⟩
                    clear q16' q7' m1 m2 m3 m4 m5 b1 b2 b3 b4 g1 g2 n1 n2 n3 n4 t1 t2 t3 t4
                    go_wp2_with fail
                    go_roundw
                    case rel => exact ⟨t + 1, by omega, by go_num, HSET.out _ (HST2.out.drew nq2)⟩
                    case measure => simp [intOf]; omega
                · obtain rfl : t = 64 := by omega
                  have hsch : schedTo blk 64 = sched blk := rfl
                  rw [hsch] at hst
                  clear hsch ht64 ht
                  have hsl := HSL.out
                  have hnx := HNX.out
                  generalize stF hTab m k = S at *
                  have zS : (upart 8 S).size = 8 := upart_size _ _ (by omega)
                  have y8 : (upart 8 []).size = 8 := upart_size _ _ (by simp)
                  have eS : setMany (upart 8 []) 0 (upart 8 S).toList = upart 8 S := by rw [setMany_whole _ _ (by simp [zS, y8])]
                  have h7 := hst.alloc (.cells (upart 8 []) 142)
                  have iS : (Tryd.prog.info? 142).map (·.size) = some (upart 8 S).size := by rw [zS]; kernel_rfl
                  have fS : 0 + (upart 8 S).size ≤ (upart 8 []).size := by omega
                  have oS := upart_one 8 S
                  have yS : ∀ j, j < (upart 8 S).size → (upart 8 S)[0 + j]? = (upart 8 S)[j]? := fun j _ => by rw [Nat.zero_add]
                  have hp : (gh, Obj.cells (upart 8 S) 142 (0, 0)) ∈ (gw, Obj.cells (upart 64 (sched blk)) 144 (0, 0)) :: (gh, .cells (upart 8 S) 142 (0, 0)) :: (gh + 1, .cells (upart 64 kTab) 144 (0, 0)) :: (gs, .cells cur 5 (0, 0)) :: F1 := by simp
                  rw [uzero8_cells] at eS h7 fS
                  obtain ⟨S8, hS8⟩ : ∃ S8, S8 = upart 8 S := ⟨_, rfl⟩
                  rw [← hS8] at eS iS fS oS yS hp hst h7
                  have ES := Lib.hid eS; have H7 := Lib.hid h7; have IS := Lib.hid iS; have FSz := Lib.hid fS; have OS := Lib.hid oS; have YS := Lib.hid yS; have HP := Lib.hid hp; have HST := Lib.hid hst; have HS8 := Lib.hid hS8
                  have HNX2 := Lib.hid hnx
                  clear eS h7 iS fS oS yS hp hst zS y8 hS8 hsl hnx HNX
                  go_wp2_with (first
                    | (with_reducible refine wpList_load_st rfl 142 (.tmp 7) rfl (g := gh) (off := 0) rfl HST.out HP.out S8 YS.out _ Tryd.underlying142 rfl IS.out ?_)
                    | (with_reducible refine wpList_store_st rfl 142 (.tmp 15) (.tmp 129) rfl (g := wr.heap.size) (off := 0) S8 rfl rfl H7.out FSz.out IS.out OS.out ?_; intro w30 h30; refine Hid.out ?_))
                  refine Lib.hid ?_
                  rw [ES.out] at h30
                  clear ES H7 IS FSz OS YS HP HST
                  rw [HS8.out] at h30
                  clear HS8
                  generalize wr.heap.size = gv at *
                  have h31 : St W w30 I ((gv, .cells (upart 8 (roundsTo S (sched blk) 0)) 142 (0, 0)) :: (gw, .cells (upart 64 (sched blk)) 144 (0, 0)) :: (gh, .cells (upart 8 S) 142 (0, 0)) :: (gh + 1, .cells (upart 64 kTab) 144 (0, 0)) :: (gs, .cells cur 5 (0, 0)) :: F1) := h30
                  clear h30
                  go_wp2_with fail
                  go_loopw [16] (fun i wq => ∃ t : Nat, t ≤ 64 ∧ i = .int .i64 t ∧ St W wq I ((gv, .cells (upart 8 (roundsTo S (sched blk) t)) 142 (0, 0)) :: (gw, .cells (upart 64 (sched blk)) 144 (0, 0)) :: (gh, .cells (upart 8 S) 142 (0, 0)) :: (gh + 1, .cells (upart 64 kTab) 144 (0, 0)) :: (gs, .cells cur 5 (0, 0)) :: F1)) (fun i _ => 64 - (intOf i).toNat)
                  case atStart => exact ⟨0, by omega, rfl, h31⟩
                  case round =>
                    obtain ⟨t, ht, rfl, hst⟩ := hrel
                    clear h31
                    by_cases ht64 : t < 64
                    · have hti3 : (t : Int) < 64 := by omega
                      have hsl2 := roundsTo_len S (sched blk) HSL.out t
                      have hschl : (sched blk).length = 64 := by rw [sched, schedTo_len]
                      have hro : roundsTo S (sched blk) (t + 1) = roundF (roundsTo S (sched blk) t) (kTab.getD t 0) ((sched blk).getD t 0) := rfl
                      have qk : wr.cell? ⟨gh + 1, t, none⟩ = some (.int .u64 (wv (kTab.getD t 0))) := by
                        rw [hst.cell (g := gh + 1) (cs := upart 64 kTab) (t := 144) (fr := (0, 0)) (by simp)]
                        exact upart_get 64 _ _ (by rw [kTab_len]; omega)
                      have qw : wr.cell? ⟨gw, t, none⟩ = some (.int .u64 (wv ((sched blk).getD t 0))) := by
                        rw [hst.cell (g := gw) (cs := upart 64 (sched blk)) (t := 144) (fr := (0, 0)) (by simp)]
                        exact upart_get 64 _ _ (by omega)
                      generalize kTab.getD t 0 = kt at *
                      generalize (sched blk).getD t 0 = wt at *
                      obtain ⟨x0, x1, x2, x3, x4, x5, x6, x7, hx⟩ := eight8 _ hsl2
                      rw [hx] at hro hst
                      have HRO := Lib.hid hro
                      clear hro hx hsl2 hschl
                      obtain ⟨v0, v1, v2, v3, v4, v5, v6, v7⟩ := vfacts hst
                      have HST := Lib.hid hst
                      clear hst
                      have c1 : ∀ w, Calls Tryd.prog 69 #[.int .u64 (wv x4), .int .u64 6] w fun e w' => e = .returned (.int .u64 (wv (x4.rotateRight 6))) ∧ w = w' := fun w => right_any x4 6 (by omega) (by omega) w
                      have c2 : ∀ w, Calls Tryd.prog 69 #[.int .u64 (wv x4), .int .u64 11] w fun e w' => e = .returned (.int .u64 (wv (x4.rotateRight 11))) ∧ w = w' := fun w => right_any x4 11 (by omega) (by omega) w
                      have c3 : ∀ w, Calls Tryd.prog 69 #[.int .u64 (wv x4), .int .u64 25] w fun e w' => e = .returned (.int .u64 (wv (x4.rotateRight 25))) ∧ w = w' := fun w => right_any x4 25 (by omega) (by omega) w
                      have c4 : ∀ w, Calls Tryd.prog 69 #[.int .u64 (wv x0), .int .u64 2] w fun e w' => e = .returned (.int .u64 (wv (x0.rotateRight 2))) ∧ w = w' := fun w => right_any x0 2 (by omega) (by omega) w
                      have c5 : ∀ w, Calls Tryd.prog 69 #[.int .u64 (wv x0), .int .u64 13] w fun e w' => e = .returned (.int .u64 (wv (x0.rotateRight 13))) ∧ w = w' := fun w => right_any x0 13 (by omega) (by omega) w
                      have c6 : ∀ w, Calls Tryd.prog 69 #[.int .u64 (wv x0), .int .u64 22] w fun e w' => e = .returned (.int .u64 (wv (x0.rotateRight 22))) ∧ w = w' := fun w => right_any x0 22 (by omega) (by omega) w
                      have a1 := vv_and x4 x5
                      have a2 := vv_not x4
                      have a3 := vv_and (~~~x4) x6
                      have a4 := vv_xor (x4 &&& x5) (~~~x4 &&& x6)
                      have a5 := vv_xor (x4.rotateRight 6) (x4.rotateRight 11)
                      have a6 := vv_xor (x4.rotateRight 6 ^^^ x4.rotateRight 11) (x4.rotateRight 25)
                      have a7 := vv_and x0 x1
                      have a8 := vv_and x0 x2
                      have a9 := vv_and x1 x2
                      have a10 := vv_xor (x0 &&& x1) (x0 &&& x2)
                      have a11 := vv_xor ((x0 &&& x1) ^^^ (x0 &&& x2)) (x1 &&& x2)
                      have a12 := vv_xor (x0.rotateRight 2) (x0.rotateRight 13)
                      have a13 := vv_xor (x0.rotateRight 2 ^^^ x0.rotateRight 13) (x0.rotateRight 22)
                      have hone : rOne [x0, x1, x2, x3, x4, x5, x6, x7] kt wt = x7 + (x4.rotateRight 6 ^^^ x4.rotateRight 11 ^^^ x4.rotateRight 25) + ((x4 &&& x5) ^^^ (~~~x4 &&& x6)) + kt + wt := by rw [← turnR3]; rfl
                      have htwo : rTwo [x0, x1, x2, x3, x4, x5, x6, x7] = (x0.rotateRight 2 ^^^ x0.rotateRight 13 ^^^ x0.rotateRight 22) + (((x0 &&& x1) ^^^ (x0 &&& x2)) ^^^ (x1 &&& x2)) := by rw [← turnR3]; rfl
                      have hrf : roundF [x0, x1, x2, x3, x4, x5, x6, x7] kt wt = [rOne [x0, x1, x2, x3, x4, x5, x6, x7] kt wt + rTwo [x0, x1, x2, x3, x4, x5, x6, x7], x0, x1, x2, x3 + rOne [x0, x1, x2, x3, x4, x5, x6, x7] kt wt, x4, x5, x6] := rfl
                      rw [hrf] at HRO
                      generalize rOne [x0, x1, x2, x3, x4, x5, x6, x7] kt wt = one at *
                      generalize rTwo [x0, x1, x2, x3, x4, x5, x6, x7] = two at *
                      clear hrf
                      generalize x4.rotateRight 6 ^^^ x4.rotateRight 11 ^^^ x4.rotateRight 25 = u3 at *
                      generalize x4.rotateRight 6 ^^^ x4.rotateRight 11 = u2 at *
                      generalize (x4 &&& x5) ^^^ (~~~x4 &&& x6) = ch at *
                      generalize x4 &&& x5 = n45 at *
                      generalize ~~~x4 &&& x6 = n46 at *
                      generalize ~~~x4 = n4 at *
                      generalize x4.rotateRight 6 = r6 at *
                      generalize x4.rotateRight 11 = r11 at *
                      generalize x4.rotateRight 25 = r25 at *
                      generalize x0.rotateRight 2 ^^^ x0.rotateRight 13 ^^^ x0.rotateRight 22 = y3 at *
                      generalize x0.rotateRight 2 ^^^ x0.rotateRight 13 = y2 at *
                      generalize x0.rotateRight 2 = r2 at *
                      generalize x0.rotateRight 13 = r13 at *
                      generalize x0.rotateRight 22 = r22 at *
                      generalize ((x0 &&& x1) ^^^ (x0 &&& x2)) ^^^ (x1 &&& x2) = mj at *
                      generalize (x0 &&& x1) ^^^ (x0 &&& x2) = m2 at *
                      generalize x0 &&& x1 = n01 at *
                      generalize x0 &&& x2 = n02 at *
                      generalize x1 &&& x2 = n12 at *
                      have l1 := wv_lo x7; have l2 := wv_hi x7; have l3 := wv_lo u3; have l4 := wv_hi u3; have l5 := wv_lo ch; have l6 := wv_hi ch; have l7 := wv_lo kt; have l8 := wv_hi kt; have l9 := wv_lo wt; have l10 := wv_hi wt
                      have l11 := wv_lo y3; have l12 := wv_hi y3; have l13 := wv_lo mj; have l14 := wv_hi mj; have l15 := wv_lo x3; have l16 := wv_hi x3; have l17 := wv_lo x4; have l18 := wv_hi x4
                      have m1 : IntKind.u64.wrap (wv x7 + wv u3) = wv x7 + wv u3 := by rw [IntKind.wrap_u64]; omega
                      have m2' : IntKind.u64.wrap (wv x7 + wv u3 + wv ch) = wv x7 + wv u3 + wv ch := by rw [IntKind.wrap_u64]; omega
                      have m3 : IntKind.u64.wrap (wv x7 + wv u3 + wv ch + wv kt) = wv x7 + wv u3 + wv ch + wv kt := by rw [IntKind.wrap_u64]; omega
                      have m4 : IntKind.u64.wrap (wv x7 + wv u3 + wv ch + wv kt + wv wt) = wv x7 + wv u3 + wv ch + wv kt + wv wt := by rw [IntKind.wrap_u64]; omega
                      have m5 : (wv x7 + wv u3 + wv ch + wv kt + wv wt) % 4294967296 = wv one := by rw [hone]; exact vv_addm _ _ _ (vv_addm _ _ _ (vv_addm _ _ _ (vv_add2 _ _)))
                      have m6 : IntKind.u64.wrap (wv y3 + wv mj) = wv y3 + wv mj := by rw [IntKind.wrap_u64]; omega
                      have m7 : (wv y3 + wv mj) % 4294967296 = wv two := by rw [htwo]; exact vv_add2 _ _
                      have C1 := Lib.hid c1; have C2 := Lib.hid c2; have C3 := Lib.hid c3; have C4 := Lib.hid c4; have C5 := Lib.hid c5; have C6 := Lib.hid c6
                      have M5 := Lib.hid m5; have M7 := Lib.hid m7
                      clear c1 c2 c3 c4 c5 c6 hone htwo m5 m7
                      go_wp2_with fail
                      go_quiet (first | (go_at_call 69; (with_reducible exact quiet_left (C1.out _))) | (go_at_call 69; (with_reducible exact quiet_left (C2.out _))) | (go_at_call 69; (with_reducible exact quiet_left (C3.out _))))
                      have h32 := HST.out.drew nq
                      generalize wr.drewN nq = w32 at *
                      clear v0 v1 v2 v3 v4 v5 v6 v7 qk qw a1 a2 a3 a4 a5 a6 m1 m2' m3 m4 HST
                      obtain ⟨v0, v1, v2, v3, v4, v5, v6, v7⟩ := vfacts h32
                      have HST := Lib.hid h32
                      clear h32
                      go_wp2_with fail
                      go_quiet (first | (go_at_call 69; (with_reducible exact quiet_left (C4.out _))) | (go_at_call 69; (with_reducible exact quiet_left (C5.out _))) | (go_at_call 69; (with_reducible exact quiet_left (C6.out _))))
                      have h33 := HST.out.drew nq
                      have e1 : IntKind.u64.wrap (wv x7 + wv u3 + wv ch + wv kt + wv wt + (wv y3 + wv mj)) = wv x7 + wv u3 + wv ch + wv kt + wv wt + (wv y3 + wv mj) := by rw [IntKind.wrap_u64]; omega
                      have e2 : (wv x7 + wv u3 + wv ch + wv kt + wv wt + (wv y3 + wv mj)) % 4294967296 = wv (one + two) := vv_addmm _ _ _ _ M5.out M7.out
                      have e3 : IntKind.u64.wrap (wv x3 + (wv x7 + wv u3 + wv ch + wv kt + wv wt)) = wv x3 + (wv x7 + wv u3 + wv ch + wv kt + wv wt) := by rw [IntKind.wrap_u64]; omega
                      have e4 : (wv x3 + (wv x7 + wv u3 + wv ch + wv kt + wv wt)) % 4294967296 = wv (x3 + one) := vv_addmm _ _ _ _ (vv_mod _) M5.out
                      have p1 : 0 ≤ wv x7 + wv u3 + wv ch + wv kt + wv wt := by omega
                      have p2 : wv x7 + wv u3 + wv ch + wv kt + wv wt < 21474836480 := by omega
                      have p3 : 0 ≤ wv y3 + wv mj := by omega
                      have p4 : wv y3 + wv mj < 8589934592 := by omega
                      clear v0 v1 v2 v3 v4 v5 v6 v7 HST M5 M7 a7 a8 a9 a10 a11 a12 a13 m6 l1 l2 l3 l4 l5 l6 l7 l8 l9 l10 l11 l12 l13 l14 l17 l18 C1 C2 C3 C4 C5 C6
                      generalize w32.drewN nq = w33 at *
                      generalize wv x7 + wv u3 + wv ch + wv kt + wv wt = P at *
                      generalize wv y3 + wv mj = R at *
                      obtain ⟨v0, v1, v2, v3, v4, v5, v6, v7⟩ := vfacts h33
                      have zS : (upart 8 [one + two, x0, x1, x2, x3 + one, x4, x5, x6]).size = 8 := rfl
                      have yS : (upart 8 [x0, x1, x2, x3, x4, x5, x6, x7]).size = 8 := rfl
                      have eS : setMany (upart 8 [x0, x1, x2, x3, x4, x5, x6, x7]) 0 (Array.toList #[.int .u64 (wv (one + two)), .int .u64 (wv (x0)), .int .u64 (wv (x1)), .int .u64 (wv (x2)), .int .u64 (wv (x3 + one)), .int .u64 (wv (x4)), .int .u64 (wv (x5)), .int .u64 (wv (x6))]) = upart 8 (roundsTo S (sched blk) (t + 1)) := by
                        rw [HRO.out, ← upart8 (one + two), setMany_whole _ _ (by simp [zS, yS])]
                      have iS : (Tryd.prog.info? 142).map (·.size) = some (upart 8 [one + two, x0, x1, x2, x3 + one, x4, x5, x6]).size := by rw [zS]; kernel_rfl
                      have fS : 0 + (upart 8 [one + two, x0, x1, x2, x3 + one, x4, x5, x6]).size ≤ (upart 8 [x0, x1, x2, x3, x4, x5, x6, x7]).size := by rw [zS]; exact Nat.le_refl 8
                      have oS := upart_one 8 [one + two, x0, x1, x2, x3 + one, x4, x5, x6]
                      rw [upart8 (one + two)] at iS fS oS
                      have ES := Lib.hid eS; have IS := Lib.hid iS; have FSz := Lib.hid fS; have OS := Lib.hid oS; have HST := Lib.hid h33
                      clear eS iS fS oS zS yS h33 HRO
                      go_wp2_with (with_reducible refine wpList_store_st rfl 142 (.tmp 15) (.tmp 218) rfl (g := gv) (off := 0) #[.int .u64 (wv (one + two)), .int .u64 (wv (x0)), .int .u64 (wv (x1)), .int .u64 (wv (x2)), .int .u64 (wv (x3 + one)), .int .u64 (wv (x4)), .int .u64 (wv (x5)), .int .u64 (wv (x6))] rfl rfl HST.out FSz.out IS.out OS.out ?_; intro w35 h35; refine Hid.out ?_)
                      refine Lib.hid ?_
                      rw [ES.out] at h35
                      clear HST ES IS FSz OS v0 v1 v2 v3 v4 v5 v6 v7 e1 e2 e3 e4 p1 p2 p3 p4
                      go_wp2_with fail
                      go_roundw
                      case rel => exact ⟨t + 1, by omega, by go_num, h35⟩
                      case measure => simp [intOf]; omega
                    · obtain rfl : t = 64 := by omega
                      have hts : mixW S blk = addTo S (roundsTo S (sched blk) 64) 8 := by
                        obtain ⟨y0, y1, y2, y3, y4, y5, y6, y7, h8⟩ := eight8 _ (roundsTo_len S (sched blk) HSL.out 64)
                        obtain ⟨z0, z1, z2, z3, z4, z5, z6, z7, h9⟩ := eight8 S HSL.out
                        rw [mixW, h8]
                        rw [h9]
                        rfl
                      have hxl := roundsTo_len S (sched blk) HSL.out 64
                      rw [hts] at HNX2
                      clear hts
                      have hst' : St W wr I ((gh, .cells (upart 8 (addTo S (roundsTo S (sched blk) 64) 0)) 142 (0, 0)) :: (gv, .cells (upart 8 (roundsTo S (sched blk) 64)) 142 (0, 0)) :: (gw, .cells (upart 64 (sched blk)) 144 (0, 0)) :: (gh + 1, .cells (upart 64 kTab) 144 (0, 0)) :: (gs, .cells cur 5 (0, 0)) :: F1) := hst.perm (by exact List.perm_middle (l₁ := [(gv, _), (gw, _)]))
                      generalize roundsTo S (sched blk) 64 = X at *
                      have HXL := Lib.hid hxl
                      clear hst hxl ht64
                      go_wp2_with fail
                      go_loopw [219] (fun i wq => ∃ t : Nat, t ≤ 8 ∧ i = .int .i64 t ∧ St W wq I ((gh, .cells (upart 8 (addTo S X t)) 142 (0, 0)) :: (gv, .cells (upart 8 X) 142 (0, 0)) :: (gw, .cells (upart 64 (sched blk)) 144 (0, 0)) :: (gh + 1, .cells (upart 64 kTab) 144 (0, 0)) :: (gs, .cells cur 5 (0, 0)) :: F1)) (fun i _ => 8 - (intOf i).toNat)
                      case atStart => exact ⟨0, by omega, rfl, hst'⟩
                      case round =>
                        obtain ⟨t, ht, rfl, hst⟩ := hrel
                        clear hst'
                        by_cases ht8 : t < 8
                        · have hti : (t : Int) < 8 := by omega
                          have hal := addTo_len S X t
                          rw [HSL.out] at hal
                          have q1 : wr.cell? ⟨gh, t, none⟩ = some (.int .u64 (wv (S.getD t 0))) := by
                            rw [hst.cell (g := gh) (cs := upart 8 (addTo S X t)) (t := 142) (fr := (0, 0)) (by simp), upart_get 8 _ _ (by omega), addTo_get S X t t (Nat.le_refl t)]
                          have q2 : wr.cell? ⟨gv, t, none⟩ = some (.int .u64 (wv (X.getD t 0))) := by
                            rw [hst.cell (g := gv) (cs := upart 8 X) (t := 142) (fr := (0, 0)) (by simp)]
                            exact upart_get 8 _ _ (by have := HXL.out; omega)
                          have f1 := hst.frozen (g := gh) (cs := upart 8 (addTo S X t)) (t := 142) (by simp) t
                          have hset : ∀ wq, St W wq I ((gh, .cells (upart 8 (addTo S X t)) 142 (0, 0)) :: (gv, .cells (upart 8 X) 142 (0, 0)) :: (gw, .cells (upart 64 (sched blk)) 144 (0, 0)) :: (gh + 1, .cells (upart 64 kTab) 144 (0, 0)) :: (gs, .cells cur 5 (0, 0)) :: F1) → St W (wq.setCell ⟨gh, t, none⟩ (.int .u64 (wv (S.getD t 0 + X.getD t 0)))) I ((gh, .cells (upart 8 (addTo S X (t + 1))) 142 (0, 0)) :: (gv, .cells (upart 8 X) 142 (0, 0)) :: (gw, .cells (upart 64 (sched blk)) 144 (0, 0)) :: (gh + 1, .cells (upart 64 kTab) 144 (0, 0)) :: (gs, .cells cur 5 (0, 0)) :: F1) := fun wq h => by
                            rw [addTo, ← upart_set 8 _ _ _ hal]
                            exact St.set (A := []) h t (.int .u64 (wv (S.getD t 0 + X.getD t 0)))
                          have HSET := Lib.hid hset; have HST := Lib.hid hst
                          clear hset hst hal
                          generalize S.getD t 0 = sx at *
                          generalize X.getD t 0 = xx at *
                          have l1 := wv_lo sx; have l2 := wv_hi sx; have l3 := wv_lo xx; have l4 := wv_hi xx
                          have m1 : IntKind.u64.wrap (wv sx + wv xx) = wv sx + wv xx := by rw [IntKind.wrap_u64]; omega
                          have m2 := vv_add2 sx xx
                          go_wp2_with fail
                          refine wp_region_quiet_tail 10 (by kernel_rfl) (by kernel_rfl) ?_
                          simp only [List.take_succ_cons, List.take_zero, List.drop_succ_cons, List.drop_zero]
                          repeat (go_big_quiet_step (fail))
                          refine wpQuiet_nil ?_
                          rintro _ ⟨nq, rfl⟩
                          clear q2
                          go_wp2_with fail
                          go_roundw
                          case rel => exact ⟨t + 1, by omega, by go_num, HSET.out _ (HST.out.drew _)⟩
                          case measure => simp [intOf]; omega
                        · obtain rfl : t = 8 := by omega
                          rw [← HNX2.out] at hst
                          have hst9 : St W wr I ((gh, .cells (upart 8 (stF hTab m (k + 1))) 142 (0, 0)) :: (gh + 1, .cells (upart 64 kTab) 144 (0, 0)) :: (gs, .cells cur 5 (0, 0)) :: F1) := St.weaken (A := [(gv, _), (gw, _)]) (hst.perm (by exact (List.perm_middle (l₁ := [(gv, _), (gw, _)])).symm))
                          have k64 : IntKind.i64.wrap (((64 * k : Nat) : Int) + 64) = ((64 * (k + 1) : Nat) : Int) := by rw [IntWalk.i64_in _ (by omega)]; omega
                          clear hst
                          go_wp2_with fail
                          go_roundw
                          case rel => exact ⟨k + 1, by omega, by go_num, hst9⟩
                          case measure => simp [intOf]; omega
            · obtain rfl : k = q := by omega
              have hhv := HHV.out
              have hsl := stF_len hTab m hTab_len k
              generalize stF hTab m k = S at *
              have z0 : (bpart []).size = 32 := bpart_size _ (by simp)
              have eS : setMany (bpart []) 0 (bpart []).toList = bpart [] := by rw [setMany_whole _ _ (by simp)]
              have h7 := hst.alloc (.cells (bpart []) 50)
              have iS : (Tryd.prog.info? 50).map (·.size) = some (bpart []).size := by rw [z0]; kernel_rfl
              have fS : 0 + (bpart []).size ≤ (bpart []).size := by omega
              have oS : (bpart []).all (·.oneCell') = true := by
                unfold bpart
                exact all_oneCell_toArray (by simp [bval, Value.oneCell'])
              rw [zero32_cells] at eS h7 iS fS oS
              have ES := Lib.hid eS; have H7 := Lib.hid h7; have IS := Lib.hid iS; have FSz := Lib.hid fS; have OS := Lib.hid oS
              have HHV2 := Lib.hid hhv; have HSL := Lib.hid hsl
              clear eS h7 iS fS oS z0 hst hhv hsl HHV HCELL HEL hkq
              go_wp2_with (with_reducible refine wpList_store_st rfl 50 (.tmp 23) (.tmp 233) rfl (g := wr.heap.size) (off := 0) _ rfl rfl H7.out FSz.out IS.out OS.out ?_; intro w40 h40; refine Hid.out ?_)
              refine Lib.hid ?_
              rw [ES.out, ← zero32_cells] at h40
              clear ES H7 IS FSz OS
              generalize wr.heap.size = gb at *
              have h41 : St W w40 I ((gb, .cells (bpart ((List.range 0).map (hashByte S))) 50 (0, 0)) :: (gh, .cells (upart 8 S) 142 (0, 0)) :: (gh + 1, .cells (upart 64 kTab) 144 (0, 0)) :: (gs, .cells cur 5 (0, 0)) :: F1) := h40
              clear h40
              go_wp2_with fail
              go_loopw [234] (fun i wq => ∃ j : Nat, j ≤ 32 ∧ i = .int .i64 j ∧ St W wq I ((gb, .cells (bpart ((List.range j).map (hashByte S))) 50 (0, 0)) :: (gh, .cells (upart 8 S) 142 (0, 0)) :: (gh + 1, .cells (upart 64 kTab) 144 (0, 0)) :: (gs, .cells cur 5 (0, 0)) :: F1)) (fun i _ => 32 - (intOf i).toNat)
              case atStart => exact ⟨0, by omega, rfl, h41⟩
              case round =>
                obtain ⟨j, hj, rfl, hs8⟩ := hrel
                clear h41
                by_cases hj32 : j < 32
                · have hji : (j : Int) < 32 := by omega
                  obtain ⟨a, ha⟩ : ∃ a, a = j / 4 := ⟨_, rfl⟩
                  obtain ⟨b, hb⟩ : ∃ b, b = j % 4 := ⟨_, rfl⟩
                  obtain ⟨v0, hv0⟩ := bpart_has ((List.range j).map (hashByte S)) (by simp; omega) j hj32
                  have q := hs8.cell (g := gb) (cs := bpart ((List.range j).map (hashByte S))) (t := 50) (fr := (0, 0)) (by simp) j
                  rw [hv0] at q
                  have f := hs8.frozen (g := gb) (cs := bpart ((List.range j).map (hashByte S))) (t := 50) (by simp) j
                  have qa : wr.cell? ⟨gh, a, none⟩ = some (.int .u64 (wv (S.getD a 0))) := by
                    rw [hs8.cell (g := gh) (cs := upart 8 S) (t := 142) (fr := (0, 0)) (by simp)]
                    exact upart_get 8 _ _ (by have := HSL.out; omega)
                  have hby : wv (S.getD a 0) / 2 ^ (24 - 8 * b) % 256 = ((hashByte S j).toNat : Int) := by
                    unfold hashByte
                    rw [← ha, ← hb, UInt8.toNat_ofNat', wv_nat]
                    simp
                  have hset : St W (wr.setCell ⟨gb, j, none⟩ (.int .u8 ((hashByte S j).toNat : Int))) I ((gb, .cells (bpart ((List.range (j + 1)).map (hashByte S))) 50 (0, 0)) :: (gh, .cells (upart 8 S) 142 (0, 0)) :: (gh + 1, .cells (upart 64 kTab) 144 (0, 0)) :: (gs, .cells cur 5 (0, 0)) :: F1) := by
                    rw [← bpart_next _ _ hj32]
                    exact St.set (A := []) hs8 j _
                  have hbt : (wv (S.getD a 0) / 2 ^ (24 - 8 * b)).tmod 256 % 256 = ((hashByte S j).toNat : Int) := by
                    rw [Int.tmod_eq_emod_of_nonneg (Int.ediv_nonneg (wv_lo _) (Int.le_of_lt (Int.pow_pos (by decide)))), hby]
                    have := (hashByte S j).toNat_lt
                    omega
                  have HBT := Lib.hid hbt
                  clear hbt hby
                  have d1 : (j : Int) / 4 = (a : Int) := by omega
                  have d2 : (j : Int) % 4 = (b : Int) := by omega
                  have ha8 : (a : Int) < 8 := by omega
                  have hb4 : (b : Int) < 4 := by omega
                  have HS := Lib.hid hset
                  clear hset hs8 hv0 ha hb
                  generalize S.getD a 0 = X at *
                  generalize hashByte S j = hbj at *
                  go_wp2_with fail
                  go_roundw
                  case rel => exact ⟨j + 1, by omega, by go_num, by rw [HBT.out]; exact HS.out⟩
                  case measure => simp [intOf]; omega
                · obtain rfl : j = 32 := by omega
                  have eF := HF1.out
                  rw [← eF, ← zero32_cells] at hs8
                  have hs' : St W wr I ((w.heap.size, .cells (bpart []) 50 (0, 0)) :: (gb, .cells (bpart ((List.range 32).map (hashByte S))) 50 (0, 0)) :: (gh, .cells (upart 8 S) 142 (0, 0)) :: (gh + 1, .cells (upart 64 kTab) 144 (0, 0)) :: (gs, .cells cur 5 (0, 0)) :: F) := hs8.perm (by exact List.perm_middle (l₁ := [(gb, _), (gh, _), (gh + 1, _), (gs, _)]))
                  have hp : (gb, Obj.cells (bpart ((List.range 32).map (hashByte S))) 50 (0, 0)) ∈ (w.heap.size, Obj.cells (bpart []) 50 (0, 0)) :: (gb, .cells (bpart ((List.range 32).map (hashByte S))) 50 (0, 0)) :: (gh, .cells (upart 8 S) 142 (0, 0)) :: (gh + 1, .cells (upart 64 kTab) 144 (0, 0)) :: (gs, .cells cur 5 (0, 0)) :: F := by simp
                  have hCS : HV bs = bpart ((List.range 32).map (hashByte S)) := by
                    rw [HHV2.out]
                    simp [bcells, bpart]
                  have z1 : (bpart ((List.range 32).map (hashByte S))).size = 32 := bpart_size _ (by simp)
                  have z0 : (bpart []).size = 32 := bpart_size _ (by simp)
                  have o1 : (bpart ((List.range 32).map (hashByte S))).all (·.oneCell') = true := by
                    unfold bpart
                    exact all_oneCell_toArray (by simp [bval, Value.oneCell'])
                  have HCS := Lib.hid hCS
                  clear hCS HF1 eF hs8 HHV2
                  generalize bpart ((List.range 32).map (hashByte S)) = CS at *
                  have hy : ∀ j, j < CS.size → CS[0 + j]? = CS[j]? := fun j _ => by rw [Nat.zero_add]
                  have i1 : (Tryd.prog.info? 50).map (·.size) = some CS.size := by rw [z1]; kernel_rfl
                  have ew : setMany (bpart []) 0 CS.toList = CS := by rw [setMany_whole _ _ (by simp [z0, z1])]
                  have f1 : 0 + CS.size ≤ (bpart []).size := by omega
                  have Z1 := Lib.hid z1; have Z0 := Lib.hid z0; have EW := Lib.hid ew; have HS' := Lib.hid hs'; have HP := Lib.hid hp; have HY := Lib.hid hy; have I1 := Lib.hid i1; have O1 := Lib.hid o1; have FF := Lib.hid f1
                  clear z1 z0 ew hs' hp hy i1 o1 f1
                  generalize bpart [] = C0 at *
                  go_wp2_with (first
                    | (with_reducible refine wpList_load_st rfl 50 (.tmp 23) rfl (g := gb) (off := 0) rfl HS'.out HP.out CS HY.out _ Tryd.underlying50 rfl I1.out ?_)
                    | (with_reducible refine wpList_store_st rfl 50 (.tmp 2) (.tmp 251) rfl (g := w.heap.size) (off := 0) CS rfl rfl HS'.out FF.out I1.out O1.out ?_; intro w9 h9))
                  rw [EW.out] at h9
                  go_wp2_with fail
                  refine bodyPost_ret (results_cell_row rfl _ w9 w.heap.size 50 CS (0, 0) _ rfl (h9.own (w.heap.size, .cells CS 50 (0, 0)) (by simp)) Tryd.underlying50 (by kernel_rfl) I1.out) rfl ?_
                  exact ⟨by rw [HCS.out], h9.weaken (A := [_, _, _, _, _])⟩
    · have h56i : ¬ ((n : Int) % 64 = 56) := by omega
      have hnn : (n : Int) ≤ 1000200 := by omega
      have hlt : j < padZ bs.length := by
        unfold padZ at hj ⊢
        omega
      have hnext : ∀ w' A' c', SSt W w' I (.slice A' (n + 1) c') (bs ++ [128] ++ List.replicate j 0 ++ [0]) F1 → SSt W w' I (.slice A' (n + 1) c') (bs ++ [128] ++ List.replicate (j + 1) 0) F1 := fun w' A' c' h => by
        rw [List.replicate_succ', ← List.append_assoc]
        exact h
      have q : (wr.alloc (.cells #[.int .u8 0] 5)).cell? ⟨wr.heap.size, 0, none⟩ = some (.int .u8 0) := cell_new rfl rfl
      have hx := fun o => h3.alloc_ o
      have Q := Lib.hid q; have HX := Lib.hid hx; have HR3 := Lib.hid hr3; have HNX := Lib.hid hnext; have HML := Lib.hid (hml.trans hn.symm)
      rw [hml, ← hn]
      clear q hx hr3 hnext h3 hml hl1 hpz
      have HN := Lib.hid hn
      clear hn
      go_wp2_with (at_builtin; refine Hid.out ?_)
      refine Lib.hid ?_
      refine wpList_append_byte rfl (.tmp 34) (.tmp 35) rfl (m := bs ++ [128] ++ List.replicate j 0) (A := A3) (c := c3) (by rw [HML.out]; rfl) HR3.out (by exact HX.out _) rfl 0 (by exact Q.out) (n + 1) (by rw [HML.out]) (by omega) ?_
      intro A5 c5 w5 hs5
      have hs6 := HNX.out _ _ _ hs5
      clear hs5 HX HR3 HNX Q
      go_wp2_with fail
      go_roundw
      case rel => exact ⟨j + 1, by omega, hs6⟩
      case measure => simp only [slLen]; have := HML.out; omega
end Go.Proofs.YtnhlpiomfljlcaaDoor
