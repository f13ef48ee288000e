/- NetWhole: the walk of the law. -/
import Derived.Test.YtjmdhljhlcbneaaDoorNetL
import Derived.Test.YtjmdhljhlcbneaaDoorArgs
namespace Go.Proofs.YtjmdhljhlcbneaaDoor
set_option linter.unusedVariables false
set_option linter.unusedSimpArgs false
open Go.RowKit

theorem fold_core : foldOf ⟨#[99, 111, 114, 101]⟩ = [99, 111, 114, 101] := by kernel_rfl
theorem fold_Core : foldOf ⟨#[67, 111, 114, 101]⟩ = [99, 111, 114, 101] := by kernel_rfl
theorem name_core : nameOk ⟨#[99, 111, 114, 101]⟩ = true := by kernel_rfl
theorem newOffs_core (p0 : Part) : newOffs [(⟨#[99, 111, 114, 101]⟩, p0)] = [(⟨#[99, 111, 114, 101]⟩, p0.bs)] := by simp [newOffs, addOff, name_core, fold_core, lookB]
theorem fin_nil (W : World) (I : Nat → Option Obj) : FIn none [] W I := fun w L _ => ⟨rfl, fun j u hj => by simp [fall] at hj⟩
theorem core_off {W w : World} {J : Nat → Option Obj} {b7 : Nat} {p0 : Part} (hp : POk p0 W J) (hg : J b7 = some (.cells #[.string ⟨#[99, 111, 114, 101]⟩, p0.val] 27 (0, 0))) : OffIn (some ⟨b7, 0, none⟩) [(⟨#[99, 111, 114, 101]⟩, p0)] W J := by
  refine ⟨fun k o hk => ?_, fun o ho => ?_, fun o ho => ?_⟩
  · match k, hk with
    | 0, hk => simp at hk; subst hk; exact ⟨_, _, rfl, roCell_of hg, by rw [roCell_of hg]; rfl⟩
    | k + 1, hk => simp at hk
  · simp at ho; subst ho; show ByteArray.size ⟨#[99, 111, 114, 101]⟩ ≤ 1000000; decide
  · simp at ho; subst ho; exact hp
theorem fetched_none (bs : List UInt8) (a m : Int) : fetched bs ⟨0, 0, 0⟩ a m = (piece bs a m, 0) := rfl

set_option maxRecDepth 100000 in
set_option maxHeartbeats 8000000 in
theorem walk_netWhole (W : World) (tabs : Tabs W) {H : Type} {enc : TypeId × Value → H} {v0 v1 : Value} (a0 : Arg enc Tryd.prog W 22 v0) (a1 : Arg enc Tryd.prog W 5 v1) :
    Calls Tryd.prog 3 #[v0, v1] W fun e w' => e = .returned (.bool true) ∧ Below W.heap.size W w' := by
  obtain ⟨A, n, c, x0, rfl, rfl, q0, m0, in0⟩ := a0.bytes Tryd.underlying22 Tryd.underlying5 (by kernel_rfl)
  obtain ⟨pc, rfl, hpc⟩ := a1.int Tryd.underlying5
  obtain ⟨hp0, hp1⟩ := wf_u8 hpc
  obtain ⟨k0, rfl⟩ := Int.eq_ofNat_of_zero_le hp0
  obtain ⟨mn, hmn⟩ : ∃ mn, mn = 1 + k0 := ⟨_, rfl⟩
  have hmany : (1 : Int) + (k0 : Int) = (mn : Int) := by omega
  have hmn1 : 1 ≤ mn := by omega
  have hmn2 : mn ≤ 256 := by omega
  clear hmn hpc hp0 hp1
  have t := TB.start tabs
  have h0 := St.start W
  have TT := Lib.hid t; have H0 := Lib.hid h0; have IN0 := Lib.hid in0
  clear t h0 tabs a0 a1 in0
  unfold maxLen at m0
  go_enter Tryd.func3, Tryd.ntmps3
  go_wp2_with fail
  refine (net_alive TT.out H0.out).mono ?_
  rintro e w ⟨rfl, h⟩
  have hfin := h.below (Le.refl _)
  by_cases h1000 : (1000 : Int) < x0.length
  · clear h
    go_wp2_with fail
    go_ret
    exact ⟨rfl, hfin⟩
  clear hfin
  obtain ⟨b7, hb7⟩ : ∃ b7, b7 = w.heap.size := ⟨_, rfl⟩
  have h1 := h.alloc (.cells #[.string ⟨#[99, 111, 114, 101]⟩, .slice A x0.length c] 27)
  rw [← hb7] at h1
  obtain ⟨J1, le1, gg1, s1⟩ := St.freeze h1
  have hpo : POk ⟨A, c, x0⟩ W J1 := ⟨Part.In.mono IN0.out le1, q0, by unfold maxLen; exact m0, by show x0.length ≤ _; omega⟩
  have cN := net_new (TT.out.more le1) _ 1 [(⟨#[99, 111, 114, 101]⟩, ⟨A, c, x0⟩)] (core_off (w := w) hpo gg1) (by simp) none 0 [] (fin_nil _ _) (by simp) s1
  rw [newOffs_core] at cN
  have CN := Lib.hid cN; have HB7 := Lib.hid hb7; have LE1 := Lib.hid le1
  clear cN hpo s1 gg1 le1 h1 h H0
  go_wp2_with fail
  rw [← hb7]
  clear hb7
  refine CN.out.mono ?_
  rintro e w1 ⟨J, g, m, es, hleJ, rfl, hN, hof, hes⟩
  obtain ⟨p, rfl, hpb⟩ := one_offer hes
  have hpb : p.bs = x0 := hpb
  have T2 := Lib.hid (TT.out.more (LE1.out.trans hleJ))
  have l1 : lookP [((⟨#[99, 111, 114, 101]⟩ : ByteArray), p)] ⟨(foldOf ⟨#[99, 111, 114, 101]⟩).toArray⟩ = some p := by rw [fold_core]; simp [lookP]
  have l2 : lookP [((⟨#[99, 111, 114, 101]⟩ : ByteArray), p)] ⟨(foldOf ⟨#[67, 111, 114, 101]⟩).toArray⟩ = some p := by rw [fold_Core]; simp [lookP]
  have cF1 : ∀ (v : World) (cnt : Nat) (F : List (Nat × Obj)) (a n : Int), cnt ≤ 1000000000 → NetSt W v J g m [((⟨#[99, 111, 114, 101]⟩ : ByteArray), p)] [] cnt F → Calls Tryd.prog 9 #[.pointer (some ⟨g, 0, none⟩), .string ⟨#[99, 111, 114, 101]⟩, .int .i64 a, .int .i64 n] v fun e w' => ∃ u, e = .returned (.tuple #[u, .int .i64 0]) ∧ FreshN W w' J g m [((⟨#[99, 111, 114, 101]⟩ : ByteArray), p)] [] (cnt + 1) F (piece x0 a n) u := fun v cnt F a n hc hN => by
    have := net_fetch T2.out hof ⟨#[99, 111, 114, 101]⟩ (by decide) a n (by simp) hc p l1 hN
    rw [show first [] = (⟨0, 0, 0⟩ : Fault) from rfl, fetched_none, hpb] at this
    exact this
  have cF2 : ∀ (v : World) (cnt : Nat) (F : List (Nat × Obj)) (a n : Int), cnt ≤ 1000000000 → NetSt W v J g m [((⟨#[99, 111, 114, 101]⟩ : ByteArray), p)] [] cnt F → Calls Tryd.prog 9 #[.pointer (some ⟨g, 0, none⟩), .string ⟨#[67, 111, 114, 101]⟩, .int .i64 a, .int .i64 n] v fun e w' => ∃ u, e = .returned (.tuple #[u, .int .i64 0]) ∧ FreshN W w' J g m [((⟨#[99, 111, 114, 101]⟩ : ByteArray), p)] [] (cnt + 1) F (piece x0 a n) u := fun v cnt F a n hc hN => by
    have := net_fetch T2.out hof ⟨#[67, 111, 114, 101]⟩ (by decide) a n (by simp) hc p l2 hN
    rw [show first [] = (⟨0, 0, 0⟩ : Fault) from rfl, fetched_none, hpb] at this
    exact this
  have CF1 := Lib.hid cF1; have CF2 := Lib.hid cF2; have HN := Lib.hid hN; have HLE := Lib.hid (LE1.out.trans hleJ)
  clear cF1 cF2 hN hof hes hpb l1 l2 CN hleJ
  obtain ⟨es, hes⟩ : ∃ es, es = [((⟨#[99, 111, 114, 101]⟩ : ByteArray), p)] := ⟨_, rfl⟩
  rw [← hes] at CF1 CF2 HN
  clear hes
  go_wp2_with fail
  go_loopw [7] (fun r wr => ∃ (k cnt : Nat), k ≤ 2 ∧ r = .int .i64 k ∧ cnt ≤ 2000 * k ∧ NetSt W wr J g m es [] cnt []) (fun r _ => 2 - (intOf r).toNat)
  case atStart => exact ⟨0, 0, by omega, rfl, by omega, HN.out⟩
  case round =>
    obtain ⟨k, cnt, hk, rfl, hcnt, hN⟩ := hrel
    clear HN
    by_cases hk2 : k < 2
    · have hk2' : (k : Int) < 2 := by omega
      have HN := Lib.hid hN
      clear hN
      go_wp2_with fail
      go_loopw [8, 9] (fun s a wr => ∃ (at_ cnt : Nat), s = .string ⟨(x0.take at_).toArray⟩ ∧ a = .int .i64 at_ ∧ at_ ≤ x0.length + 256 ∧ cnt ≤ 2000 * k + at_ ∧ NetSt W wr J g m es [] cnt []) (fun _ a _ => x0.length + 256 - (intOf a).toNat)
      case atStart => exact ⟨0, cnt, by simp, rfl, by omega, by omega, HN.out⟩
      case round =>
        obtain ⟨at_, cn2, rfl, rfl, hat, hc2, hN⟩ := hrel
        clear HN
        by_cases hal : at_ < x0.length
        · have hal' : (at_ : Int) < x0.length := by omega
          have cF := CF2.out _ cn2 [] (at_ : Int) (mn : Int) (by omega) hN
          obtain ⟨px, hpx⟩ : ∃ px, piece x0 (at_ : Int) (mn : Int) = px := ⟨_, rfl⟩
          have hpx2 : px = (x0.drop at_).take mn := by rw [← hpx, piece, if_neg (by omega)]; simp
          have hpl : px.length = min mn (x0.length - at_) := by rw [hpx2, List.length_take, List.length_drop]
          have hml : min (mn : Int) ((x0.length : Int) - (at_ : Int)) = (px.length : Int) := by omega
          have htk : x0.take at_ ++ px = x0.take (at_ + mn) := by rw [hpx2, List.take_add]
          rw [hpx] at cF
          have CF := Lib.hid cF; have HTK := Lib.hid htk
          have hpb : px.length ≤ 1000 := by omega
          clear cF hpx hpx2 htk hN hpl
          go_wp2_with fail
          refine CF.out.mono ?_
          rintro e w2 ⟨v, rfl, A2, c2, Lr, rfl, hr, hN2⟩
          obtain ⟨φ, hst⟩ := id hN2
          have hcv := fresh_str hr hst (by intro q hq; simp [hq])
          have HR := Lib.hid hr; have HN2 := Lib.hid hN2
          clear hr hst hN2 φ CF
          go_wp2_with fail
          go_loopw [68] (fun i wr => ∃ (j : Nat) (bs : List UInt8) (L2 : List (Nat × Obj)), j ≤ px.length ∧ bs.length = px.length ∧ i = .int .i64 j ∧ Row 5 1 (.slice A2 px.length c2) px.length (bs.map bval) L2 ∧ NetSt W wr J g m es [] (cn2 + 1) (L2 ++ [])) (fun i _ => px.length - (intOf i).toNat)
          case atStart => exact ⟨0, px, Lr, by omega, rfl, rfl, HR.out, HN2.out⟩
          case round =>
            obtain ⟨j, bs, L2, hj, hbl, rfl, hr2, hN3⟩ := hrel
            clear HR HN2 hcv
            by_cases hjl : j < px.length
            · have hjl' : (j : Int) < px.length := by omega
              have hjb : j < bs.length := by omega
              obtain ⟨gb, off, cur, rfl, rfl, hcur, hrow2⟩ := row_set (u := bval (bs[j]'hjb ^^^ 255)) hjl hr2
              obtain ⟨φ, hst⟩ := hN3
              have hbc : wr.cell? ⟨gb, off + j, none⟩ = some (.int .u8 ((bs[j]'hjb).toNat : Int)) := by
                rw [hst.cell (g := gb) (cs := cur) (t := 5) (fr := (0, 0)) (by simp), hcur, List.getElem?_map, List.getElem?_eq_getElem hjb]
                rfl
              have hbf : wr.frozen? ⟨gb, off + j, none⟩ = false := hst.frozen (g := gb) (cs := cur) (t := 5) (by simp) _
              have hset := St.set (A := φ.L' g m es (cn2 + 1)) hst (off + j) (bval (bs[j]'hjb ^^^ 255))
              have hv8 : bval (bs[j]'hjb ^^^ 255) = .int .u8 (((bs[j]'hjb).toNat ^^^ 255 : Nat) : Int) := by rw [bval, UInt8.toNat_xor]; rfl
              have hxo : bits .xor .u8 ((bs[j]'hjb).toNat : Int) 255 = (((bs[j]'hjb).toNat ^^^ 255 : Nat) : Int) := u8_xor_nat _ 255 (bs[j]'hjb).toNat_lt (by omega)
              have hN4 : NetSt W (wr.setCell ⟨gb, off + j, none⟩ (.int .u8 (((bs[j]'hjb).toNat ^^^ 255 : Nat) : Int))) J g m es [] (cn2 + 1) ([(gb, .cells (cur.setIfInBounds (off + j) (bval (bs[j]'hjb ^^^ 255))) 5 (0, 0))] ++ []) := ⟨φ, by rw [← hv8]; exact hset⟩
              rw [← List.map_set] at hrow2
              have HN4 := Lib.hid hN4; have HRW := Lib.hid hrow2
              have hbl2 : (bs.set j (bs[j]'hjb ^^^ 255)).length = px.length := by rw [List.length_set]; exact hbl
              have HBL2 := Lib.hid hbl2
              clear hN4 hrow2 hset hst hr2 hcur hv8 hbl2
              generalize hbx : (bs[j]'hjb).toNat = bx at *
              go_wp2_with fail
              go_roundw
              case rel => exact ⟨j + 1, _, _, by omega, HBL2.out, by go_num, HRW.out, HN4.out⟩
              case measure => simp [intOf]; omega
            · obtain rfl : j = px.length := by omega
              have HN5 := Lib.hid hN3.drop
              clear hr2 hN3
              go_wp2_with fail
              go_roundw
              case rel => exact ⟨at_ + mn, cn2 + 1, by rw [← HTK.out]; exact congrArg Value.string (ByteArray.ext (by simp [ByteArray.data_append])), by go_num, by omega, by omega, HN5.out⟩
              case measure => simp [intOf]; omega
        · have htl : x0.take at_ = x0 := List.take_of_length_le (by omega)
          obtain ⟨φ, hst⟩ := id hN
          have hcv0 : (convert 22 9 (.slice A x0.length c)).run Tryd.prog wr = .ok (.string ⟨x0.toArray⟩) wr := conv_str Tryd.underlying22 Tryd.underlying5 Tryd.underlying9 (IN0.out wr _ (hst.less HLE.out))
          have HN := Lib.hid hN
          rw [htl]
          clear hN hst φ htl
          go_wp2_with fail
          go_roundw
          case rel => exact ⟨k + 1, cn2, by omega, by go_num, by omega, HN.out⟩
          case measure => simp [intOf]; omega
    · obtain rfl : k = 2 := by omega
      have e1 : piece x0 (x0.length : Int) 5 = [] := by rw [piece, if_pos (by omega)]
      have e2 : piece x0 (-1) 5 = [] := by rw [piece, if_pos (by omega)]
      have e3 : piece x0 0 0 = [] := by rw [piece, if_pos (by omega)]
      have c1 := CF1.out wr cnt [] (x0.length : Int) 5 (by omega) hN
      rw [e1] at c1
      have C1 := Lib.hid c1; have E2 := Lib.hid e2; have E3 := Lib.hid e3
      clear c1 e1 e2 e3 hN
      go_wp2_with fail
      refine C1.out.mono ?_
      rintro e w2 ⟨v, rfl, A2, c2, L2, rfl, _, hN2⟩
      have c2 := CF1.out w2 (cnt + 1) _ (-1) 5 (by omega) hN2
      rw [E2.out] at c2
      have C2 := Lib.hid c2
      clear c2 hN2 C1
      go_wp2_with fail
      refine C2.out.mono ?_
      rintro e w3 ⟨v, rfl, A3, c3, L3, rfl, _, hN3⟩
      have c3 := CF1.out w3 (cnt + 1 + 1) _ 0 0 (by omega) hN3
      rw [E3.out] at c3
      have C3 := Lib.hid c3
      clear c3 hN3 C2
      go_wp2_with fail
      refine C3.out.mono ?_
      rintro e w4 ⟨v, rfl, A4, c4, L4, rfl, _, hN4⟩
      have hfin : Below W.heap.size W w4 := hN4.out.below HLE.out
      have HFIN := Lib.hid hfin
      clear hN4 hfin C3
      go_wp2_with fail
      go_ret
      exact ⟨rfl, HFIN.out⟩
end Go.Proofs.YtjmdhljhlcbneaaDoor
