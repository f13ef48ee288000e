/- DigestPieces: the walk of the law. -/
import Derived.Test.YtjkepnddmpgljaaDigAlive
namespace Go.Proofs.Ytjkepnddmpgljaa
set_option linter.unusedVariables false
set_option linter.unusedSimpArgs false
open Go.RowKit

/-- What is still to be written: a slice of the argument's. -/
def Still (W : World) (x0 : List UInt8) (v : Value) (pre : List UInt8) : Prop :=
  ∃ A c xs, v = .slice A xs.length c ∧ x0 = pre ++ xs ∧ xs.length ≤ c ∧ c ≤ 9223372036854775807 ∧ Part.In ⟨A, c, xs⟩ W (fun b => W.heap[b]?)

/-- A row of bytes that is read one by one. -/
def Sizes (W : World) (v : Value) (n : Nat) : Prop :=
  ∃ A c, v = .slice A n c ∧ n ≤ c ∧ c ≤ 9223372036854775807 ∧ ∀ k, k < n → ∃ b off, ∃ x : UInt8, A = some ⟨b, off, none⟩ ∧ roCell (fun b => W.heap[b]?) ⟨b, off + k, none⟩ = some (.int .u8 (x.toNat : Int))

theorem sizes_of_cel {H : Type} {enc : TypeId × Value → H} {P : Program} {W : World} {t e : TypeId} {v : Value} (ht : P.underlying t = some (.slice e)) (he : P.underlying e = some (.int .u8)) (hc : P.cellsOf e = 1) (h : Cel enc P W t [v]) : ∃ n, Sizes W v n := by
  obtain ⟨A, n, c, xs, hv, hs⟩ := h.slice (α := UInt8) (Q := fun cs b => cs = [bval b]) (size := 1) ht hc (by omega) (fun cs hcs => hcs.byte he)
  simp only [List.cons.injEq, and_true] at hv
  have hm := hs.cap'
  unfold maxLen at hm
  refine ⟨n, A, c, hv, hs.cap, hm, fun k hk => ?_⟩
  obtain ⟨b, off, cs, h1, h2, h3, h4⟩ := hs.at_ k (xs[k]'(by rw [hs.len]; exact hk)) (List.getElem?_eq_getElem _)
  subst h4
  refine ⟨b, off, xs[k]'(by rw [hs.len]; exact hk), h1, ?_⟩
  have := h3 0 (by omega)
  rw [Nat.mul_one, Nat.add_zero] at this
  exact this

theorem Still.step {W : World} {x0 : List UInt8} {A : Option Addr} {c : Nat} {xs pre : List UInt8} (kk : Nat) (hk : kk ≤ xs.length) (hx : x0 = pre ++ xs) (hc : xs.length ≤ c) (hm : c ≤ 9223372036854775807) (h : Part.In ⟨A, c, xs⟩ W (fun b => W.heap[b]?)) :
    Still W x0 (.slice (subA A c kk) (xs.length - kk) (c - kk)) (pre ++ xs.take kk) :=
  ⟨subA A c kk, c - kk, xs.drop kk, by rw [List.length_drop], by rw [List.append_assoc, List.take_append_drop]; exact hx, by rw [List.length_drop]; omega, by omega, Part.In_drop _ _ hc h⟩

set_option maxRecDepth 10000 in
set_option maxHeartbeats 4000000 in
theorem walk_digestPieces (W : World) {H : Type} {enc : TypeId × Value → H} {v0 v1 : Value} (a0 : Arg enc Try.prog W 22 v0) (a1 : Arg enc Try.prog W 37 v1) :
    Calls Try.prog 5 #[v0, v1] W fun e w' => e = .returned (.bool true) ∧ Below W.heap.size W w' := by
  obtain ⟨A0, n0, c0, x0, rfl, rfl, q0, m0, in0⟩ := a0.bytes Try.underlying22 Try.underlying5 (by kernel_rfl)
  obtain ⟨u1, u2, n1, n2, rfl, s1, s2⟩ : ∃ u1 u2 n1 n2, v1 = .agg #[u1, u2] ∧ Sizes W u1 n1 ∧ Sizes W u2 n2 := by
    obtain ⟨cs, xs, rfl, hl, hl2, hq⟩ := a1.array1 (α := Nat) (Q := fun u n => Sizes W u n) Try.underlying37 (by kernel_rfl) (by kernel_rfl) (fun u hu => sizes_of_cel Try.underlying22 Try.underlying5 (by kernel_rfl) hu)
    match cs, xs, hl, hl2, hq with
    | [u1, u2], [n1, n2], _, _, hq => exact ⟨u1, u2, n1, n2, rfl, hq 0 (by simp) (by simp), hq 1 (by simp) (by simp)⟩
  obtain ⟨A1, c1, rfl, k1, k1', g1⟩ := s1
  obtain ⟨A2, c2, rfl, k2, k2', g2⟩ := s2
  unfold maxLen at m0
  have hst0 := (St.start W).alloc_ (.cells #[.slice A1 n1 c1, .slice A2 n2 c2] 37)
  have hst00 := (St.start W).alloc (.cells #[.slice A1 n1 c1, .slice A2 n2 c2] 37)
  obtain ⟨J, hle, hJ, hst0⟩ := hst00.freeze
  have hr0 : roCell J ⟨W.heap.size, 0, none⟩ = some (.slice A1 n1 c1) := by simp [roCell, hJ]
  have hr1 : roCell J ⟨W.heap.size, 1, none⟩ = some (.slice A2 n2 c2) := by simp [roCell, hJ]
  have HLE := Lib.hid hle; have HR0 := Lib.hid hr0; have HR1 := Lib.hid hr1
  have G1 := Lib.hid g1; have G2 := Lib.hid g2
  have inJ : ∀ A c xs, Part.In ⟨A, c, xs⟩ W (fun b => W.heap[b]?) → Part.In ⟨A, c, xs⟩ W J := fun A c xs h w L hst => h w L (hst.less hle)
  clear a0 a1 hst00 hle hr0 hr1 g1 g2 hJ
  go_enter Try.func5, Try.ntmps5
  go_wp2_with fail
  refine (digestAlive hst0).mono ?_
  rintro e w1 ⟨rfl, hst1⟩
  have z0 := hst1.ro HR0.out
  have z1 := hst1.ro HR1.out
  by_cases h5 : (1500 : Int) < x0.length ∨ (40 : Int) < n1 ∨ (40 : Int) < n2
  · have hfin := hst1.below HLE.out
    by_cases h50 : (1500 : Int) < x0.length
    · go_wp2_with fail
      go_ret
      exact ⟨rfl, hfin⟩
    · by_cases h51 : (40 : Int) < n1
      · go_wp2_with fail
        go_ret
        exact ⟨rfl, hfin⟩
      · have h52 : (40 : Int) < n2 := by omega
        go_wp2_with fail
        go_ret
        exact ⟨rfl, hfin⟩
  have b0 : (x0.length : Int) ≤ 1500 := by omega
  have b1 : (n1 : Int) ≤ 40 := by omega
  have b2 : (n2 : Int) ≤ 40 := by omega
  clear h5 hst0
  have N0 : x0.length ≤ 1500 := by omega
  go_wp2_with fail
  refine (ds_new (Digs.nil hst1)).mono ?_
  rintro e w2 ⟨g1, rfl, h2⟩
  clear hst1 z0 z1
  go_wp2_with fail
  refine (ds_new h2).mono ?_
  rintro e w3 ⟨g2, rfl, h3⟩
  have h3' := h3.perm (List.Perm.swap _ _ _)
  clear h2 h3
  have z0 := h3'.frame.ro HR0.out
  go_wp2_with fail
  clear z0
  go_loopw [39, 7] (fun i x wr => ∃ (k : Nat) (pre : List UInt8), k ≤ n1 ∧ i = .int .i64 k ∧ Still W x0 x pre ∧ Digs W wr J [(g1, pre), (g2, [])] []) (fun i _ _ => n1 - (intOf i).toNat)
  case atStart => exact ⟨0, [], by omega, rfl, ⟨A0, c0, x0, rfl, rfl, q0, m0, in0⟩, h3'⟩
  case round =>
    obtain ⟨k, pre, hk, rfl, ⟨A, c, xs, rfl, hx, hc, hm, hin⟩, hd⟩ := hrel
    clear h3'
    have hxl : x0.length = pre.length + xs.length := by rw [hx]; simp
    by_cases hlt : k < n1
    · obtain ⟨b, off, x, rfl, hc0⟩ := G1.out k hlt
      have hcw := hd.frame.ro (roCell_mono HLE.out hc0)
      clear hc0
      have x256 := x.toNat_lt
      obtain ⟨kk, hkk⟩ : ∃ kk, kk = min x.toNat xs.length := ⟨_, rfl⟩
      have hkl : kk ≤ xs.length := by omega
      have hmin : min (x.toNat : Int) (xs.length : Int) = (kk : Int) := by omega
      have sl1 := fun w => run_slice_to Try.underlying22 Try.sizeOf5 A xs.length c kk (by omega) w
      have sl2 := fun w => run_slice_from Try.underlying22 Try.sizeOf5 A xs.length c kk hkl hc w
      have hstill := Still.step kk hkl hx hc hm hin
      have etl : (xs.take kk).length = kk := by rw [List.length_take]; omega
      have kw := ds_write ⟨A, c, xs.take kk⟩ (inJ _ _ _ (Part.In_take c kk hin)) hd (by simp only [etl]; omega)
      simp only [etl] at kw
      have hpl : (pre ++ xs.take kk).length ≤ 1500 := by rw [List.length_append, etl]; omega
      generalize pre ++ xs.take kk = pre' at *
      have KW := Lib.hid kw; have HSI := Lib.hid hstill; have HPL := Lib.hid hpl; have HX := Lib.hid hx
      clear kw hstill hpl hx hkk hxl etl hd hin
      have xl : xs.length ≤ 9223372036854775807 := by omega
      clear hc hm
      generalize xs.length = nn at *
      go_wp2_with fail
      refine KW.out.mono ?_
      rintro e w5 ⟨rfl, hd5⟩
      clear KW
      go_wp2_with fail
      have kn := ds_write ⟨none, 0, []⟩ (Part.In_nil _ _) hd5 (by simp; have := HPL.out; omega)
      rw [List.append_nil] at kn
      refine kn.mono ?_
      clear kn
      rintro e w6 ⟨rfl, hd6⟩
      clear hd5
      go_wp2_with fail
      go_roundw
      case rel => exact ⟨k + 1, pre', by omega, by go_num, HSI.out, hd6⟩
      case measure => simp [intOf]; omega
    · obtain rfl : k = n1 := by omega
      have z1 := hd.frame.ro HR1.out
      clear hlt
      go_wp2_with fail
      clear z1
      go_loopw [62, 8] (fun i y wr => ∃ (k : Nat) (pre2 : List UInt8), k ≤ n2 ∧ i = .int .i64 k ∧ Still W x0 y pre2 ∧ Digs W wr J [(g2, pre2), (g1, pre)] []) (fun i _ _ => n2 - (intOf i).toNat)
      case atStart => exact ⟨0, [], by omega, rfl, ⟨A0, c0, x0, rfl, rfl, q0, m0, in0⟩, hd.perm (List.Perm.swap _ _ _)⟩
      case round =>
        obtain ⟨k2, pre2, hk2, rfl, ⟨B, d, ys, rfl, hy, hcy, hmy, hiny⟩, hd2⟩ := hrel
        clear hd
        have hyl : x0.length = pre2.length + ys.length := by rw [hy]; simp
        by_cases hlt : k2 < n2
        · obtain ⟨b, off, x, rfl, hc0⟩ := G2.out k2 hlt
          have hcw := hd2.frame.ro (roCell_mono HLE.out hc0)
          clear hc0
          have x256 := x.toNat_lt
          obtain ⟨kk, hkk⟩ : ∃ kk, kk = min x.toNat ys.length := ⟨_, rfl⟩
          have hkl : kk ≤ ys.length := by omega
          have hmin : min (x.toNat : Int) (ys.length : Int) = (kk : Int) := by omega
          have sl1 := fun w => run_slice_to Try.underlying22 Try.sizeOf5 B ys.length d kk (by omega) w
          have sl2 := fun w => run_slice_from Try.underlying22 Try.sizeOf5 B ys.length d kk hkl hcy w
          have hstill := Still.step kk hkl hy hcy hmy hiny
          have etl : (ys.take kk).length = kk := by rw [List.length_take]; omega
          have kw := ds_write ⟨B, d, ys.take kk⟩ (inJ _ _ _ (Part.In_take d kk hiny)) hd2 (by simp only [etl]; omega)
          simp only [etl] at kw
          have hpl : (pre2 ++ ys.take kk).length ≤ 1500 := by rw [List.length_append, etl]; omega
          generalize pre2 ++ ys.take kk = pre' at *
          have KW := Lib.hid kw; have HSI := Lib.hid hstill; have HPL := Lib.hid hpl; have HY := Lib.hid hy; have HX := Lib.hid hx
          clear kw hstill hpl hy hkk hyl etl hd2 hiny hx hxl hin
          have yl : ys.length ≤ 9223372036854775807 := by omega
          clear hcy hmy
          generalize ys.length = nn at *
          generalize xs.length = nx at *
          go_wp2_with fail
          refine KW.out.mono ?_
          rintro e w5 ⟨rfl, hd5⟩
          clear KW
          go_wp2_with fail
          have kn := ds_sum hd5 (by have := HPL.out; omega)
          refine kn.mono ?_
          clear kn
          rintro e w6 ⟨rfl, hd6⟩
          clear hd5
          go_wp2_with fail
          go_roundw
          case rel => exact ⟨k2 + 1, pre', by omega, by go_num, HSI.out, hd6⟩
          case measure => simp [intOf]; omega
        · obtain rfl : k2 = n2 := by omega
          have kx := ds_write ⟨A, c, xs⟩ (inJ _ _ _ hin) (hd2.perm (List.Perm.swap _ _ _)) (by show pre.length + xs.length ≤ _; omega)
          have ky := fun w (h : Digs W w J [(g2, pre2), (g1, pre ++ xs)] []) => ds_write ⟨B, d, ys⟩ (inJ _ _ _ hiny) h (by show pre2.length + ys.length ≤ _; omega)
          simp only [← hx, ← hy] at kx ky
          have ka := fun w (h : Digs W w J [(g1, x0), (g2, x0)] []) n0 (hn0 : n0 = w.heap.size) => ds_all [⟨A0, c0, x0⟩] (in_cons (inJ _ _ _ in0) in_nil) h (n0 := n0) (n := 1) hn0 rfl (by simp [cat]; omega) (by omega)
          rw [show cat [⟨A0, c0, x0⟩] = x0 by simp [cat]] at ka
          simp only [Part.val, List.map_cons, List.map_nil] at ka
          have E1 := eq_HV x0
          have KX := Lib.hid kx; have KY := Lib.hid ky; have KA := Lib.hid ka
          clear kx ky ka hx hy hxl hyl hd2 hlt in0 hin hiny inJ
          have xl : xs.length ≤ 9223372036854775807 := by omega
          have yl : ys.length ≤ 9223372036854775807 := by omega
          clear hc hm hcy hmy
          generalize xs.length = nx at *
          generalize ys.length = ny at *
          go_wp2_with fail
          refine KX.out.mono ?_
          rintro e w5 ⟨rfl, h5⟩
          clear KX
          go_wp2_with fail
          refine (KY.out _ (h5.perm (List.Perm.swap _ _ _))).mono ?_
          rintro e w6 ⟨rfl, h6⟩
          clear KY h5
          go_wp2_with fail
          refine (ds_sum (h6.perm (List.Perm.swap _ _ _)) (by omega)).mono ?_
          rintro e w7 ⟨rfl, h7⟩
          clear h6
          go_wp2_with fail
          refine (ds_sum (h7.perm (List.Perm.swap _ _ _)) (by omega)).mono ?_
          rintro e w8 ⟨rfl, h8⟩
          clear h7
          have kl1 := ds_len (h8.perm (List.Perm.swap _ _ _))
          have kl2 := ds_len h8
          have KL1 := Lib.hid kl1; have KL2 := Lib.hid kl2
          clear kl1 kl2
          go_wp2_with fail
          refine KL1.out.mono ?_
          rintro e w9 ⟨rfl, rfl⟩
          go_wp2_with fail
          refine KL2.out.mono ?_
          rintro e w9 ⟨rfl, rfl⟩
          go_wp2_with fail
          refine KL1.out.mono ?_
          rintro e w9 ⟨rfl, rfl⟩
          clear KL1 KL2
          go_wp2_with fail
          refine (ds_sum (h8.perm (List.Perm.swap _ _ _)) (by omega)).mono ?_
          rintro e w9 ⟨rfl, h9⟩
          go_wp2_with fail
          refine (KA.out _ h9 _ rfl).mono ?_
          rintro e w10 ⟨rfl, h10⟩
          clear KA h9 h8
          go_wp2_with fail
          go_ret
          exact ⟨rfl, h10.frame.below HLE.out⟩
end Go.Proofs.Ytjkepnddmpgljaa
