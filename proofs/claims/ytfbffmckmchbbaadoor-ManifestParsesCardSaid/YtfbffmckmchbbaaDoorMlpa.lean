/- ManifestParses: the walk of the law. -/
import Derived.Test.YtfbffmckmchbbaaDoorMlX
namespace Go.Proofs.YtfbffmckmchbbaaDoor
set_option linter.unusedVariables false
set_option linter.unusedSimpArgs false
open Go.RowKit Go.Lib

set_option maxRecDepth 100000 in
set_option maxHeartbeats 4000000 in
theorem walk_manifestParses (W : World) (tabs : Tabs W) {H : Type} {enc : TypeId × Value → H} {v0 : Value} (a0 : Arg enc Tryd.prog W 22 v0) :
    Calls Tryd.prog 3 #[v0] W fun e w' => e = .returned (.bool true) ∧ Below W.heap.size W w' := by
  obtain ⟨A, n, c, bs, rfl, rfl, hcap, hcm, hin⟩ := a0.bytes Tryd.underlying22 Tryd.underlying5 (by kernel_rfl)
  have t := TB.start tabs
  have kA := man_alive t (St.start W)
  have KA := Lib.hid kA; have HIN := Lib.hid hin; have TT := Lib.hid t
  clear kA hin t a0 tabs
  go_enter Tryd.func3, Tryd.ntmps3
  go_wp2_with fail
  refine KA.out.mono ?_
  rintro e w1 ⟨rfl, h1⟩
  have HF : Hid (Below W.heap.size W w1) := Lib.hid (h1.below (Le.refl _))
  by_cases g2 : (2500 : Int) < bs.length
  · clear KA h1
    go_wp2_with fail
    go_ret
    exact ⟨rfl, HF.out⟩
  have kM := ppa TT.out ⟨A, c, bs⟩ HIN.out (by simp only; omega) hcap h1
  obtain ⟨D, hD⟩ : ∃ D, paD bs = D := ⟨_, rfl⟩
  simp only [hD] at kM
  have KM := Lib.hid kM; have HDD := Lib.hid hD
  clear kM h1 KA hD HF
  go_wp2_with fail
  refine KM.out.mono ?_
  rintro e w2 ⟨J1, m, hs, hle1, rfl, mi, hd, h2⟩
  have HLE1 := Lib.hid hle1; have MI1 := Lib.hid mi; have HD1 := Lib.hid hd
  clear KM hle1 hd
  have hA := (h2).alloc (.cells zman.cells 29)
  rw [zman_lit] at hA
  obtain ⟨hmo, hmi, hfx, hsm⟩ := man_store (mi).ok
  have HA := Lib.hid hA; have HMO := Lib.hid hmo; have HMI3 := Lib.hid hmi; have HFX := Lib.hid hfx; have HSM := Lib.hid hsm
  rw [show m.val = .agg m.cells from rfl]
  clear hA hmo hmi hfx hsm 
  go_wp2_with (with_reducible refine wpList_store_st rfl 29 (.tmp 3) (.tmp 15) rfl (g := w2.heap.size) (off := 0) m.cells rfl rfl HA.out HFX.out HMI3.out HMO.out ?_; intro w3 h3; refine Hid.out ?_)
  refine Lib.hid ?_
  rw [HSM.out] at h3
  generalize w2.heap.size = b3 at *
  have H3 := Lib.hid h3
  clear HA HMO HFX HSM h3
  clear mi h2
  have kR := prpa (TT.out.more HLE1.out) ⟨A, c, bs⟩ (HIN.out.mono HLE1.out) (by simp only; omega) hcap H3.out
  simp only [HDD.out] at kR
  have KR := Lib.hid kR
  clear kR H3
  go_wp2_with fail
  refine KR.out.mono ?_
  rintro e w4 ⟨J2, m2, hs2, hle2, rfl, mi2, hd2, h4⟩
  have HLE2 := Lib.hid hle2; have MI2 := Lib.hid mi2; have HD2 := Lib.hid hd2
  clear KR hle2 hd2
  have hA := (h4).alloc (.cells zman.cells 29)
  rw [zman_lit] at hA
  obtain ⟨hmo, hmi, hfx, hsm⟩ := man_store (mi2).ok
  have HA := Lib.hid hA; have HMO := Lib.hid hmo; have HMI5 := Lib.hid hmi; have HFX := Lib.hid hfx; have HSM := Lib.hid hsm
  rw [show m2.val = .agg m2.cells from rfl]
  clear hA hmo hmi hfx hsm 
  go_wp2_with (with_reducible refine wpList_store_st rfl 29 (.tmp 5) (.tmp 20) rfl (g := w4.heap.size) (off := 0) m2.cells rfl rfl HA.out HFX.out HMI5.out HMO.out ?_; intro w5 h5; refine Hid.out ?_)
  refine Lib.hid ?_
  rw [HSM.out] at h5
  generalize w4.heap.size = b5 at *
  have H5 := Lib.hid h5
  clear HA HMO HFX HSM h5
  clear mi2 h4
  have kS := prsame (MI1.out.mono HLE2.out) MI2.out H5.out
  rw [decide_eq_true (HD1.out.trans HD2.out.symm), show m.val = .agg m.cells from rfl, show m2.val = .agg m2.cells from rfl] at kS
  have KS := Lib.hid kS
  clear kS
  go_wp2_with (first
    | (refine wpList_load_g (by rfl) 29 (.tmp 3) rfl (g := b3) (off := 0) rfl H5.out (cs := m.cells) (t := 29) (fr := (0, 0)) (by simp) m.cells (fun j hj => by rw [Nat.zero_add]) _ Tryd.underlying29 rfl HMI3.out ?_)
    | (refine wpList_load_g (by rfl) 29 (.tmp 5) rfl (g := b5) (off := 0) rfl H5.out (cs := m2.cells) (t := 29) (fr := (0, 0)) (by simp) m2.cells (fun j hj => by rw [Nat.zero_add]) _ Tryd.underlying29 rfl HMI5.out ?_))
  refine KS.out.mono ?_
  rintro e w6 ⟨rfl, h6⟩
  have kS := psame (MI1.out.mono HLE2.out) MI2.out h6
  rw [decide_eq_true (HD1.out.trans HD2.out.symm), show m.val = .agg m.cells from rfl, show m2.val = .agg m2.cells from rfl] at kS
  have KT := Lib.hid kS; have H6 := Lib.hid h6
  clear h6 KS H5 kS
  go_wp2_with (first
    | (refine wpList_load_g (by rfl) 29 (.tmp 3) rfl (g := b3) (off := 0) rfl H6.out (cs := m.cells) (t := 29) (fr := (0, 0)) (by simp) m.cells (fun j hj => by rw [Nat.zero_add]) _ Tryd.underlying29 rfl HMI3.out ?_)
    | (refine wpList_load_g (by rfl) 29 (.tmp 5) rfl (g := b5) (off := 0) rfl H6.out (cs := m2.cells) (t := 29) (fr := (0, 0)) (by simp) m2.cells (fun j hj => by rw [Nat.zero_add]) _ Tryd.underlying29 rfl HMI5.out ?_))
  refine KT.out.mono ?_
  rintro e w7 ⟨rfl, h7⟩
  have HF : Hid (Below W.heap.size W w7) := Lib.hid (h7.below (HLE1.out.trans HLE2.out))
  clear h7 KT H6
  go_wp2_with fail
  go_ret
  exact ⟨by first | rfl | simp, HF.out⟩
end Go.Proofs.YtfbffmckmchbbaaDoor
