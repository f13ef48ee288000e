/- DigestCopies: the walk of the law. -/
import Derived.Test.YtjkepnddmpgljaaDigAlive
namespace Go.Proofs.Ytjkepnddmpgljaa
set_option linter.unusedVariables false
set_option linter.unusedSimpArgs false
open Go.RowKit

set_option maxRecDepth 10000 in
set_option maxHeartbeats 4000000 in
theorem walk_digestCopies (W : World) {H : Type} {enc : TypeId × Value → H} {v0 v1 v2 : Value} (a0 : Arg enc Try.prog W 22 v0) (a1 : Arg enc Try.prog W 22 v1) (a2 : Arg enc Try.prog W 22 v2) :
    Calls Try.prog 4 #[v0, v1, v2] W fun e w' => e = .returned (.bool true) ∧ Below W.heap.size W w' := by
  obtain ⟨A0, n0, c0, x0, rfl, rfl, q0, m0, in0⟩ := a0.bytes Try.underlying22 Try.underlying5 (by kernel_rfl)
  obtain ⟨A1, n1, c1, x1, rfl, rfl, q1, m1, in1⟩ := a1.bytes Try.underlying22 Try.underlying5 (by kernel_rfl)
  obtain ⟨A2, n2, c2, x2, rfl, rfl, q2, m2, in2⟩ := a2.bytes Try.underlying22 Try.underlying5 (by kernel_rfl)
  unfold maxLen at m0 m1 m2
  have hst0 := St.start W
  clear a0 a1 a2
  go_enter Try.func4, Try.ntmps4
  go_wp2_with fail
  refine (digestAlive hst0).mono ?_
  rintro e w1 ⟨rfl, hst1⟩
  by_cases h5 : (500 : Int) < x0.length ∨ (500 : Int) < x1.length ∨ (500 : Int) < x2.length
  · have hfin := hst1.below (Le.refl _)
    by_cases h50 : (500 : Int) < x0.length
    · go_wp2_with fail
      go_ret
      exact ⟨rfl, hfin⟩
    · by_cases h51 : (500 : Int) < x1.length
      · go_wp2_with fail
        go_ret
        exact ⟨rfl, hfin⟩
      · have h52 : (500 : Int) < x2.length := by omega
        go_wp2_with fail
        go_ret
        exact ⟨rfl, hfin⟩
  have l0 : (x0.length : Int) ≤ 500 := by omega
  have l1 : (x1.length : Int) ≤ 500 := by omega
  have l2 : (x2.length : Int) ≤ 500 := by omega
  clear h5 hst0
  have N0 : x0.length ≤ 500 := by omega
  have N1 : x1.length ≤ 500 := by omega
  have N2 : x2.length ≤ 500 := by omega
  have IN0 := Lib.hid in0; have IN1 := Lib.hid in1; have IN2 := Lib.hid in2
  clear in0 in1 in2
  go_wp2_with fail
  refine (ds_new (Digs.nil hst1)).mono ?_
  rintro e w2 ⟨g1, rfl, h2⟩
  clear hst1
  go_wp2_with fail
  refine (ds_write ⟨A0, c0, x0⟩ IN0.out h2 (by simp; omega)).mono ?_
  rintro e w3 ⟨rfl, h3⟩
  simp only [List.nil_append] at h3
  go_wp2_with fail
  refine (ds_copy h3).mono ?_
  rintro e w4 ⟨g2, rfl, h4⟩
  go_wp2_with fail
  refine (ds_write ⟨A1, c1, x1⟩ IN1.out (h4.perm (List.Perm.swap _ _ _)) (by simp; omega)).mono ?_
  rintro e w5 ⟨rfl, h5⟩
  go_wp2_with fail
  refine (ds_write ⟨A2, c2, x2⟩ IN2.out (h5.perm (List.Perm.swap _ _ _)) (by simp; omega)).mono ?_
  rintro e w6 ⟨rfl, h6⟩
  clear h2 h3 h4 h5
  simp only at h6
  have E1 := eq_HV (x0 ++ x1)
  have E2 := eq_HV (x0 ++ x2)
  go_wp2_with fail
  refine (ds_sum (h6.perm (List.Perm.swap _ _ _)) (by simp; omega)).mono ?_
  rintro e w7 ⟨rfl, h7⟩
  have k := ds_all [⟨A0, c0, x0⟩, ⟨A1, c1, x1⟩] (in_cons IN0.out (in_cons IN1.out in_nil)) h7 (n0 := w7.heap.size) (n := 2) rfl rfl (by simp [cat]; omega) (by omega)
  rw [show cat [⟨A0, c0, x0⟩, ⟨A1, c1, x1⟩] = x0 ++ x1 by simp [cat]] at k
  simp only [Part.val, List.map_cons, List.map_nil] at k
  go_wp2_with fail
  refine k.mono ?_
  clear k h7
  rintro e w8 ⟨rfl, h8⟩
  go_wp2_with fail
  refine (ds_sum (h8.perm (List.Perm.swap _ _ _)) (by simp; omega)).mono ?_
  rintro e w9 ⟨rfl, h9⟩
  try simp only [List.append_assoc] at h9
  have k := ds_all [⟨A0, c0, x0⟩, ⟨A2, c2, x2⟩] (in_cons IN0.out (in_cons IN2.out in_nil)) h9 (n0 := w9.heap.size) (n := 2) rfl rfl (by simp [cat]; omega) (by omega)
  rw [show cat [⟨A0, c0, x0⟩, ⟨A2, c2, x2⟩] = x0 ++ x2 by simp [cat]] at k
  simp only [Part.val, List.map_cons, List.map_nil] at k
  go_wp2_with fail
  refine k.mono ?_
  clear k h9
  rintro e w10 ⟨rfl, h10⟩
  have k := ds_len (h10.perm (List.Perm.swap _ _ _))
  rw [List.length_append, Int.natCast_add] at k
  have K := Lib.hid k
  clear k
  go_wp2_with fail
  refine K.out.mono ?_
  clear K
  rintro e w11 ⟨rfl, rfl⟩
  go_wp2_with fail
  refine (ds_write ⟨A1, c1, x1⟩ IN1.out h10 (by simp; omega)).mono ?_
  rintro e w12 ⟨rfl, h12⟩
  try simp only [List.append_assoc] at h12
  go_wp2_with fail
  refine (ds_copy h12).mono ?_
  rintro e w13 ⟨g3, rfl, h13⟩
  go_wp2_with fail
  refine (ds_write ⟨A2, c2, x2⟩ IN2.out (h13.perm (List.perm_middle (l₁ := [_, _]) (l₂ := []))) (by simp; omega)).mono ?_
  rintro e w14 ⟨rfl, h14⟩
  try simp only [List.append_assoc] at h14
  go_wp2_with fail
  refine (ds_write ⟨A0, c0, x0⟩ IN0.out (h14.perm (List.Perm.swap _ _ _)) (by simp; omega)).mono ?_
  rintro e w15 ⟨rfl, h15⟩
  try simp only [List.append_assoc] at h15
  clear h12 h13 h14 h10 h8 h6
  have E3 := eq_HV (x0 ++ (x1 ++ x2))
  have E4 := eq_HV (x0 ++ (x2 ++ x1))
  have E5 := eq_HV (x0 ++ (x2 ++ (x1 ++ x0)))
  go_wp2_with fail
  refine (ds_sum (h15.perm (List.Perm.swap _ _ _)) (by simp; omega)).mono ?_
  rintro e w16 ⟨rfl, h16⟩
  try simp only [List.append_assoc] at h16
  have k := ds_all [⟨A0, c0, x0⟩, ⟨A1, c1, x1⟩, ⟨A2, c2, x2⟩] (in_cons IN0.out (in_cons IN1.out (in_cons IN2.out in_nil))) h16 (n0 := w16.heap.size) (n := 3) rfl rfl (by simp [cat]; omega) (by omega)
  rw [show cat [⟨A0, c0, x0⟩, ⟨A1, c1, x1⟩, ⟨A2, c2, x2⟩] = x0 ++ (x1 ++ x2) by simp [cat]] at k
  simp only [Part.val, List.map_cons, List.map_nil] at k
  go_wp2_with fail
  refine k.mono ?_
  clear k h16
  rintro e w17 ⟨rfl, h17⟩
  go_wp2_with fail
  refine (ds_sum (h17.perm (List.perm_middle (l₁ := [_, _]) (l₂ := []))) (by simp; omega)).mono ?_
  rintro e w18 ⟨rfl, h18⟩
  try simp only [List.append_assoc] at h18
  have k := ds_all [⟨A0, c0, x0⟩, ⟨A2, c2, x2⟩, ⟨A1, c1, x1⟩] (in_cons IN0.out (in_cons IN2.out (in_cons IN1.out in_nil))) h18 (n0 := w18.heap.size) (n := 3) rfl rfl (by simp [cat]; omega) (by omega)
  rw [show cat [⟨A0, c0, x0⟩, ⟨A2, c2, x2⟩, ⟨A1, c1, x1⟩] = x0 ++ (x2 ++ x1) by simp [cat]] at k
  simp only [Part.val, List.map_cons, List.map_nil] at k
  go_wp2_with fail
  refine k.mono ?_
  clear k h18
  rintro e w19 ⟨rfl, h19⟩
  go_wp2_with fail
  refine (ds_sum (h19.perm (List.perm_middle (l₁ := [_, _]) (l₂ := []))) (by simp; omega)).mono ?_
  rintro e w20 ⟨rfl, h20⟩
  try simp only [List.append_assoc] at h20
  have k := ds_all [⟨A0, c0, x0⟩, ⟨A2, c2, x2⟩, ⟨A1, c1, x1⟩, ⟨A0, c0, x0⟩] (in_cons IN0.out (in_cons IN2.out (in_cons IN1.out (in_cons IN0.out in_nil)))) h20 (n0 := w20.heap.size) (n := 4) rfl rfl (by simp [cat]; omega) (by omega)
  rw [show cat [⟨A0, c0, x0⟩, ⟨A2, c2, x2⟩, ⟨A1, c1, x1⟩, ⟨A0, c0, x0⟩] = x0 ++ (x2 ++ (x1 ++ x0)) by simp [cat]] at k
  simp only [Part.val, List.map_cons, List.map_nil] at k
  go_wp2_with fail
  refine k.mono ?_
  clear k h20
  rintro e w21 ⟨rfl, h21⟩
  have k2 := ds_len (h21.perm (List.Perm.swap _ _ _))
  have k1 := ds_len (h21.perm (List.perm_middle (l₁ := [_, _]) (l₂ := [])))
  have hfin := h21.frame.below (Le.refl _)
  have en : (x0 ++ (x2 ++ x1)).length = (x0 ++ (x1 ++ x2)).length := by simp; omega
  rw [en] at k2
  generalize (x0 ++ (x1 ++ x2)).length = nn at *
  have K1 := Lib.hid k1; have K2 := Lib.hid k2
  clear k1 k2 h21 en
  go_wp2_with fail
  refine K2.out.mono ?_
  rintro e w22 ⟨rfl, rfl⟩
  go_wp2_with fail
  refine K1.out.mono ?_
  rintro e w22 ⟨rfl, rfl⟩
  go_wp2_with fail
  go_ret
  exact ⟨rfl, hfin⟩
end Go.Proofs.Ytjkepnddmpgljaa
