/- call: what the document says of a reply: walk. -/
import Derived.Test.YtjcekmmieihllaaDoorSayE
import Derived.Test.YtjcekmmieihllaaDoorSayF
namespace Go.Proofs.YtjcekmmieihllaaDoor
set_option linter.unusedVariables false
set_option linter.unusedSimpArgs false
set_option linter.unnecessarySimpa false
open Go.RowKit Go.Lib

section
variable {W w : World} {I : Nat → Option Obj} {F : List (Nat × Obj)}
set_option maxRecDepth 100000 in
set_option maxHeartbeats 16000000 in
theorem cref_say (c : Cl) (r : Rp) (ok : r.Ok) (h : St W w I F) :
    Calls Tryd.prog 31 #[c.val, .agg r.cells] w fun e w' => e = .returned (.string ⟨(sayS c r).toArray⟩) ∧ St W w' I F := by
  obtain ⟨cl, kd, sl, jo, na⟩ := c
  have h0 := (h.alloc (.cells #[Value.int .i64 cl, .int .i64 kd, .int .i64 sl, .int .i64 jo, .string na] 23)).alloc (.cells r.cells 44)
  have kI := fun (n : Int) (n0 : -9223372036854775808 ≤ n) (n1 : n ≤ 9223372036854775807) (v : World) (F : List (Nat × Obj)) (hv : St W v I F) => cdig_any n n0 n1 hv
  have kN := fun (i : Int) (v : World) (F : List (Nat × Obj)) (hv : St W v I F) => cref_name i hv
  have hrc := r.at_
  obtain ⟨b, hb⟩ : ∃ b, w.heap.size = b := ⟨_, rfl⟩
  rw [World.size_alloc, hb] at h0
  have q := h0.cell (g := b + 1) (cs := r.cells) (t := 44) (fr := (0, 0)) (by simp)
  have q0 := (q 0).trans hrc.1
  have q1 := (q 1).trans hrc.2.1
  have q2 := (q 2).trans hrc.2.2.1
  have q3 := (q 3).trans hrc.2.2.2.1
  have q4 := (q 4).trans hrc.2.2.2.2
  have hcc : (⟨cl, kd, sl, jo, na⟩ : Cl).val = .agg #[Value.int .i64 cl, .int .i64 kd, .int .i64 sl, .int .i64 jo, .string na] := rfl
  rw [hcc]
  have l1 := itoa_len r.err ok.e0 ok.e1
  have l2 := itoa_len r.job ok.j0 ok.j1
  have l3 := nameOf_len r.slot
  have kIe := kI r.err ok.e0 ok.e1
  have kIj := kI r.job ok.j0 ok.j1
  have kNs := kN r.slot
  obtain ⟨X, hX⟩ : ∃ X, sayS ⟨cl, kd, sl, jo, na⟩ r = X := ⟨_, rfl⟩
  rw [hX]
  have KIE := Lib.hid kIe; have KIJ := Lib.hid kIj; have KN := Lib.hid kNs; have H0 := Lib.hid h0; have HX := Lib.hid hX
  clear kI kIe kIj kN kNs h0 q hcc
  by_cases he : r.err = 0
  · have heb : (r.err == 0) = true := by rw [he]; rfl
    by_cases k1 : kd = 1
    · have hx := say_job ⟨cl, kd, sl, jo, na⟩ r he k1
      rw [HX.out] at hx
      have a1 := ba_app [106, 111, 98, 32] (Lib.itoa r.job)
      rw [← hx] at a1
      have z : ¬ (9223372036854775807 < 4 + (⟨(Lib.itoa r.job).toArray⟩ : ByteArray).size) := by rw [ba_size]; omega
      have kk := KIJ.out
      obtain ⟨bq, hbq⟩ : ∃ x, (⟨(Lib.itoa r.job).toArray⟩ : ByteArray) = x := ⟨_, rfl⟩
      simp only [hbq] at kk
      rw [hbq] at a1 z
      have KK := Lib.hid kk; have A1 := Lib.hid a1
      rw [he] at q0
      clear kk a1 hbq hx KIE KIJ KN HX l1 l2 l3 q2 q4 hrc ok h hX he heb q3
      subst k1
      generalize r.cells = R at *
      go_enter Tryd.func31, Tryd.ntmps31
      go_wp2_with fail
      refine (KK.out _ _ H0.out).mono ?_
      rintro e w5 ⟨rfl, h5⟩
      have H5 := Lib.hid h5
      clear h5 H0 KK
      go_wp2_with fail
      go_ret
      exact ⟨congrArg (fun s => Ending.returned (Value.string s)) A1.out, St.weaken (A := [_, _]) H5.out⟩
    · have k1b : (kd == 1) = false := beq_eq_false_iff_ne.2 k1
      by_cases k6 : kd = 6
      · have hx := say_slot ⟨cl, kd, sl, jo, na⟩ r he k6
        rw [HX.out] at hx
        have a1 := ba_app [115, 108, 111, 116, 32] (nameOf r.slot)
        rw [← hx] at a1
        have z : ¬ (9223372036854775807 < 5 + (⟨(nameOf r.slot).toArray⟩ : ByteArray).size) := by rw [ba_size]; omega
        have kk := KN.out
        obtain ⟨bq, hbq⟩ : ∃ x, (⟨(nameOf r.slot).toArray⟩ : ByteArray) = x := ⟨_, rfl⟩
        simp only [hbq] at kk
        rw [hbq] at a1 z
        have KK := Lib.hid kk; have A1 := Lib.hid a1
        rw [he] at q0
        clear kk a1 hbq hx KIE KIJ KN HX l1 l2 l3 q2 q4 hrc ok h hX he heb k1 k1b q1
        subst k6
        generalize r.cells = R at *
        go_enter Tryd.func31, Tryd.ntmps31
        go_wp2_with fail
        refine (KK.out _ _ H0.out).mono ?_
        rintro e w5 ⟨rfl, h5⟩
        have H5 := Lib.hid h5
        clear h5 H0 KK
        go_wp2_with fail
        go_ret
        exact ⟨congrArg (fun s => Ending.returned (Value.string s)) A1.out, St.weaken (A := [_, _]) H5.out⟩
      · have k6b : (kd == 6) = false := beq_eq_false_iff_ne.2 k6
        by_cases k3 : kd = 3
        · rw [← HX.out]
          clear HX X hX
          subst k3
          rcases (by omega : r.state = 0 ∨ r.state = 1 ∨ r.state = 2 ∨ r.state = 4 ∨ r.state = 3 ∨ (r.state ≠ 0 ∧ r.state ≠ 1 ∧ r.state ≠ 2 ∧ r.state ≠ 3 ∧ r.state ≠ 4)) with g | g | g | g | g | g
          · exact cref_say_0 ⟨cl, 3, sl, jo, na⟩ r ok he rfl g h
          · exact cref_say_1 ⟨cl, 3, sl, jo, na⟩ r ok he rfl g h
          · exact cref_say_2 ⟨cl, 3, sl, jo, na⟩ r ok he rfl g h
          · exact cref_say_3 ⟨cl, 3, sl, jo, na⟩ r ok he rfl g h
          · exact cref_say_4 ⟨cl, 3, sl, jo, na⟩ r ok he rfl g h
          · exact cref_say_5 ⟨cl, 3, sl, jo, na⟩ r ok he rfl g h
        · have k3b : (kd == 3) = false := beq_eq_false_iff_ne.2 k3
          have hx := say_ok ⟨cl, kd, sl, jo, na⟩ r he k1 k6 k3
          rw [HX.out] at hx
          subst hx
          rw [he] at q0
          clear he heb k1 k6 k3 KIE KIJ KN HX q1 q2 q3 q4 l1 l2 l3 hrc ok h hX
          generalize r.cells = R at *
          go_enter Tryd.func31, Tryd.ntmps31
          go_wp2_with fail
          go_ret
          exact ⟨rfl, St.weaken (A := [_, _]) H0.out⟩
  · have heb : (r.err == 0) = false := beq_eq_false_iff_ne.2 he
    have hx := say_err ⟨cl, kd, sl, jo, na⟩ r he
    rw [HX.out] at hx
    have a1 := ba_app [101, 114, 114, 111, 114, 32] (Lib.itoa r.err)
    rw [← hx] at a1
    have z : ¬ (9223372036854775807 < 6 + (⟨(Lib.itoa r.err).toArray⟩ : ByteArray).size) := by rw [ba_size]; omega
    have kk := KIE.out
    obtain ⟨bq, hbq⟩ : ∃ x, (⟨(Lib.itoa r.err).toArray⟩ : ByteArray) = x := ⟨_, rfl⟩
    simp only [hbq] at kk
    rw [hbq] at a1 z
    have KK := Lib.hid kk; have A1 := Lib.hid a1
    skip
    clear kk a1 hbq hx KIE KIJ KN HX l1 l2 l3 q2 q4 hrc ok h hX he q1 q3
    skip
    generalize r.cells = R at *
    go_enter Tryd.func31, Tryd.ntmps31
    go_wp2_with fail
    refine (KK.out _ _ H0.out).mono ?_
    rintro e w5 ⟨rfl, h5⟩
    have H5 := Lib.hid h5
    clear h5 H0 KK
    go_wp2_with fail
    go_ret
    exact ⟨congrArg (fun s => Ending.returned (Value.string s)) A1.out, St.weaken (A := [_, _]) H5.out⟩
end
end Go.Proofs.YtjcekmmieihllaaDoor
