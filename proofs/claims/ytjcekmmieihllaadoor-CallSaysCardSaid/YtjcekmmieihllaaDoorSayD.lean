/- call: what the document says of a reply: walk. -/
import Derived.Test.YtjcekmmieihllaaDoorSaA
import Derived.Test.YtjcekmmieihllaaDoorCallD
namespace Go.Proofs.YtjcekmmieihllaaDoor
set_option linter.unusedVariables false
set_option linter.unusedSimpArgs false
set_option linter.unnecessarySimpa false
open Go.RowKit Go.Lib

/-- A job's number and its state in words. -/
def headS (r : Rp) : List UInt8 := [106, 111, 98, 32] ++ Lib.itoa r.job ++ [32] ++ stateOf r
theorem headS_len (r : Rp) (ok : r.Ok) : (headS r).length ≤ 80 := by
  have := itoa_len r.job ok.j0 ok.j1
  have := stateOf_len r ok
  unfold headS
  simp only [List.length_append, List.length_cons, List.length_nil]
  omega
theorem status_head (r : Rp) : headS r ++ [59, 32, 97, 58, 32] ++ textS r.s0 ++ [59, 32, 98, 58, 32] ++ textS r.s1 ++ [59, 32, 97, 99, 116, 105, 118, 101, 32] ++ nameOf r.act ++ [59, 32, 98, 111, 111, 116, 101, 100, 32] ++ nameOf r.boo ++ [59, 32, 102, 108, 111, 111, 114, 32] ++ Lib.decDigits r.flo.toNat = statusS r := by
  unfold headS statusS
  simp
section
variable {W w : World} {I : Nat → Option Obj} {F : List (Nat × Obj)}
set_option maxRecDepth 100000 in
set_option maxHeartbeats 16000000 in
theorem cref_say_0 (c : Cl) (r : Rp) (ok : r.Ok) (he : r.err = 0) (k3 : c.kind = 3) (g : r.state = 0) (h : St W w I F) :
    Calls Tryd.prog 31 #[c.val, .agg r.cells] w fun e w' => e = .returned (.string ⟨(sayS c r).toArray⟩) ∧ St W w' I F := by
  obtain ⟨cl, kd, sl, jo, na⟩ := c
  dsimp only at k3
  have h0 := (h.alloc (.cells #[Value.int .i64 cl, .int .i64 kd, .int .i64 sl, .int .i64 jo, .string na] 23)).alloc (.cells r.cells 44)
  have kI := fun (n : Int) (n0 : -9223372036854775808 ≤ n) (n1 : n ≤ 9223372036854775807) (v : World) (F : List (Nat × Obj)) (hv : St W v I F) => cdig_any n n0 n1 hv
  have kN := fun (i : Int) (v : World) (F : List (Nat × Obj)) (hv : St W v I F) => cref_name i hv
  have hrc := r.at_
  obtain ⟨b, hb⟩ : ∃ b, w.heap.size = b := ⟨_, rfl⟩
  rw [World.size_alloc, hb] at h0
  have q := h0.cell (g := b + 1) (cs := r.cells) (t := 44) (fr := (0, 0)) (by simp)
  have q0 := (q 0).trans hrc.1
  have q1 := (q 1).trans hrc.2.1
  have q2 := (q 2).trans hrc.2.2.1
  have q3 := (q 3).trans hrc.2.2.2.1
  have q4 := (q 4).trans hrc.2.2.2.2
  have hcc : (⟨cl, kd, sl, jo, na⟩ : Cl).val = .agg #[Value.int .i64 cl, .int .i64 kd, .int .i64 sl, .int .i64 jo, .string na] := rfl
  rw [hcc]
  have l1 := itoa_len r.err ok.e0 ok.e1
  have l2 := itoa_len r.job ok.j0 ok.j1
  have l3 := nameOf_len r.slot
  have kIe := kI r.err ok.e0 ok.e1
  have kIj := kI r.job ok.j0 ok.j1
  have kNs := kN r.slot
  obtain ⟨X, hX⟩ : ∃ X, sayS ⟨cl, kd, sl, jo, na⟩ r = X := ⟨_, rfl⟩
  rw [hX]
  have KIE := Lib.hid kIe; have KIJ := Lib.hid kIj; have KN := Lib.hid kNs; have H0 := Lib.hid h0; have HX := Lib.hid hX
  clear kI kIe kIj kN kNs h0 q hcc
  have heb : (r.err == 0) = true := by rw [he]; rfl
  subst k3
  have hx := say_status ⟨cl, 3, sl, jo, na⟩ r he rfl
  rw [HX.out] at hx
  have hX2 := status_head r
  rw [← hx] at hX2
  have m0 := headS_len r ok
  have m1 := text_le r.s0 ok.s0
  have m2 := text_le r.s1 ok.s1
  have m3 := nameOf_len r.act
  have m4 := nameOf_len r.boo
  have m5 := dec_le 19 r.flo.toNat (by have := ok.o0; have := ok.o1; omega)
  have kT0 := fun (v : World) (F : List (Nat × Obj)) (hv : St W v I F) => ref_text r.s0 ok.s0 hv
  have kT1 := fun (v : World) (F : List (Nat × Obj)) (hv : St W v I F) => ref_text r.s1 ok.s1 hv
  have kNa := fun (v : World) (F : List (Nat × Obj)) (hv : St W v I F) => cref_name r.act hv
  have kNb := fun (v : World) (F : List (Nat × Obj)) (hv : St W v I F) => cref_name r.boo hv
  have kF : ∀ (v : World) (F : List (Nat × Obj)), St W v I F → Calls Tryd.prog 48 #[.int .u64 r.flo] v fun e w' => e = .returned (.string ⟨(Lib.decDigits r.flo.toNat).toArray⟩) ∧ St W w' I F := fun v F hv => by
    have h := rdec_any r.flo.toNat (by have := ok.o0; have := ok.o1; omega) hv
    rwa [show ((r.flo.toNat : Nat) : Int) = r.flo by have := ok.o0; omega] at h
  have kIf : ∀ (v : World) (F : List (Nat × Obj)), St W v I F → Calls Tryd.prog 36 #[.int .i64 r.fault] v fun e w' => e = .returned (.string ⟨(Lib.itoa r.fault).toArray⟩) ∧ St W w' I F := fun v F hv => cdig_any r.fault ok.f0 ok.f1 hv
  have kk := KIJ.out
  have a1 := ba_app [106, 111, 98, 32] (Lib.itoa r.job)
  have a2 := ba_app ([106, 111, 98, 32] ++ Lib.itoa r.job) [32]
  have aS := ba_app ([106, 111, 98, 32] ++ Lib.itoa r.job ++ [32]) (stateOf r)
  rw [show [106, 111, 98, 32] ++ Lib.itoa r.job ++ [32] ++ stateOf r = headS r from rfl] at aS
  have hbs : (⟨(Lib.itoa r.job).toArray⟩ : ByteArray).size ≤ 21 := by rw [ba_size]; omega
  have lf := itoa_len r.fault ok.f0 ok.f1
  have s0 := ba_app (headS r) ([59, 32, 97, 58, 32])
  have z0 : ¬ (9223372036854775807 < (⟨(headS r).toArray⟩ : ByteArray).size + 5) := by
    rw [ba_size]
    try simp only [List.length_append, List.length_cons, List.length_nil]
    omega
  have s1 := ba_app (headS r ++ [59, 32, 97, 58, 32]) (textS r.s0)
  have z1 : ¬ (9223372036854775807 < (⟨((headS r ++ [59, 32, 97, 58, 32])).toArray⟩ : ByteArray).size + (⟨(textS r.s0).toArray⟩ : ByteArray).size) := by
    rw [ba_size, ba_size]
    try simp only [List.length_append, List.length_cons, List.length_nil]
    omega
  have s2 := ba_app ((headS r ++ [59, 32, 97, 58, 32]) ++ textS r.s0) ([59, 32, 98, 58, 32])
  have z2 : ¬ (9223372036854775807 < (⟨(((headS r ++ [59, 32, 97, 58, 32]) ++ textS r.s0)).toArray⟩ : ByteArray).size + 5) := by
    rw [ba_size]
    try simp only [List.length_append, List.length_cons, List.length_nil]
    omega
  have s3 := ba_app (((headS r ++ [59, 32, 97, 58, 32]) ++ textS r.s0) ++ [59, 32, 98, 58, 32]) (textS r.s1)
  have z3 : ¬ (9223372036854775807 < (⟨((((headS r ++ [59, 32, 97, 58, 32]) ++ textS r.s0) ++ [59, 32, 98, 58, 32])).toArray⟩ : ByteArray).size + (⟨(textS r.s1).toArray⟩ : ByteArray).size) := by
    rw [ba_size, ba_size]
    try simp only [List.length_append, List.length_cons, List.length_nil]
    omega
  have s4 := ba_app ((((headS r ++ [59, 32, 97, 58, 32]) ++ textS r.s0) ++ [59, 32, 98, 58, 32]) ++ textS r.s1) ([59, 32, 97, 99, 116, 105, 118, 101, 32])
  have z4 : ¬ (9223372036854775807 < (⟨(((((headS r ++ [59, 32, 97, 58, 32]) ++ textS r.s0) ++ [59, 32, 98, 58, 32]) ++ textS r.s1)).toArray⟩ : ByteArray).size + 9) := by
    rw [ba_size]
    try simp only [List.length_append, List.length_cons, List.length_nil]
    omega
  have s5 := ba_app (((((headS r ++ [59, 32, 97, 58, 32]) ++ textS r.s0) ++ [59, 32, 98, 58, 32]) ++ textS r.s1) ++ [59, 32, 97, 99, 116, 105, 118, 101, 32]) (nameOf r.act)
  have z5 : ¬ (9223372036854775807 < (⟨((((((headS r ++ [59, 32, 97, 58, 32]) ++ textS r.s0) ++ [59, 32, 98, 58, 32]) ++ textS r.s1) ++ [59, 32, 97, 99, 116, 105, 118, 101, 32])).toArray⟩ : ByteArray).size + (⟨(nameOf r.act).toArray⟩ : ByteArray).size) := by
    rw [ba_size, ba_size]
    try simp only [List.length_append, List.length_cons, List.length_nil]
    omega
  have s6 := ba_app ((((((headS r ++ [59, 32, 97, 58, 32]) ++ textS r.s0) ++ [59, 32, 98, 58, 32]) ++ textS r.s1) ++ [59, 32, 97, 99, 116, 105, 118, 101, 32]) ++ nameOf r.act) ([59, 32, 98, 111, 111, 116, 101, 100, 32])
  have z6 : ¬ (9223372036854775807 < (⟨(((((((headS r ++ [59, 32, 97, 58, 32]) ++ textS r.s0) ++ [59, 32, 98, 58, 32]) ++ textS r.s1) ++ [59, 32, 97, 99, 116, 105, 118, 101, 32]) ++ nameOf r.act)).toArray⟩ : ByteArray).size + 9) := by
    rw [ba_size]
    try simp only [List.length_append, List.length_cons, List.length_nil]
    omega
  have s7 := ba_app (((((((headS r ++ [59, 32, 97, 58, 32]) ++ textS r.s0) ++ [59, 32, 98, 58, 32]) ++ textS r.s1) ++ [59, 32, 97, 99, 116, 105, 118, 101, 32]) ++ nameOf r.act) ++ [59, 32, 98, 111, 111, 116, 101, 100, 32]) (nameOf r.boo)
  have z7 : ¬ (9223372036854775807 < (⟨((((((((headS r ++ [59, 32, 97, 58, 32]) ++ textS r.s0) ++ [59, 32, 98, 58, 32]) ++ textS r.s1) ++ [59, 32, 97, 99, 116, 105, 118, 101, 32]) ++ nameOf r.act) ++ [59, 32, 98, 111, 111, 116, 101, 100, 32])).toArray⟩ : ByteArray).size + (⟨(nameOf r.boo).toArray⟩ : ByteArray).size) := by
    rw [ba_size, ba_size]
    try simp only [List.length_append, List.length_cons, List.length_nil]
    omega
  have s8 := ba_app ((((((((headS r ++ [59, 32, 97, 58, 32]) ++ textS r.s0) ++ [59, 32, 98, 58, 32]) ++ textS r.s1) ++ [59, 32, 97, 99, 116, 105, 118, 101, 32]) ++ nameOf r.act) ++ [59, 32, 98, 111, 111, 116, 101, 100, 32]) ++ nameOf r.boo) ([59, 32, 102, 108, 111, 111, 114, 32])
  have z8 : ¬ (9223372036854775807 < (⟨(((((((((headS r ++ [59, 32, 97, 58, 32]) ++ textS r.s0) ++ [59, 32, 98, 58, 32]) ++ textS r.s1) ++ [59, 32, 97, 99, 116, 105, 118, 101, 32]) ++ nameOf r.act) ++ [59, 32, 98, 111, 111, 116, 101, 100, 32]) ++ nameOf r.boo)).toArray⟩ : ByteArray).size + 8) := by
    rw [ba_size]
    try simp only [List.length_append, List.length_cons, List.length_nil]
    omega
  have s9 := ba_app (((((((((headS r ++ [59, 32, 97, 58, 32]) ++ textS r.s0) ++ [59, 32, 98, 58, 32]) ++ textS r.s1) ++ [59, 32, 97, 99, 116, 105, 118, 101, 32]) ++ nameOf r.act) ++ [59, 32, 98, 111, 111, 116, 101, 100, 32]) ++ nameOf r.boo) ++ [59, 32, 102, 108, 111, 111, 114, 32]) (Lib.decDigits r.flo.toNat)
  have z9 : ¬ (9223372036854775807 < (⟨((((((((((headS r ++ [59, 32, 97, 58, 32]) ++ textS r.s0) ++ [59, 32, 98, 58, 32]) ++ textS r.s1) ++ [59, 32, 97, 99, 116, 105, 118, 101, 32]) ++ nameOf r.act) ++ [59, 32, 98, 111, 111, 116, 101, 100, 32]) ++ nameOf r.boo) ++ [59, 32, 102, 108, 111, 111, 114, 32])).toArray⟩ : ByteArray).size + (⟨(Lib.decDigits r.flo.toNat).toArray⟩ : ByteArray).size) := by
    rw [ba_size, ba_size]
    try simp only [List.length_append, List.length_cons, List.length_nil]
    omega
  rw [hX2] at s9
  obtain ⟨bj, hbj⟩ : ∃ x, (⟨(Lib.itoa r.job).toArray⟩ : ByteArray) = x := ⟨_, rfl⟩
  rw [hbj] at a1 hbs
  simp only [hbj] at kk
  obtain ⟨b1, hb1⟩ : ∃ x, (⟨([106, 111, 98, 32] ++ Lib.itoa r.job).toArray⟩ : ByteArray) = x := ⟨_, rfl⟩
  rw [hb1] at a1 a2
  obtain ⟨b2, hb2⟩ : ∃ x, (⟨([106, 111, 98, 32] ++ Lib.itoa r.job ++ [32]).toArray⟩ : ByteArray) = x := ⟨_, rfl⟩
  rw [hb2] at a2 aS
  obtain ⟨c0, hc0⟩ : ∃ x, (⟨(headS r).toArray⟩ : ByteArray) = x := ⟨_, rfl⟩
  rw [hc0] at s0 z0 aS
  obtain ⟨c1, hc1⟩ : ∃ x, (⟨((headS r ++ [59, 32, 97, 58, 32])).toArray⟩ : ByteArray) = x := ⟨_, rfl⟩
  rw [hc1] at s1 z1 s0
  obtain ⟨c2, hc2⟩ : ∃ x, (⟨(((headS r ++ [59, 32, 97, 58, 32]) ++ textS r.s0)).toArray⟩ : ByteArray) = x := ⟨_, rfl⟩
  rw [hc2] at s2 z2 s1
  obtain ⟨c3, hc3⟩ : ∃ x, (⟨((((headS r ++ [59, 32, 97, 58, 32]) ++ textS r.s0) ++ [59, 32, 98, 58, 32])).toArray⟩ : ByteArray) = x := ⟨_, rfl⟩
  rw [hc3] at s3 z3 s2
  obtain ⟨c4, hc4⟩ : ∃ x, (⟨(((((headS r ++ [59, 32, 97, 58, 32]) ++ textS r.s0) ++ [59, 32, 98, 58, 32]) ++ textS r.s1)).toArray⟩ : ByteArray) = x := ⟨_, rfl⟩
  rw [hc4] at s4 z4 s3
  obtain ⟨c5, hc5⟩ : ∃ x, (⟨((((((headS r ++ [59, 32, 97, 58, 32]) ++ textS r.s0) ++ [59, 32, 98, 58, 32]) ++ textS r.s1) ++ [59, 32, 97, 99, 116, 105, 118, 101, 32])).toArray⟩ : ByteArray) = x := ⟨_, rfl⟩
  rw [hc5] at s5 z5 s4
  obtain ⟨c6, hc6⟩ : ∃ x, (⟨(((((((headS r ++ [59, 32, 97, 58, 32]) ++ textS r.s0) ++ [59, 32, 98, 58, 32]) ++ textS r.s1) ++ [59, 32, 97, 99, 116, 105, 118, 101, 32]) ++ nameOf r.act)).toArray⟩ : ByteArray) = x := ⟨_, rfl⟩
  rw [hc6] at s6 z6 s5
  obtain ⟨c7, hc7⟩ : ∃ x, (⟨((((((((headS r ++ [59, 32, 97, 58, 32]) ++ textS r.s0) ++ [59, 32, 98, 58, 32]) ++ textS r.s1) ++ [59, 32, 97, 99, 116, 105, 118, 101, 32]) ++ nameOf r.act) ++ [59, 32, 98, 111, 111, 116, 101, 100, 32])).toArray⟩ : ByteArray) = x := ⟨_, rfl⟩
  rw [hc7] at s7 z7 s6
  obtain ⟨c8, hc8⟩ : ∃ x, (⟨(((((((((headS r ++ [59, 32, 97, 58, 32]) ++ textS r.s0) ++ [59, 32, 98, 58, 32]) ++ textS r.s1) ++ [59, 32, 97, 99, 116, 105, 118, 101, 32]) ++ nameOf r.act) ++ [59, 32, 98, 111, 111, 116, 101, 100, 32]) ++ nameOf r.boo)).toArray⟩ : ByteArray) = x := ⟨_, rfl⟩
  rw [hc8] at s8 z8 s7
  obtain ⟨c9, hc9⟩ : ∃ x, (⟨((((((((((headS r ++ [59, 32, 97, 58, 32]) ++ textS r.s0) ++ [59, 32, 98, 58, 32]) ++ textS r.s1) ++ [59, 32, 97, 99, 116, 105, 118, 101, 32]) ++ nameOf r.act) ++ [59, 32, 98, 111, 111, 116, 101, 100, 32]) ++ nameOf r.boo) ++ [59, 32, 102, 108, 111, 111, 114, 32])).toArray⟩ : ByteArray) = x := ⟨_, rfl⟩
  rw [hc9] at s9 z9 s8
  obtain ⟨bX, hbX⟩ : ∃ x, (⟨X.toArray⟩ : ByteArray) = x := ⟨_, rfl⟩
  rw [hbX] at s9 ⊢
  obtain ⟨bt0, hbt0⟩ : ∃ x, (⟨(textS r.s0).toArray⟩ : ByteArray) = x := ⟨_, rfl⟩
  rw [hbt0] at s1 z1
  try simp only [hbt0] at kT0
  obtain ⟨bt1, hbt1⟩ : ∃ x, (⟨(textS r.s1).toArray⟩ : ByteArray) = x := ⟨_, rfl⟩
  rw [hbt1] at s3 z3
  try simp only [hbt1] at kT1
  obtain ⟨bna, hbna⟩ : ∃ x, (⟨(nameOf r.act).toArray⟩ : ByteArray) = x := ⟨_, rfl⟩
  rw [hbna] at s5 z5
  try simp only [hbna] at kNa
  obtain ⟨bnb, hbnb⟩ : ∃ x, (⟨(nameOf r.boo).toArray⟩ : ByteArray) = x := ⟨_, rfl⟩
  rw [hbnb] at s7 z7
  try simp only [hbnb] at kNb
  obtain ⟨bf, hbf⟩ : ∃ x, (⟨(Lib.decDigits r.flo.toNat).toArray⟩ : ByteArray) = x := ⟨_, rfl⟩
  rw [hbf] at s9 z9
  try simp only [hbf] at kF
  have A1 : Hid ((⟨#[106, 111, 98, 32]⟩ : ByteArray) ++ bj = b1) := Lib.hid a1
  have A2 : Hid (b1 ++ (⟨#[32]⟩ : ByteArray) = b2) := Lib.hid a2
  have D0 : Hid (c0 ++ (⟨#[59, 32, 97, 58, 32]⟩ : ByteArray) = c1) := Lib.hid s0
  have D1 : Hid (c1 ++ bt0 = c2) := Lib.hid s1
  have D2 : Hid (c2 ++ (⟨#[59, 32, 98, 58, 32]⟩ : ByteArray) = c3) := Lib.hid s2
  have D3 : Hid (c3 ++ bt1 = c4) := Lib.hid s3
  have D4 : Hid (c4 ++ (⟨#[59, 32, 97, 99, 116, 105, 118, 101, 32]⟩ : ByteArray) = c5) := Lib.hid s4
  have D5 : Hid (c5 ++ bna = c6) := Lib.hid s5
  have D6 : Hid (c6 ++ (⟨#[59, 32, 98, 111, 111, 116, 101, 100, 32]⟩ : ByteArray) = c7) := Lib.hid s6
  have D7 : Hid (c7 ++ bnb = c8) := Lib.hid s7
  have D8 : Hid (c8 ++ (⟨#[59, 32, 102, 108, 111, 111, 114, 32]⟩ : ByteArray) = c9) := Lib.hid s8
  have D9 : Hid (c9 ++ bf = bX) := Lib.hid s9
  have zA : ¬ (9223372036854775807 < 4 + bj.size) := by omega
  have zB : ¬ (9223372036854775807 < 4 + bj.size + 1) := by omega
  have hst5 := r.tab_end ok
  have htab := fun j (hj : j < r.tab.size) => Rp.tab_at r j
  have inf := tab_info r ok
  have one := r.tab_one
  have tsz := r.tab_size ok
  have ts0 := r.tab_s0 ok
  have ts1 := r.tab_s1 ok
  have is0 : (Tryd.prog.info? 39).map (·.size) = some r.s0.cells.toList.length := by rw [slot_info (s := r.s0) ok.s0.dig, Array.length_toList]
  have is1 : (Tryd.prog.info? 39).map (·.size) = some r.s1.cells.toList.length := by rw [slot_info (s := r.s1) ok.s1.dig, Array.length_toList]
  have hsf := stateOf.eq_1 r
  unfold Slt.val at kT0 kT1
  generalize r.cells = R at *
  generalize r.tab = T at *
  generalize r.s0.cells = C0 at *
  generalize r.s1.cells = C1 at *
  have sx : ∀ (b4 : Nat) (v : World) (L : List (Nat × Obj)), St W v I L → (b4, Obj.cells T 42 (0, 0)) ∈ L → (v.cell? ⟨b4, 72, none⟩ = some (.int .i64 r.act) ∧ v.cell? ⟨b4, 73, none⟩ = some (.int .i64 r.boo) ∧ v.cell? ⟨b4, 74, none⟩ = some (.int .u64 r.flo) ∧ v.rangeAt b4 0 C0.toList ∧ v.rangeAt b4 36 C1.toList) := fun b4 v L hv m2 => by
    have e2 := hv.cell (g := b4) (cs := T) (t := 42) (fr := (0, 0)) m2
    exact ⟨(e2 72).trans hst5.1, (e2 73).trans hst5.2.1, (e2 74).trans hst5.2.2, hv.rangeAt (g := b4) (cs := T) (t := 42) (fr := (0, 0)) m2 ts0, hv.rangeAt (g := b4) (cs := T) (t := 42) (fr := (0, 0)) m2 ts1⟩
  have hca : ∀ (v : World) (L : List (Nat × Obj)), St W v I L → (b + 1, Obj.cells R 44 (0, 0)) ∈ L → v.cell? ⟨b + 1, 2, none⟩ = some (.int .i64 r.state) ∧ v.cell? ⟨b + 1, 4, none⟩ = some (.int .i64 r.fault) := fun v L hv m1 => by
    have e1 := hv.cell (g := b + 1) (cs := R) (t := 44) (fr := (0, 0)) m1
    exact ⟨(e1 2).trans hrc.2.2.1, (e1 4).trans hrc.2.2.2.2⟩
  have FZ : Hid (0 + T.size ≤ (Tryd.zeroCells42).size) := Lib.hid (by rw [tsz]; decide)
  have MZ : Hid (setMany Tryd.zeroCells42 0 T.toList = T) := Lib.hid (setMany_whole _ _ (by rw [Array.length_toList, tsz]; rfl))
  have HUL := Lib.hid Tryd.underlying39
  have SX := Lib.hid sx; have HCA := Lib.hid hca; have INF := Lib.hid inf; have ONE := Lib.hid one; have HTAB := Lib.hid htab; have HM0 := Lib.hid is0; have HM1 := Lib.hid is1; have KK := Lib.hid kk; have KIF := Lib.hid kIf; have KT0 := Lib.hid kT0; have KT1 := Lib.hid kT1; have KNA := Lib.hid kNa; have KNB := Lib.hid kNb; have KF := Lib.hid kF; have HSF := Lib.hid hsf; have AS := Lib.hid aS
  rw [he] at q0
  clear sx hca inf one tsz htab is0 is1 kk kIf kT0 kT1 kNa kNb kF hsf aS hst5 ts0 ts1 hrc ok h hX hX2 hx KIE KIJ KN HX he heb  l1 l2 l3 m0 m1 m2 m3 m4 m5 a1 a2 q2 q3 q4 hbj hb1 hb2 hbX s0 s1 s2 s3 s4 s5 s6 s7 s8 s9 hc0 hc1 hc2 hc3 hc4 hc5 hc6 hc7 hc8 hc9 hbt0 hbt1 hbna hbnb hbf
  have e : stateOf r = [110, 111, 110, 101] := by rw [HSF.out, g]; rfl
  have aS := AS.out
  rw [e] at aS
  have G0 : Hid (b2 ++ (⟨#[110, 111, 110, 101]⟩ : ByteArray) = c0) := Lib.hid aS
  have zC : ¬ (9223372036854775807 < 4 + bj.size + 1 + 4) := by omega
  clear e aS AS HSF KIF
  go_enter Tryd.func31, Tryd.ntmps31
  go_wp2_with fail
  refine (KK.out _ _ H0.out).mono ?_
  rintro e w2 ⟨rfl, h2⟩
  obtain ⟨d2, d4⟩ := HCA.out _ _ h2 (by simp)
  rw [g] at d2
  have HY := Lib.hid h2
  clear h2 H0 KK
  have h4 := HY.out.alloc (.cells Tryd.zeroCells42 42)
  obtain ⟨b4, hb4⟩ : ∃ x, w2.heap.size = x := ⟨_, rfl⟩
  rw [hb4] at h4
  have H4 := Lib.hid h4
  clear h4
  go_wp2_with (first | (with_reducible refine wpList_load_st rfl 42 (.tmp 63) rfl (g := b + 1) (off := 5) rfl HY.out (cs := R) (t := 44) (fr := (0, 0)) (by simp) T HTAB.out _ Tryd.underlying42 rfl INF.out ?_) | (with_reducible refine wpList_store_st rfl 42 (.tmp 6) (.tmp 64) rfl (off := 0) T rfl rfl H4.out FZ.out INF.out ONE.out ?_; intro w5 h5; rw [MZ.out] at h5; have H5 := Lib.hid h5; clear h5))
  have hx := H5.out.drew1
  clear H4 HY
  refine wp_region_held_drew (S := fun v => (v.cell? ⟨b4, 72, none⟩ = some (.int .i64 r.act) ∧ v.cell? ⟨b4, 73, none⟩ = some (.int .i64 r.boo) ∧ v.cell? ⟨b4, 74, none⟩ = some (.int .u64 r.flo) ∧ v.rangeAt b4 0 C0.toList ∧ v.rangeAt b4 36 C1.toList)) (by kernel_rfl) (SX.out _ _ _ hx (by simp)) (fun hHeld => ?_)
  refine wpAnyH_take (i := 0) (oi := ?_) (v := ?_) ?_ ?_ ?_ ?_ ?_ ?_ ?_ ?_
  rotate_left 2
  · (simp only [List.getElem?_toArray, List.getElem?_cons_succ, List.getElem?_cons_zero]; exact rfl)
  · kernel_rfl
  · kernel_rfl
  · kernel_rfl
  · exact fun _ _ _ h => h
  · first | (refine Or.inl ⟨by rfl, ?_⟩; intro w hSw; (try dsimp only at hSw); go_simp; try with_reducible rfl) | (refine Or.inr ⟨by rfl, ?_⟩; rfl)
  · assumption
  try simp only [Act.put, List.setIfInBounds_toArray, List.set_cons_zero, List.set_cons_succ]
  try simp only [A1.out, A2.out, G0.out, D0.out, D1.out, D2.out, D3.out, D4.out, D5.out, D6.out, D7.out, D8.out, D9.out]
  refine wpAnyH_take (i := 1) (oi := ?_) (v := ?_) ?_ ?_ ?_ ?_ ?_ ?_ ?_ ?_
  rotate_left 2
  · (simp only [List.getElem?_toArray, List.getElem?_cons_succ, List.getElem?_cons_zero]; exact rfl)
  · kernel_rfl
  · kernel_rfl
  · kernel_rfl
  · exact fun _ _ _ h => h
  · first | (refine Or.inl ⟨by rfl, ?_⟩; intro w hSw; (try dsimp only at hSw); go_simp; try with_reducible rfl) | (refine Or.inr ⟨by rfl, ?_⟩; rfl)
  · assumption
  try simp only [Act.put, List.setIfInBounds_toArray, List.set_cons_zero, List.set_cons_succ]
  try simp only [A1.out, A2.out, G0.out, D0.out, D1.out, D2.out, D3.out, D4.out, D5.out, D6.out, D7.out, D8.out, D9.out]
  refine wpAnyH_take (i := 2) (oi := ?_) (v := ?_) ?_ ?_ ?_ ?_ ?_ ?_ ?_ ?_
  rotate_left 2
  · (simp only [List.getElem?_toArray, List.getElem?_cons_succ, List.getElem?_cons_zero]; exact rfl)
  · kernel_rfl
  · kernel_rfl
  · kernel_rfl
  · exact fun _ _ _ h => h
  · first | (refine Or.inl ⟨by rfl, ?_⟩; intro w hSw; (try dsimp only at hSw); go_simp; try with_reducible rfl) | (refine Or.inr ⟨by rfl, ?_⟩; rfl)
  · assumption
  try simp only [Act.put, List.setIfInBounds_toArray, List.set_cons_zero, List.set_cons_succ]
  try simp only [A1.out, A2.out, G0.out, D0.out, D1.out, D2.out, D3.out, D4.out, D5.out, D6.out, D7.out, D8.out, D9.out]
  refine wpAnyH_take (i := 3) (oi := ?_) (v := ?_) ?_ ?_ ?_ ?_ ?_ ?_ ?_ ?_
  rotate_left 2
  · (simp only [List.getElem?_toArray, List.getElem?_cons_succ, List.getElem?_cons_zero]; exact rfl)
  · kernel_rfl
  · kernel_rfl
  · kernel_rfl
  · exact fun _ _ _ h => h
  · first | (refine Or.inl ⟨by rfl, ?_⟩; intro w hSw; (try dsimp only at hSw); go_simp; try with_reducible rfl) | (refine Or.inr ⟨by rfl, ?_⟩; rfl)
  · assumption
  try simp only [Act.put, List.setIfInBounds_toArray, List.set_cons_zero, List.set_cons_succ]
  try simp only [A1.out, A2.out, G0.out, D0.out, D1.out, D2.out, D3.out, D4.out, D5.out, D6.out, D7.out, D8.out, D9.out]
  refine wpAnyH_take (i := 4) (oi := ?_) (v := ?_) ?_ ?_ ?_ ?_ ?_ ?_ ?_ ?_
  rotate_left 2
  · (simp only [List.getElem?_toArray, List.getElem?_cons_succ, List.getElem?_cons_zero]; exact rfl)
  · kernel_rfl
  · kernel_rfl
  · kernel_rfl
  · exact fun _ _ _ h => h
  · first | (first | ((refine yieldsIf_load_mid ?_ 39 (.tmp 68) ?_ b4 0 ?_ C0.toList _ ?_ HUL.out ?_ HM0.out) <;> first | rfl | exact fun w h => h.2.2.2.1) | ((refine yieldsIf_load_mid ?_ 39 (.tmp 74) ?_ b4 36 ?_ C1.toList _ ?_ HUL.out ?_ HM1.out) <;> first | rfl | exact fun w h => h.2.2.2.2) | (refine Or.inl ⟨by rfl, ?_⟩; intro w hSw; obtain ⟨hS2, hS3, hS4, hS5, hS6⟩ := hSw; go_simp; try with_reducible rfl)) | (refine Or.inr ⟨by rfl, ?_⟩; rfl)
  · assumption
  try simp only [Act.put, List.setIfInBounds_toArray, List.set_cons_zero, List.set_cons_succ]
  try simp only [A1.out, A2.out, G0.out, D0.out, D1.out, D2.out, D3.out, D4.out, D5.out, D6.out, D7.out, D8.out, D9.out]
  refine wpAnyH_take (i := 8) (oi := ?_) (v := ?_) ?_ ?_ ?_ ?_ ?_ ?_ ?_ ?_
  rotate_left 2
  · (simp only [List.getElem?_toArray, List.getElem?_cons_succ, List.getElem?_cons_zero]; exact rfl)
  · kernel_rfl
  · kernel_rfl
  · kernel_rfl
  · exact fun _ _ _ h => h
  · first | (refine Or.inl ⟨by rfl, ?_⟩; intro w hSw; (try dsimp only at hSw); go_simp; try with_reducible rfl) | (refine Or.inr ⟨by rfl, ?_⟩; rfl)
  · assumption
  try simp only [Act.put, List.setIfInBounds_toArray, List.set_cons_zero, List.set_cons_succ]
  try simp only [A1.out, A2.out, G0.out, D0.out, D1.out, D2.out, D3.out, D4.out, D5.out, D6.out, D7.out, D8.out, D9.out]
  refine wpAnyH_take (i := 9) (oi := ?_) (v := ?_) ?_ ?_ ?_ ?_ ?_ ?_ ?_ ?_
  rotate_left 2
  · (simp only [List.getElem?_toArray, List.getElem?_cons_succ, List.getElem?_cons_zero]; exact rfl)
  · kernel_rfl
  · kernel_rfl
  · kernel_rfl
  · exact fun _ _ _ h => h
  · first | (refine Or.inl ⟨by rfl, ?_⟩; intro w hSw; (try dsimp only at hSw); go_simp; try with_reducible rfl) | (refine Or.inr ⟨by rfl, ?_⟩; rfl)
  · assumption
  try simp only [Act.put, List.setIfInBounds_toArray, List.set_cons_zero, List.set_cons_succ]
  try simp only [A1.out, A2.out, G0.out, D0.out, D1.out, D2.out, D3.out, D4.out, D5.out, D6.out, D7.out, D8.out, D9.out]
  refine wpAnyH_take (i := 10) (oi := ?_) (v := ?_) ?_ ?_ ?_ ?_ ?_ ?_ ?_ ?_
  rotate_left 2
  · (simp only [List.getElem?_toArray, List.getElem?_cons_succ, List.getElem?_cons_zero]; exact rfl)
  · kernel_rfl
  · kernel_rfl
  · kernel_rfl
  · exact fun _ _ _ h => h
  · first | (first | ((refine yieldsIf_load_mid ?_ 39 (.tmp 68) ?_ b4 0 ?_ C0.toList _ ?_ HUL.out ?_ HM0.out) <;> first | rfl | exact fun w h => h.2.2.2.1) | ((refine yieldsIf_load_mid ?_ 39 (.tmp 74) ?_ b4 36 ?_ C1.toList _ ?_ HUL.out ?_ HM1.out) <;> first | rfl | exact fun w h => h.2.2.2.2) | (refine Or.inl ⟨by rfl, ?_⟩; intro w hSw; obtain ⟨hS2, hS3, hS4, hS5, hS6⟩ := hSw; go_simp; try with_reducible rfl)) | (refine Or.inr ⟨by rfl, ?_⟩; rfl)
  · assumption
  try simp only [Act.put, List.setIfInBounds_toArray, List.set_cons_zero, List.set_cons_succ]
  try simp only [A1.out, A2.out, G0.out, D0.out, D1.out, D2.out, D3.out, D4.out, D5.out, D6.out, D7.out, D8.out, D9.out]
  refine wpAnyH_take (i := 14) (oi := ?_) (v := ?_) ?_ ?_ ?_ ?_ ?_ ?_ ?_ ?_
  rotate_left 2
  · (simp only [List.getElem?_toArray, List.getElem?_cons_succ, List.getElem?_cons_zero]; exact rfl)
  · kernel_rfl
  · kernel_rfl
  · kernel_rfl
  · exact fun _ _ _ h => h
  · first | (refine Or.inl ⟨by rfl, ?_⟩; intro w hSw; (try dsimp only at hSw); go_simp; try with_reducible rfl) | (refine Or.inr ⟨by rfl, ?_⟩; rfl)
  · assumption
  try simp only [Act.put, List.setIfInBounds_toArray, List.set_cons_zero, List.set_cons_succ]
  try simp only [A1.out, A2.out, G0.out, D0.out, D1.out, D2.out, D3.out, D4.out, D5.out, D6.out, D7.out, D8.out, D9.out]
  refine wpAnyH_take (i := 15) (oi := ?_) (v := ?_) ?_ ?_ ?_ ?_ ?_ ?_ ?_ ?_
  rotate_left 2
  · (simp only [List.getElem?_toArray, List.getElem?_cons_succ, List.getElem?_cons_zero]; exact rfl)
  · kernel_rfl
  · kernel_rfl
  · kernel_rfl
  · exact fun _ _ _ h => h
  · first | (first | ((refine yieldsIf_load_mid ?_ 39 (.tmp 68) ?_ b4 0 ?_ C0.toList _ ?_ HUL.out ?_ HM0.out) <;> first | rfl | exact fun w h => h.2.2.2.1) | ((refine yieldsIf_load_mid ?_ 39 (.tmp 74) ?_ b4 36 ?_ C1.toList _ ?_ HUL.out ?_ HM1.out) <;> first | rfl | exact fun w h => h.2.2.2.2) | (refine Or.inl ⟨by rfl, ?_⟩; intro w hSw; obtain ⟨hS2, hS3, hS4, hS5, hS6⟩ := hSw; go_simp; try with_reducible rfl)) | (refine Or.inr ⟨by rfl, ?_⟩; rfl)
  · assumption
  try simp only [Act.put, List.setIfInBounds_toArray, List.set_cons_zero, List.set_cons_succ]
  try simp only [A1.out, A2.out, G0.out, D0.out, D1.out, D2.out, D3.out, D4.out, D5.out, D6.out, D7.out, D8.out, D9.out]
  refine wpAnyH_take (i := 19) (oi := ?_) (v := ?_) ?_ ?_ ?_ ?_ ?_ ?_ ?_ ?_
  rotate_left 2
  · (simp only [List.getElem?_toArray, List.getElem?_cons_succ, List.getElem?_cons_zero]; exact rfl)
  · kernel_rfl
  · kernel_rfl
  · kernel_rfl
  · exact fun _ _ _ h => h
  · first | (refine Or.inl ⟨by rfl, ?_⟩; intro w hSw; (try dsimp only at hSw); go_simp; try with_reducible rfl) | (refine Or.inr ⟨by rfl, ?_⟩; rfl)
  · assumption
  try simp only [Act.put, List.setIfInBounds_toArray, List.set_cons_zero, List.set_cons_succ]
  try simp only [A1.out, A2.out, G0.out, D0.out, D1.out, D2.out, D3.out, D4.out, D5.out, D6.out, D7.out, D8.out, D9.out]
  refine wpAnyH_take (i := 20) (oi := ?_) (v := ?_) ?_ ?_ ?_ ?_ ?_ ?_ ?_ ?_
  rotate_left 2
  · (simp only [List.getElem?_toArray, List.getElem?_cons_succ, List.getElem?_cons_zero]; exact rfl)
  · kernel_rfl
  · kernel_rfl
  · kernel_rfl
  · exact fun _ _ _ h => h
  · first | (first | ((refine yieldsIf_load_mid ?_ 39 (.tmp 68) ?_ b4 0 ?_ C0.toList _ ?_ HUL.out ?_ HM0.out) <;> first | rfl | exact fun w h => h.2.2.2.1) | ((refine yieldsIf_load_mid ?_ 39 (.tmp 74) ?_ b4 36 ?_ C1.toList _ ?_ HUL.out ?_ HM1.out) <;> first | rfl | exact fun w h => h.2.2.2.2) | (refine Or.inl ⟨by rfl, ?_⟩; intro w hSw; obtain ⟨hS2, hS3, hS4, hS5, hS6⟩ := hSw; go_simp; try with_reducible rfl)) | (refine Or.inr ⟨by rfl, ?_⟩; rfl)
  · assumption
  try simp only [Act.put, List.setIfInBounds_toArray, List.set_cons_zero, List.set_cons_succ]
  try simp only [A1.out, A2.out, G0.out, D0.out, D1.out, D2.out, D3.out, D4.out, D5.out, D6.out, D7.out, D8.out, D9.out]
  refine wpAnyH_take (i := 24) (oi := ?_) (v := ?_) ?_ ?_ ?_ ?_ ?_ ?_ ?_ ?_
  rotate_left 2
  · (simp only [List.getElem?_toArray, List.getElem?_cons_succ, List.getElem?_cons_zero]; exact rfl)
  · kernel_rfl
  · kernel_rfl
  · kernel_rfl
  · exact fun _ _ _ h => h
  · first | (refine Or.inl ⟨by rfl, ?_⟩; intro w hSw; (try dsimp only at hSw); go_simp; try with_reducible rfl) | (refine Or.inr ⟨by rfl, ?_⟩; rfl)
  · assumption
  try simp only [Act.put, List.setIfInBounds_toArray, List.set_cons_zero, List.set_cons_succ]
  try simp only [A1.out, A2.out, G0.out, D0.out, D1.out, D2.out, D3.out, D4.out, D5.out, D6.out, D7.out, D8.out, D9.out]
  refine wpAnyH_take (i := 25) (oi := ?_) (v := ?_) ?_ ?_ ?_ ?_ ?_ ?_ ?_ ?_
  rotate_left 2
  · (simp only [List.getElem?_toArray, List.getElem?_cons_succ, List.getElem?_cons_zero]; exact rfl)
  · kernel_rfl
  · kernel_rfl
  · kernel_rfl
  · exact fun _ _ _ h => h
  · first | (first | ((refine yieldsIf_load_mid ?_ 39 (.tmp 68) ?_ b4 0 ?_ C0.toList _ ?_ HUL.out ?_ HM0.out) <;> first | rfl | exact fun w h => h.2.2.2.1) | ((refine yieldsIf_load_mid ?_ 39 (.tmp 74) ?_ b4 36 ?_ C1.toList _ ?_ HUL.out ?_ HM1.out) <;> first | rfl | exact fun w h => h.2.2.2.2) | (refine Or.inl ⟨by rfl, ?_⟩; intro w hSw; obtain ⟨hS2, hS3, hS4, hS5, hS6⟩ := hSw; go_simp; try with_reducible rfl)) | (refine Or.inr ⟨by rfl, ?_⟩; rfl)
  · assumption
  try simp only [Act.put, List.setIfInBounds_toArray, List.set_cons_zero, List.set_cons_succ]
  try simp only [A1.out, A2.out, G0.out, D0.out, D1.out, D2.out, D3.out, D4.out, D5.out, D6.out, D7.out, D8.out, D9.out]
  refine wpAnyH_ready (rs := [5]) (by kernel_rfl) (by simp) ?_
  refine AllReadyH.cons (o := ?_) ?_ (fun K hK => ?_) ?_
  rotate_left 1
  · (simp only [List.getElem?_toArray, List.getElem?_cons_succ, List.getElem?_cons_zero]; exact rfl)
  · go_simp
    ((first | (go_at_call 47; (with_reducible refine (KT0.out _ _ hx).mono ?_); rintro e wx ⟨rfl, hx⟩; dsimp only) | (go_at_call 47; (with_reducible refine (KT1.out _ _ hx).mono ?_); rintro e wx ⟨rfl, hx⟩; dsimp only) | (go_at_call 46; (with_reducible refine (KNA.out _ _ hx).mono ?_); rintro e wx ⟨rfl, hx⟩; dsimp only) | (go_at_call 46; (with_reducible refine (KNB.out _ _ hx).mono ?_); rintro e wx ⟨rfl, hx⟩; dsimp only) | (go_at_call 48; (with_reducible refine (KF.out _ _ hx).mono ?_); rintro e wx ⟨rfl, hx⟩; dsimp only)))
    refine hK.out _ _ ?_ (fun hHeld => ?_)
    · (try dsimp only) <;> (exact SX.out _ _ _ hx (by simp))
    clear hK K
    try simp only [Act.put, List.setIfInBounds_toArray, List.set_cons_zero, List.set_cons_succ]
    try simp only [A1.out, A2.out, G0.out, D0.out, D1.out, D2.out, D3.out, D4.out, D5.out, D6.out, D7.out, D8.out, D9.out]
    refine wpAnyH_take (i := 6) (oi := ?_) (v := ?_) ?_ ?_ ?_ ?_ ?_ ?_ ?_ ?_
    rotate_left 2
    · (simp only [List.getElem?_toArray, List.getElem?_cons_succ, List.getElem?_cons_zero]; exact rfl)
    · kernel_rfl
    · kernel_rfl
    · kernel_rfl
    · exact fun _ _ _ h => h
    · first | (refine Or.inl ⟨by rfl, ?_⟩; intro w hSw; (try dsimp only at hSw); go_simp; try with_reducible rfl) | (refine Or.inr ⟨by rfl, ?_⟩; rfl)
    · assumption
    try simp only [Act.put, List.setIfInBounds_toArray, List.set_cons_zero, List.set_cons_succ]
    try simp only [A1.out, A2.out, G0.out, D0.out, D1.out, D2.out, D3.out, D4.out, D5.out, D6.out, D7.out, D8.out, D9.out]
    refine wpAnyH_take (i := 7) (oi := ?_) (v := ?_) ?_ ?_ ?_ ?_ ?_ ?_ ?_ ?_
    rotate_left 2
    · (simp only [List.getElem?_toArray, List.getElem?_cons_succ, List.getElem?_cons_zero]; exact rfl)
    · kernel_rfl
    · kernel_rfl
    · kernel_rfl
    · exact fun _ _ _ h => h
    · first | (refine Or.inl ⟨by rfl, ?_⟩; intro w hSw; (try dsimp only at hSw); go_simp; try with_reducible rfl) | (refine Or.inr ⟨by rfl, ?_⟩; rfl)
    · assumption
    try simp only [Act.put, List.setIfInBounds_toArray, List.set_cons_zero, List.set_cons_succ]
    try simp only [A1.out, A2.out, G0.out, D0.out, D1.out, D2.out, D3.out, D4.out, D5.out, D6.out, D7.out, D8.out, D9.out]
    refine wpAnyH_ready (rs := [11]) (by kernel_rfl) (by simp) ?_
    refine AllReadyH.cons (o := ?_) ?_ (fun K hK => ?_) ?_
    rotate_left 1
    · (simp only [List.getElem?_toArray, List.getElem?_cons_succ, List.getElem?_cons_zero]; exact rfl)
    · go_simp
      ((first | (go_at_call 47; (with_reducible refine (KT0.out _ _ hx).mono ?_); rintro e wx ⟨rfl, hx⟩; dsimp only) | (go_at_call 47; (with_reducible refine (KT1.out _ _ hx).mono ?_); rintro e wx ⟨rfl, hx⟩; dsimp only) | (go_at_call 46; (with_reducible refine (KNA.out _ _ hx).mono ?_); rintro e wx ⟨rfl, hx⟩; dsimp only) | (go_at_call 46; (with_reducible refine (KNB.out _ _ hx).mono ?_); rintro e wx ⟨rfl, hx⟩; dsimp only) | (go_at_call 48; (with_reducible refine (KF.out _ _ hx).mono ?_); rintro e wx ⟨rfl, hx⟩; dsimp only)))
      refine hK.out _ _ ?_ (fun hHeld => ?_)
      · (try dsimp only) <;> (exact SX.out _ _ _ hx (by simp))
      clear hK K
      try simp only [Act.put, List.setIfInBounds_toArray, List.set_cons_zero, List.set_cons_succ]
      try simp only [A1.out, A2.out, G0.out, D0.out, D1.out, D2.out, D3.out, D4.out, D5.out, D6.out, D7.out, D8.out, D9.out]
      refine wpAnyH_take (i := 12) (oi := ?_) (v := ?_) ?_ ?_ ?_ ?_ ?_ ?_ ?_ ?_
      rotate_left 2
      · (simp only [List.getElem?_toArray, List.getElem?_cons_succ, List.getElem?_cons_zero]; exact rfl)
      · kernel_rfl
      · kernel_rfl
      · kernel_rfl
      · exact fun _ _ _ h => h
      · first | (refine Or.inl ⟨by rfl, ?_⟩; intro w hSw; (try dsimp only at hSw); go_simp; try with_reducible rfl) | (refine Or.inr ⟨by rfl, ?_⟩; rfl)
      · assumption
      try simp only [Act.put, List.setIfInBounds_toArray, List.set_cons_zero, List.set_cons_succ]
      try simp only [A1.out, A2.out, G0.out, D0.out, D1.out, D2.out, D3.out, D4.out, D5.out, D6.out, D7.out, D8.out, D9.out]
      refine wpAnyH_take (i := 13) (oi := ?_) (v := ?_) ?_ ?_ ?_ ?_ ?_ ?_ ?_ ?_
      rotate_left 2
      · (simp only [List.getElem?_toArray, List.getElem?_cons_succ, List.getElem?_cons_zero]; exact rfl)
      · kernel_rfl
      · kernel_rfl
      · kernel_rfl
      · exact fun _ _ _ h => h
      · first | (refine Or.inl ⟨by rfl, ?_⟩; intro w hSw; (try dsimp only at hSw); go_simp; try with_reducible rfl) | (refine Or.inr ⟨by rfl, ?_⟩; rfl)
      · assumption
      try simp only [Act.put, List.setIfInBounds_toArray, List.set_cons_zero, List.set_cons_succ]
      try simp only [A1.out, A2.out, G0.out, D0.out, D1.out, D2.out, D3.out, D4.out, D5.out, D6.out, D7.out, D8.out, D9.out]
      refine wpAnyH_ready (rs := [16]) (by kernel_rfl) (by simp) ?_
      refine AllReadyH.cons (o := ?_) ?_ (fun K hK => ?_) ?_
      rotate_left 1
      · (simp only [List.getElem?_toArray, List.getElem?_cons_succ, List.getElem?_cons_zero]; exact rfl)
      · go_simp
        ((first | (go_at_call 47; (with_reducible refine (KT0.out _ _ hx).mono ?_); rintro e wx ⟨rfl, hx⟩; dsimp only) | (go_at_call 47; (with_reducible refine (KT1.out _ _ hx).mono ?_); rintro e wx ⟨rfl, hx⟩; dsimp only) | (go_at_call 46; (with_reducible refine (KNA.out _ _ hx).mono ?_); rintro e wx ⟨rfl, hx⟩; dsimp only) | (go_at_call 46; (with_reducible refine (KNB.out _ _ hx).mono ?_); rintro e wx ⟨rfl, hx⟩; dsimp only) | (go_at_call 48; (with_reducible refine (KF.out _ _ hx).mono ?_); rintro e wx ⟨rfl, hx⟩; dsimp only)))
        refine hK.out _ _ ?_ (fun hHeld => ?_)
        · (try dsimp only) <;> (exact SX.out _ _ _ hx (by simp))
        clear hK K
        try simp only [Act.put, List.setIfInBounds_toArray, List.set_cons_zero, List.set_cons_succ]
        try simp only [A1.out, A2.out, G0.out, D0.out, D1.out, D2.out, D3.out, D4.out, D5.out, D6.out, D7.out, D8.out, D9.out]
        refine wpAnyH_take (i := 17) (oi := ?_) (v := ?_) ?_ ?_ ?_ ?_ ?_ ?_ ?_ ?_
        rotate_left 2
        · (simp only [List.getElem?_toArray, List.getElem?_cons_succ, List.getElem?_cons_zero]; exact rfl)
        · kernel_rfl
        · kernel_rfl
        · kernel_rfl
        · exact fun _ _ _ h => h
        · first | (refine Or.inl ⟨by rfl, ?_⟩; intro w hSw; (try dsimp only at hSw); go_simp; try with_reducible rfl) | (refine Or.inr ⟨by rfl, ?_⟩; rfl)
        · assumption
        try simp only [Act.put, List.setIfInBounds_toArray, List.set_cons_zero, List.set_cons_succ]
        try simp only [A1.out, A2.out, G0.out, D0.out, D1.out, D2.out, D3.out, D4.out, D5.out, D6.out, D7.out, D8.out, D9.out]
        refine wpAnyH_take (i := 18) (oi := ?_) (v := ?_) ?_ ?_ ?_ ?_ ?_ ?_ ?_ ?_
        rotate_left 2
        · (simp only [List.getElem?_toArray, List.getElem?_cons_succ, List.getElem?_cons_zero]; exact rfl)
        · kernel_rfl
        · kernel_rfl
        · kernel_rfl
        · exact fun _ _ _ h => h
        · first | (refine Or.inl ⟨by rfl, ?_⟩; intro w hSw; (try dsimp only at hSw); go_simp; try with_reducible rfl) | (refine Or.inr ⟨by rfl, ?_⟩; rfl)
        · assumption
        try simp only [Act.put, List.setIfInBounds_toArray, List.set_cons_zero, List.set_cons_succ]
        try simp only [A1.out, A2.out, G0.out, D0.out, D1.out, D2.out, D3.out, D4.out, D5.out, D6.out, D7.out, D8.out, D9.out]
        refine wpAnyH_ready (rs := [21]) (by kernel_rfl) (by simp) ?_
        refine AllReadyH.cons (o := ?_) ?_ (fun K hK => ?_) ?_
        rotate_left 1
        · (simp only [List.getElem?_toArray, List.getElem?_cons_succ, List.getElem?_cons_zero]; exact rfl)
        · go_simp
          ((first | (go_at_call 47; (with_reducible refine (KT0.out _ _ hx).mono ?_); rintro e wx ⟨rfl, hx⟩; dsimp only) | (go_at_call 47; (with_reducible refine (KT1.out _ _ hx).mono ?_); rintro e wx ⟨rfl, hx⟩; dsimp only) | (go_at_call 46; (with_reducible refine (KNA.out _ _ hx).mono ?_); rintro e wx ⟨rfl, hx⟩; dsimp only) | (go_at_call 46; (with_reducible refine (KNB.out _ _ hx).mono ?_); rintro e wx ⟨rfl, hx⟩; dsimp only) | (go_at_call 48; (with_reducible refine (KF.out _ _ hx).mono ?_); rintro e wx ⟨rfl, hx⟩; dsimp only)))
          refine hK.out _ _ ?_ (fun hHeld => ?_)
          · (try dsimp only) <;> (exact SX.out _ _ _ hx (by simp))
          clear hK K
          try simp only [Act.put, List.setIfInBounds_toArray, List.set_cons_zero, List.set_cons_succ]
          try simp only [A1.out, A2.out, G0.out, D0.out, D1.out, D2.out, D3.out, D4.out, D5.out, D6.out, D7.out, D8.out, D9.out]
          refine wpAnyH_take (i := 22) (oi := ?_) (v := ?_) ?_ ?_ ?_ ?_ ?_ ?_ ?_ ?_
          rotate_left 2
          · (simp only [List.getElem?_toArray, List.getElem?_cons_succ, List.getElem?_cons_zero]; exact rfl)
          · kernel_rfl
          · kernel_rfl
          · kernel_rfl
          · exact fun _ _ _ h => h
          · first | (refine Or.inl ⟨by rfl, ?_⟩; intro w hSw; (try dsimp only at hSw); go_simp; try with_reducible rfl) | (refine Or.inr ⟨by rfl, ?_⟩; rfl)
          · assumption
          try simp only [Act.put, List.setIfInBounds_toArray, List.set_cons_zero, List.set_cons_succ]
          try simp only [A1.out, A2.out, G0.out, D0.out, D1.out, D2.out, D3.out, D4.out, D5.out, D6.out, D7.out, D8.out, D9.out]
          refine wpAnyH_take (i := 23) (oi := ?_) (v := ?_) ?_ ?_ ?_ ?_ ?_ ?_ ?_ ?_
          rotate_left 2
          · (simp only [List.getElem?_toArray, List.getElem?_cons_succ, List.getElem?_cons_zero]; exact rfl)
          · kernel_rfl
          · kernel_rfl
          · kernel_rfl
          · exact fun _ _ _ h => h
          · first | (refine Or.inl ⟨by rfl, ?_⟩; intro w hSw; (try dsimp only at hSw); go_simp; try with_reducible rfl) | (refine Or.inr ⟨by rfl, ?_⟩; rfl)
          · assumption
          try simp only [Act.put, List.setIfInBounds_toArray, List.set_cons_zero, List.set_cons_succ]
          try simp only [A1.out, A2.out, G0.out, D0.out, D1.out, D2.out, D3.out, D4.out, D5.out, D6.out, D7.out, D8.out, D9.out]
          refine wpAnyH_ready (rs := [26]) (by kernel_rfl) (by simp) ?_
          refine AllReadyH.cons (o := ?_) ?_ (fun K hK => ?_) ?_
          rotate_left 1
          · (simp only [List.getElem?_toArray, List.getElem?_cons_succ, List.getElem?_cons_zero]; exact rfl)
          · go_simp
            ((first | (go_at_call 47; (with_reducible refine (KT0.out _ _ hx).mono ?_); rintro e wx ⟨rfl, hx⟩; dsimp only) | (go_at_call 47; (with_reducible refine (KT1.out _ _ hx).mono ?_); rintro e wx ⟨rfl, hx⟩; dsimp only) | (go_at_call 46; (with_reducible refine (KNA.out _ _ hx).mono ?_); rintro e wx ⟨rfl, hx⟩; dsimp only) | (go_at_call 46; (with_reducible refine (KNB.out _ _ hx).mono ?_); rintro e wx ⟨rfl, hx⟩; dsimp only) | (go_at_call 48; (with_reducible refine (KF.out _ _ hx).mono ?_); rintro e wx ⟨rfl, hx⟩; dsimp only)))
            refine hK.out _ _ ?_ (fun hHeld => ?_)
            · (try dsimp only) <;> (exact SX.out _ _ _ hx (by simp))
            clear hK K
            try simp only [Act.put, List.setIfInBounds_toArray, List.set_cons_zero, List.set_cons_succ]
            try simp only [A1.out, A2.out, G0.out, D0.out, D1.out, D2.out, D3.out, D4.out, D5.out, D6.out, D7.out, D8.out, D9.out]
            refine wpAnyH_take (i := 27) (oi := ?_) (v := ?_) ?_ ?_ ?_ ?_ ?_ ?_ ?_ ?_
            rotate_left 2
            · (simp only [List.getElem?_toArray, List.getElem?_cons_succ, List.getElem?_cons_zero]; exact rfl)
            · kernel_rfl
            · kernel_rfl
            · kernel_rfl
            · exact fun _ _ _ h => h
            · first | (refine Or.inl ⟨by rfl, ?_⟩; intro w hSw; (try dsimp only at hSw); go_simp; try with_reducible rfl) | (refine Or.inr ⟨by rfl, ?_⟩; rfl)
            · assumption
            try simp only [Act.put, List.setIfInBounds_toArray, List.set_cons_zero, List.set_cons_succ]
            try simp only [A1.out, A2.out, G0.out, D0.out, D1.out, D2.out, D3.out, D4.out, D5.out, D6.out, D7.out, D8.out, D9.out]
            refine wpAnyH_take (i := 28) (oi := ?_) (v := ?_) ?_ ?_ ?_ ?_ ?_ ?_ ?_ ?_
            rotate_left 2
            · (simp only [List.getElem?_toArray, List.getElem?_cons_succ, List.getElem?_cons_zero]; exact rfl)
            · kernel_rfl
            · kernel_rfl
            · kernel_rfl
            · exact fun _ _ _ h => h
            · first | (refine Or.inl ⟨by rfl, ?_⟩; intro w hSw; (try dsimp only at hSw); go_simp; try with_reducible rfl) | (refine Or.inr ⟨by rfl, ?_⟩; rfl)
            · assumption
            try simp only [Act.put, List.setIfInBounds_toArray, List.set_cons_zero, List.set_cons_succ]
            try simp only [A1.out, A2.out, G0.out, D0.out, D1.out, D2.out, D3.out, D4.out, D5.out, D6.out, D7.out, D8.out, D9.out]
            refine wpAnyH_done (by kernel_rfl) ?_ _
            (have HZ := Lib.hid hx; clear hx SX; go_wp2_with fail; go_ret; exact ⟨rfl, St.weaken (A := [_, _, _]) HZ.out⟩)
          exact AllReadyH.nil
        exact AllReadyH.nil
      exact AllReadyH.nil
    exact AllReadyH.nil
  exact AllReadyH.nil
set_option maxRecDepth 100000 in
set_option maxHeartbeats 16000000 in
theorem cref_say_1 (c : Cl) (r : Rp) (ok : r.Ok) (he : r.err = 0) (k3 : c.kind = 3) (g : r.state = 1) (h : St W w I F) :
    Calls Tryd.prog 31 #[c.val, .agg r.cells] w fun e w' => e = .returned (.string ⟨(sayS c r).toArray⟩) ∧ St W w' I F := by
  obtain ⟨cl, kd, sl, jo, na⟩ := c
  dsimp only at k3
  have h0 := (h.alloc (.cells #[Value.int .i64 cl, .int .i64 kd, .int .i64 sl, .int .i64 jo, .string na] 23)).alloc (.cells r.cells 44)
  have kI := fun (n : Int) (n0 : -9223372036854775808 ≤ n) (n1 : n ≤ 9223372036854775807) (v : World) (F : List (Nat × Obj)) (hv : St W v I F) => cdig_any n n0 n1 hv
  have kN := fun (i : Int) (v : World) (F : List (Nat × Obj)) (hv : St W v I F) => cref_name i hv
  have hrc := r.at_
  obtain ⟨b, hb⟩ : ∃ b, w.heap.size = b := ⟨_, rfl⟩
  rw [World.size_alloc, hb] at h0
  have q := h0.cell (g := b + 1) (cs := r.cells) (t := 44) (fr := (0, 0)) (by simp)
  have q0 := (q 0).trans hrc.1
  have q1 := (q 1).trans hrc.2.1
  have q2 := (q 2).trans hrc.2.2.1
  have q3 := (q 3).trans hrc.2.2.2.1
  have q4 := (q 4).trans hrc.2.2.2.2
  have hcc : (⟨cl, kd, sl, jo, na⟩ : Cl).val = .agg #[Value.int .i64 cl, .int .i64 kd, .int .i64 sl, .int .i64 jo, .string na] := rfl
  rw [hcc]
  have l1 := itoa_len r.err ok.e0 ok.e1
  have l2 := itoa_len r.job ok.j0 ok.j1
  have l3 := nameOf_len r.slot
  have kIe := kI r.err ok.e0 ok.e1
  have kIj := kI r.job ok.j0 ok.j1
  have kNs := kN r.slot
  obtain ⟨X, hX⟩ : ∃ X, sayS ⟨cl, kd, sl, jo, na⟩ r = X := ⟨_, rfl⟩
  rw [hX]
  have KIE := Lib.hid kIe; have KIJ := Lib.hid kIj; have KN := Lib.hid kNs; have H0 := Lib.hid h0; have HX := Lib.hid hX
  clear kI kIe kIj kN kNs h0 q hcc
  have heb : (r.err == 0) = true := by rw [he]; rfl
  subst k3
  have hx := say_status ⟨cl, 3, sl, jo, na⟩ r he rfl
  rw [HX.out] at hx
  have hX2 := status_head r
  rw [← hx] at hX2
  have m0 := headS_len r ok
  have m1 := text_le r.s0 ok.s0
  have m2 := text_le r.s1 ok.s1
  have m3 := nameOf_len r.act
  have m4 := nameOf_len r.boo
  have m5 := dec_le 19 r.flo.toNat (by have := ok.o0; have := ok.o1; omega)
  have kT0 := fun (v : World) (F : List (Nat × Obj)) (hv : St W v I F) => ref_text r.s0 ok.s0 hv
  have kT1 := fun (v : World) (F : List (Nat × Obj)) (hv : St W v I F) => ref_text r.s1 ok.s1 hv
  have kNa := fun (v : World) (F : List (Nat × Obj)) (hv : St W v I F) => cref_name r.act hv
  have kNb := fun (v : World) (F : List (Nat × Obj)) (hv : St W v I F) => cref_name r.boo hv
  have kF : ∀ (v : World) (F : List (Nat × Obj)), St W v I F → Calls Tryd.prog 48 #[.int .u64 r.flo] v fun e w' => e = .returned (.string ⟨(Lib.decDigits r.flo.toNat).toArray⟩) ∧ St W w' I F := fun v F hv => by
    have h := rdec_any r.flo.toNat (by have := ok.o0; have := ok.o1; omega) hv
    rwa [show ((r.flo.toNat : Nat) : Int) = r.flo by have := ok.o0; omega] at h
  have kIf : ∀ (v : World) (F : List (Nat × Obj)), St W v I F → Calls Tryd.prog 36 #[.int .i64 r.fault] v fun e w' => e = .returned (.string ⟨(Lib.itoa r.fault).toArray⟩) ∧ St W w' I F := fun v F hv => cdig_any r.fault ok.f0 ok.f1 hv
  have kk := KIJ.out
  have a1 := ba_app [106, 111, 98, 32] (Lib.itoa r.job)
  have a2 := ba_app ([106, 111, 98, 32] ++ Lib.itoa r.job) [32]
  have aS := ba_app ([106, 111, 98, 32] ++ Lib.itoa r.job ++ [32]) (stateOf r)
  rw [show [106, 111, 98, 32] ++ Lib.itoa r.job ++ [32] ++ stateOf r = headS r from rfl] at aS
  have hbs : (⟨(Lib.itoa r.job).toArray⟩ : ByteArray).size ≤ 21 := by rw [ba_size]; omega
  have lf := itoa_len r.fault ok.f0 ok.f1
  have s0 := ba_app (headS r) ([59, 32, 97, 58, 32])
  have z0 : ¬ (9223372036854775807 < (⟨(headS r).toArray⟩ : ByteArray).size + 5) := by
    rw [ba_size]
    try simp only [List.length_append, List.length_cons, List.length_nil]
    omega
  have s1 := ba_app (headS r ++ [59, 32, 97, 58, 32]) (textS r.s0)
  have z1 : ¬ (9223372036854775807 < (⟨((headS r ++ [59, 32, 97, 58, 32])).toArray⟩ : ByteArray).size + (⟨(textS r.s0).toArray⟩ : ByteArray).size) := by
    rw [ba_size, ba_size]
    try simp only [List.length_append, List.length_cons, List.length_nil]
    omega
  have s2 := ba_app ((headS r ++ [59, 32, 97, 58, 32]) ++ textS r.s0) ([59, 32, 98, 58, 32])
  have z2 : ¬ (9223372036854775807 < (⟨(((headS r ++ [59, 32, 97, 58, 32]) ++ textS r.s0)).toArray⟩ : ByteArray).size + 5) := by
    rw [ba_size]
    try simp only [List.length_append, List.length_cons, List.length_nil]
    omega
  have s3 := ba_app (((headS r ++ [59, 32, 97, 58, 32]) ++ textS r.s0) ++ [59, 32, 98, 58, 32]) (textS r.s1)
  have z3 : ¬ (9223372036854775807 < (⟨((((headS r ++ [59, 32, 97, 58, 32]) ++ textS r.s0) ++ [59, 32, 98, 58, 32])).toArray⟩ : ByteArray).size + (⟨(textS r.s1).toArray⟩ : ByteArray).size) := by
    rw [ba_size, ba_size]
    try simp only [List.length_append, List.length_cons, List.length_nil]
    omega
  have s4 := ba_app ((((headS r ++ [59, 32, 97, 58, 32]) ++ textS r.s0) ++ [59, 32, 98, 58, 32]) ++ textS r.s1) ([59, 32, 97, 99, 116, 105, 118, 101, 32])
  have z4 : ¬ (9223372036854775807 < (⟨(((((headS r ++ [59, 32, 97, 58, 32]) ++ textS r.s0) ++ [59, 32, 98, 58, 32]) ++ textS r.s1)).toArray⟩ : ByteArray).size + 9) := by
    rw [ba_size]
    try simp only [List.length_append, List.length_cons, List.length_nil]
    omega
  have s5 := ba_app (((((headS r ++ [59, 32, 97, 58, 32]) ++ textS r.s0) ++ [59, 32, 98, 58, 32]) ++ textS r.s1) ++ [59, 32, 97, 99, 116, 105, 118, 101, 32]) (nameOf r.act)
  have z5 : ¬ (9223372036854775807 < (⟨((((((headS r ++ [59, 32, 97, 58, 32]) ++ textS r.s0) ++ [59, 32, 98, 58, 32]) ++ textS r.s1) ++ [59, 32, 97, 99, 116, 105, 118, 101, 32])).toArray⟩ : ByteArray).size + (⟨(nameOf r.act).toArray⟩ : ByteArray).size) := by
    rw [ba_size, ba_size]
    try simp only [List.length_append, List.length_cons, List.length_nil]
    omega
  have s6 := ba_app ((((((headS r ++ [59, 32, 97, 58, 32]) ++ textS r.s0) ++ [59, 32, 98, 58, 32]) ++ textS r.s1) ++ [59, 32, 97, 99, 116, 105, 118, 101, 32]) ++ nameOf r.act) ([59, 32, 98, 111, 111, 116, 101, 100, 32])
  have z6 : ¬ (9223372036854775807 < (⟨(((((((headS r ++ [59, 32, 97, 58, 32]) ++ textS r.s0) ++ [59, 32, 98, 58, 32]) ++ textS r.s1) ++ [59, 32, 97, 99, 116, 105, 118, 101, 32]) ++ nameOf r.act)).toArray⟩ : ByteArray).size + 9) := by
    rw [ba_size]
    try simp only [List.length_append, List.length_cons, List.length_nil]
    omega
  have s7 := ba_app (((((((headS r ++ [59, 32, 97, 58, 32]) ++ textS r.s0) ++ [59, 32, 98, 58, 32]) ++ textS r.s1) ++ [59, 32, 97, 99, 116, 105, 118, 101, 32]) ++ nameOf r.act) ++ [59, 32, 98, 111, 111, 116, 101, 100, 32]) (nameOf r.boo)
  have z7 : ¬ (9223372036854775807 < (⟨((((((((headS r ++ [59, 32, 97, 58, 32]) ++ textS r.s0) ++ [59, 32, 98, 58, 32]) ++ textS r.s1) ++ [59, 32, 97, 99, 116, 105, 118, 101, 32]) ++ nameOf r.act) ++ [59, 32, 98, 111, 111, 116, 101, 100, 32])).toArray⟩ : ByteArray).size + (⟨(nameOf r.boo).toArray⟩ : ByteArray).size) := by
    rw [ba_size, ba_size]
    try simp only [List.length_append, List.length_cons, List.length_nil]
    omega
  have s8 := ba_app ((((((((headS r ++ [59, 32, 97, 58, 32]) ++ textS r.s0) ++ [59, 32, 98, 58, 32]) ++ textS r.s1) ++ [59, 32, 97, 99, 116, 105, 118, 101, 32]) ++ nameOf r.act) ++ [59, 32, 98, 111, 111, 116, 101, 100, 32]) ++ nameOf r.boo) ([59, 32, 102, 108, 111, 111, 114, 32])
  have z8 : ¬ (9223372036854775807 < (⟨(((((((((headS r ++ [59, 32, 97, 58, 32]) ++ textS r.s0) ++ [59, 32, 98, 58, 32]) ++ textS r.s1) ++ [59, 32, 97, 99, 116, 105, 118, 101, 32]) ++ nameOf r.act) ++ [59, 32, 98, 111, 111, 116, 101, 100, 32]) ++ nameOf r.boo)).toArray⟩ : ByteArray).size + 8) := by
    rw [ba_size]
    try simp only [List.length_append, List.length_cons, List.length_nil]
    omega
  have s9 := ba_app (((((((((headS r ++ [59, 32, 97, 58, 32]) ++ textS r.s0) ++ [59, 32, 98, 58, 32]) ++ textS r.s1) ++ [59, 32, 97, 99, 116, 105, 118, 101, 32]) ++ nameOf r.act) ++ [59, 32, 98, 111, 111, 116, 101, 100, 32]) ++ nameOf r.boo) ++ [59, 32, 102, 108, 111, 111, 114, 32]) (Lib.decDigits r.flo.toNat)
  have z9 : ¬ (9223372036854775807 < (⟨((((((((((headS r ++ [59, 32, 97, 58, 32]) ++ textS r.s0) ++ [59, 32, 98, 58, 32]) ++ textS r.s1) ++ [59, 32, 97, 99, 116, 105, 118, 101, 32]) ++ nameOf r.act) ++ [59, 32, 98, 111, 111, 116, 101, 100, 32]) ++ nameOf r.boo) ++ [59, 32, 102, 108, 111, 111, 114, 32])).toArray⟩ : ByteArray).size + (⟨(Lib.decDigits r.flo.toNat).toArray⟩ : ByteArray).size) := by
    rw [ba_size, ba_size]
    try simp only [List.length_append, List.length_cons, List.length_nil]
    omega
  rw [hX2] at s9
  obtain ⟨bj, hbj⟩ : ∃ x, (⟨(Lib.itoa r.job).toArray⟩ : ByteArray) = x := ⟨_, rfl⟩
  rw [hbj] at a1 hbs
  simp only [hbj] at kk
  obtain ⟨b1, hb1⟩ : ∃ x, (⟨([106, 111, 98, 32] ++ Lib.itoa r.job).toArray⟩ : ByteArray) = x := ⟨_, rfl⟩
  rw [hb1] at a1 a2
  obtain ⟨b2, hb2⟩ : ∃ x, (⟨([106, 111, 98, 32] ++ Lib.itoa r.job ++ [32]).toArray⟩ : ByteArray) = x := ⟨_, rfl⟩
  rw [hb2] at a2 aS
  obtain ⟨c0, hc0⟩ : ∃ x, (⟨(headS r).toArray⟩ : ByteArray) = x := ⟨_, rfl⟩
  rw [hc0] at s0 z0 aS
  obtain ⟨c1, hc1⟩ : ∃ x, (⟨((headS r ++ [59, 32, 97, 58, 32])).toArray⟩ : ByteArray) = x := ⟨_, rfl⟩
  rw [hc1] at s1 z1 s0
  obtain ⟨c2, hc2⟩ : ∃ x, (⟨(((headS r ++ [59, 32, 97, 58, 32]) ++ textS r.s0)).toArray⟩ : ByteArray) = x := ⟨_, rfl⟩
  rw [hc2] at s2 z2 s1
  obtain ⟨c3, hc3⟩ : ∃ x, (⟨((((headS r ++ [59, 32, 97, 58, 32]) ++ textS r.s0) ++ [59, 32, 98, 58, 32])).toArray⟩ : ByteArray) = x := ⟨_, rfl⟩
  rw [hc3] at s3 z3 s2
  obtain ⟨c4, hc4⟩ : ∃ x, (⟨(((((headS r ++ [59, 32, 97, 58, 32]) ++ textS r.s0) ++ [59, 32, 98, 58, 32]) ++ textS r.s1)).toArray⟩ : ByteArray) = x := ⟨_, rfl⟩
  rw [hc4] at s4 z4 s3
  obtain ⟨c5, hc5⟩ : ∃ x, (⟨((((((headS r ++ [59, 32, 97, 58, 32]) ++ textS r.s0) ++ [59, 32, 98, 58, 32]) ++ textS r.s1) ++ [59, 32, 97, 99, 116, 105, 118, 101, 32])).toArray⟩ : ByteArray) = x := ⟨_, rfl⟩
  rw [hc5] at s5 z5 s4
  obtain ⟨c6, hc6⟩ : ∃ x, (⟨(((((((headS r ++ [59, 32, 97, 58, 32]) ++ textS r.s0) ++ [59, 32, 98, 58, 32]) ++ textS r.s1) ++ [59, 32, 97, 99, 116, 105, 118, 101, 32]) ++ nameOf r.act)).toArray⟩ : ByteArray) = x := ⟨_, rfl⟩
  rw [hc6] at s6 z6 s5
  obtain ⟨c7, hc7⟩ : ∃ x, (⟨((((((((headS r ++ [59, 32, 97, 58, 32]) ++ textS r.s0) ++ [59, 32, 98, 58, 32]) ++ textS r.s1) ++ [59, 32, 97, 99, 116, 105, 118, 101, 32]) ++ nameOf r.act) ++ [59, 32, 98, 111, 111, 116, 101, 100, 32])).toArray⟩ : ByteArray) = x := ⟨_, rfl⟩
  rw [hc7] at s7 z7 s6
  obtain ⟨c8, hc8⟩ : ∃ x, (⟨(((((((((headS r ++ [59, 32, 97, 58, 32]) ++ textS r.s0) ++ [59, 32, 98, 58, 32]) ++ textS r.s1) ++ [59, 32, 97, 99, 116, 105, 118, 101, 32]) ++ nameOf r.act) ++ [59, 32, 98, 111, 111, 116, 101, 100, 32]) ++ nameOf r.boo)).toArray⟩ : ByteArray) = x := ⟨_, rfl⟩
  rw [hc8] at s8 z8 s7
  obtain ⟨c9, hc9⟩ : ∃ x, (⟨((((((((((headS r ++ [59, 32, 97, 58, 32]) ++ textS r.s0) ++ [59, 32, 98, 58, 32]) ++ textS r.s1) ++ [59, 32, 97, 99, 116, 105, 118, 101, 32]) ++ nameOf r.act) ++ [59, 32, 98, 111, 111, 116, 101, 100, 32]) ++ nameOf r.boo) ++ [59, 32, 102, 108, 111, 111, 114, 32])).toArray⟩ : ByteArray) = x := ⟨_, rfl⟩
  rw [hc9] at s9 z9 s8
  obtain ⟨bX, hbX⟩ : ∃ x, (⟨X.toArray⟩ : ByteArray) = x := ⟨_, rfl⟩
  rw [hbX] at s9 ⊢
  obtain ⟨bt0, hbt0⟩ : ∃ x, (⟨(textS r.s0).toArray⟩ : ByteArray) = x := ⟨_, rfl⟩
  rw [hbt0] at s1 z1
  try simp only [hbt0] at kT0
  obtain ⟨bt1, hbt1⟩ : ∃ x, (⟨(textS r.s1).toArray⟩ : ByteArray) = x := ⟨_, rfl⟩
  rw [hbt1] at s3 z3
  try simp only [hbt1] at kT1
  obtain ⟨bna, hbna⟩ : ∃ x, (⟨(nameOf r.act).toArray⟩ : ByteArray) = x := ⟨_, rfl⟩
  rw [hbna] at s5 z5
  try simp only [hbna] at kNa
  obtain ⟨bnb, hbnb⟩ : ∃ x, (⟨(nameOf r.boo).toArray⟩ : ByteArray) = x := ⟨_, rfl⟩
  rw [hbnb] at s7 z7
  try simp only [hbnb] at kNb
  obtain ⟨bf, hbf⟩ : ∃ x, (⟨(Lib.decDigits r.flo.toNat).toArray⟩ : ByteArray) = x := ⟨_, rfl⟩
  rw [hbf] at s9 z9
  try simp only [hbf] at kF
  have A1 : Hid ((⟨#[106, 111, 98, 32]⟩ : ByteArray) ++ bj = b1) := Lib.hid a1
  have A2 : Hid (b1 ++ (⟨#[32]⟩ : ByteArray) = b2) := Lib.hid a2
  have D0 : Hid (c0 ++ (⟨#[59, 32, 97, 58, 32]⟩ : ByteArray) = c1) := Lib.hid s0
  have D1 : Hid (c1 ++ bt0 = c2) := Lib.hid s1
  have D2 : Hid (c2 ++ (⟨#[59, 32, 98, 58, 32]⟩ : ByteArray) = c3) := Lib.hid s2
  have D3 : Hid (c3 ++ bt1 = c4) := Lib.hid s3
  have D4 : Hid (c4 ++ (⟨#[59, 32, 97, 99, 116, 105, 118, 101, 32]⟩ : ByteArray) = c5) := Lib.hid s4
  have D5 : Hid (c5 ++ bna = c6) := Lib.hid s5
  have D6 : Hid (c6 ++ (⟨#[59, 32, 98, 111, 111, 116, 101, 100, 32]⟩ : ByteArray) = c7) := Lib.hid s6
  have D7 : Hid (c7 ++ bnb = c8) := Lib.hid s7
  have D8 : Hid (c8 ++ (⟨#[59, 32, 102, 108, 111, 111, 114, 32]⟩ : ByteArray) = c9) := Lib.hid s8
  have D9 : Hid (c9 ++ bf = bX) := Lib.hid s9
  have zA : ¬ (9223372036854775807 < 4 + bj.size) := by omega
  have zB : ¬ (9223372036854775807 < 4 + bj.size + 1) := by omega
  have hst5 := r.tab_end ok
  have htab := fun j (hj : j < r.tab.size) => Rp.tab_at r j
  have inf := tab_info r ok
  have one := r.tab_one
  have tsz := r.tab_size ok
  have ts0 := r.tab_s0 ok
  have ts1 := r.tab_s1 ok
  have is0 : (Tryd.prog.info? 39).map (·.size) = some r.s0.cells.toList.length := by rw [slot_info (s := r.s0) ok.s0.dig, Array.length_toList]
  have is1 : (Tryd.prog.info? 39).map (·.size) = some r.s1.cells.toList.length := by rw [slot_info (s := r.s1) ok.s1.dig, Array.length_toList]
  have hsf := stateOf.eq_1 r
  unfold Slt.val at kT0 kT1
  generalize r.cells = R at *
  generalize r.tab = T at *
  generalize r.s0.cells = C0 at *
  generalize r.s1.cells = C1 at *
  have sx : ∀ (b4 : Nat) (v : World) (L : List (Nat × Obj)), St W v I L → (b4, Obj.cells T 42 (0, 0)) ∈ L → (v.cell? ⟨b4, 72, none⟩ = some (.int .i64 r.act) ∧ v.cell? ⟨b4, 73, none⟩ = some (.int .i64 r.boo) ∧ v.cell? ⟨b4, 74, none⟩ = some (.int .u64 r.flo) ∧ v.rangeAt b4 0 C0.toList ∧ v.rangeAt b4 36 C1.toList) := fun b4 v L hv m2 => by
    have e2 := hv.cell (g := b4) (cs := T) (t := 42) (fr := (0, 0)) m2
    exact ⟨(e2 72).trans hst5.1, (e2 73).trans hst5.2.1, (e2 74).trans hst5.2.2, hv.rangeAt (g := b4) (cs := T) (t := 42) (fr := (0, 0)) m2 ts0, hv.rangeAt (g := b4) (cs := T) (t := 42) (fr := (0, 0)) m2 ts1⟩
  have hca : ∀ (v : World) (L : List (Nat × Obj)), St W v I L → (b + 1, Obj.cells R 44 (0, 0)) ∈ L → v.cell? ⟨b + 1, 2, none⟩ = some (.int .i64 r.state) ∧ v.cell? ⟨b + 1, 4, none⟩ = some (.int .i64 r.fault) := fun v L hv m1 => by
    have e1 := hv.cell (g := b + 1) (cs := R) (t := 44) (fr := (0, 0)) m1
    exact ⟨(e1 2).trans hrc.2.2.1, (e1 4).trans hrc.2.2.2.2⟩
  have FZ : Hid (0 + T.size ≤ (Tryd.zeroCells42).size) := Lib.hid (by rw [tsz]; decide)
  have MZ : Hid (setMany Tryd.zeroCells42 0 T.toList = T) := Lib.hid (setMany_whole _ _ (by rw [Array.length_toList, tsz]; rfl))
  have HUL := Lib.hid Tryd.underlying39
  have SX := Lib.hid sx; have HCA := Lib.hid hca; have INF := Lib.hid inf; have ONE := Lib.hid one; have HTAB := Lib.hid htab; have HM0 := Lib.hid is0; have HM1 := Lib.hid is1; have KK := Lib.hid kk; have KIF := Lib.hid kIf; have KT0 := Lib.hid kT0; have KT1 := Lib.hid kT1; have KNA := Lib.hid kNa; have KNB := Lib.hid kNb; have KF := Lib.hid kF; have HSF := Lib.hid hsf; have AS := Lib.hid aS
  rw [he] at q0
  clear sx hca inf one tsz htab is0 is1 kk kIf kT0 kT1 kNa kNb kF hsf aS hst5 ts0 ts1 hrc ok h hX hX2 hx KIE KIJ KN HX he heb  l1 l2 l3 m0 m1 m2 m3 m4 m5 a1 a2 q2 q3 q4 hbj hb1 hb2 hbX s0 s1 s2 s3 s4 s5 s6 s7 s8 s9 hc0 hc1 hc2 hc3 hc4 hc5 hc6 hc7 hc8 hc9 hbt0 hbt1 hbna hbnb hbf
  have e : stateOf r = [108, 105, 118, 101] := by rw [HSF.out, g]; rfl
  have aS := AS.out
  rw [e] at aS
  have G0 : Hid (b2 ++ (⟨#[108, 105, 118, 101]⟩ : ByteArray) = c0) := Lib.hid aS
  have zC : ¬ (9223372036854775807 < 4 + bj.size + 1 + 4) := by omega
  clear e aS AS HSF KIF
  go_enter Tryd.func31, Tryd.ntmps31
  go_wp2_with fail
  refine (KK.out _ _ H0.out).mono ?_
  rintro e w2 ⟨rfl, h2⟩
  obtain ⟨d2, d4⟩ := HCA.out _ _ h2 (by simp)
  rw [g] at d2
  have HY := Lib.hid h2
  clear h2 H0 KK
  have h4 := HY.out.alloc (.cells Tryd.zeroCells42 42)
  obtain ⟨b4, hb4⟩ : ∃ x, w2.heap.size = x := ⟨_, rfl⟩
  rw [hb4] at h4
  have H4 := Lib.hid h4
  clear h4
  go_wp2_with (first | (with_reducible refine wpList_load_st rfl 42 (.tmp 63) rfl (g := b + 1) (off := 5) rfl HY.out (cs := R) (t := 44) (fr := (0, 0)) (by simp) T HTAB.out _ Tryd.underlying42 rfl INF.out ?_) | (with_reducible refine wpList_store_st rfl 42 (.tmp 6) (.tmp 64) rfl (off := 0) T rfl rfl H4.out FZ.out INF.out ONE.out ?_; intro w5 h5; rw [MZ.out] at h5; have H5 := Lib.hid h5; clear h5))
  have hx := H5.out.drew1
  clear H4 HY
  refine wp_region_held_drew (S := fun v => (v.cell? ⟨b4, 72, none⟩ = some (.int .i64 r.act) ∧ v.cell? ⟨b4, 73, none⟩ = some (.int .i64 r.boo) ∧ v.cell? ⟨b4, 74, none⟩ = some (.int .u64 r.flo) ∧ v.rangeAt b4 0 C0.toList ∧ v.rangeAt b4 36 C1.toList)) (by kernel_rfl) (SX.out _ _ _ hx (by simp)) (fun hHeld => ?_)
  refine wpAnyH_take (i := 0) (oi := ?_) (v := ?_) ?_ ?_ ?_ ?_ ?_ ?_ ?_ ?_
  rotate_left 2
  · (simp only [List.getElem?_toArray, List.getElem?_cons_succ, List.getElem?_cons_zero]; exact rfl)
  · kernel_rfl
  · kernel_rfl
  · kernel_rfl
  · exact fun _ _ _ h => h
  · first | (refine Or.inl ⟨by rfl, ?_⟩; intro w hSw; (try dsimp only at hSw); go_simp; try with_reducible rfl) | (refine Or.inr ⟨by rfl, ?_⟩; rfl)
  · assumption
  try simp only [Act.put, List.setIfInBounds_toArray, List.set_cons_zero, List.set_cons_succ]
  try simp only [A1.out, A2.out, G0.out, D0.out, D1.out, D2.out, D3.out, D4.out, D5.out, D6.out, D7.out, D8.out, D9.out]
  refine wpAnyH_take (i := 1) (oi := ?_) (v := ?_) ?_ ?_ ?_ ?_ ?_ ?_ ?_ ?_
  rotate_left 2
  · (simp only [List.getElem?_toArray, List.getElem?_cons_succ, List.getElem?_cons_zero]; exact rfl)
  · kernel_rfl
  · kernel_rfl
  · kernel_rfl
  · exact fun _ _ _ h => h
  · first | (refine Or.inl ⟨by rfl, ?_⟩; intro w hSw; (try dsimp only at hSw); go_simp; try with_reducible rfl) | (refine Or.inr ⟨by rfl, ?_⟩; rfl)
  · assumption
  try simp only [Act.put, List.setIfInBounds_toArray, List.set_cons_zero, List.set_cons_succ]
  try simp only [A1.out, A2.out, G0.out, D0.out, D1.out, D2.out, D3.out, D4.out, D5.out, D6.out, D7.out, D8.out, D9.out]
  refine wpAnyH_take (i := 2) (oi := ?_) (v := ?_) ?_ ?_ ?_ ?_ ?_ ?_ ?_ ?_
  rotate_left 2
  · (simp only [List.getElem?_toArray, List.getElem?_cons_succ, List.getElem?_cons_zero]; exact rfl)
  · kernel_rfl
  · kernel_rfl
  · kernel_rfl
  · exact fun _ _ _ h => h
  · first | (refine Or.inl ⟨by rfl, ?_⟩; intro w hSw; (try dsimp only at hSw); go_simp; try with_reducible rfl) | (refine Or.inr ⟨by rfl, ?_⟩; rfl)
  · assumption
  try simp only [Act.put, List.setIfInBounds_toArray, List.set_cons_zero, List.set_cons_succ]
  try simp only [A1.out, A2.out, G0.out, D0.out, D1.out, D2.out, D3.out, D4.out, D5.out, D6.out, D7.out, D8.out, D9.out]
  refine wpAnyH_take (i := 3) (oi := ?_) (v := ?_) ?_ ?_ ?_ ?_ ?_ ?_ ?_ ?_
  rotate_left 2
  · (simp only [List.getElem?_toArray, List.getElem?_cons_succ, List.getElem?_cons_zero]; exact rfl)
  · kernel_rfl
  · kernel_rfl
  · kernel_rfl
  · exact fun _ _ _ h => h
  · first | (refine Or.inl ⟨by rfl, ?_⟩; intro w hSw; (try dsimp only at hSw); go_simp; try with_reducible rfl) | (refine Or.inr ⟨by rfl, ?_⟩; rfl)
  · assumption
  try simp only [Act.put, List.setIfInBounds_toArray, List.set_cons_zero, List.set_cons_succ]
  try simp only [A1.out, A2.out, G0.out, D0.out, D1.out, D2.out, D3.out, D4.out, D5.out, D6.out, D7.out, D8.out, D9.out]
  refine wpAnyH_take (i := 4) (oi := ?_) (v := ?_) ?_ ?_ ?_ ?_ ?_ ?_ ?_ ?_
  rotate_left 2
  · (simp only [List.getElem?_toArray, List.getElem?_cons_succ, List.getElem?_cons_zero]; exact rfl)
  · kernel_rfl
  · kernel_rfl
  · kernel_rfl
  · exact fun _ _ _ h => h
  · first | (first | ((refine yieldsIf_load_mid ?_ 39 (.tmp 68) ?_ b4 0 ?_ C0.toList _ ?_ HUL.out ?_ HM0.out) <;> first | rfl | exact fun w h => h.2.2.2.1) | ((refine yieldsIf_load_mid ?_ 39 (.tmp 74) ?_ b4 36 ?_ C1.toList _ ?_ HUL.out ?_ HM1.out) <;> first | rfl | exact fun w h => h.2.2.2.2) | (refine Or.inl ⟨by rfl, ?_⟩; intro w hSw; obtain ⟨hS2, hS3, hS4, hS5, hS6⟩ := hSw; go_simp; try with_reducible rfl)) | (refine Or.inr ⟨by rfl, ?_⟩; rfl)
  · assumption
  try simp only [Act.put, List.setIfInBounds_toArray, List.set_cons_zero, List.set_cons_succ]
  try simp only [A1.out, A2.out, G0.out, D0.out, D1.out, D2.out, D3.out, D4.out, D5.out, D6.out, D7.out, D8.out, D9.out]
  refine wpAnyH_take (i := 8) (oi := ?_) (v := ?_) ?_ ?_ ?_ ?_ ?_ ?_ ?_ ?_
  rotate_left 2
  · (simp only [List.getElem?_toArray, List.getElem?_cons_succ, List.getElem?_cons_zero]; exact rfl)
  · kernel_rfl
  · kernel_rfl
  · kernel_rfl
  · exact fun _ _ _ h => h
  · first | (refine Or.inl ⟨by rfl, ?_⟩; intro w hSw; (try dsimp only at hSw); go_simp; try with_reducible rfl) | (refine Or.inr ⟨by rfl, ?_⟩; rfl)
  · assumption
  try simp only [Act.put, List.setIfInBounds_toArray, List.set_cons_zero, List.set_cons_succ]
  try simp only [A1.out, A2.out, G0.out, D0.out, D1.out, D2.out, D3.out, D4.out, D5.out, D6.out, D7.out, D8.out, D9.out]
  refine wpAnyH_take (i := 9) (oi := ?_) (v := ?_) ?_ ?_ ?_ ?_ ?_ ?_ ?_ ?_
  rotate_left 2
  · (simp only [List.getElem?_toArray, List.getElem?_cons_succ, List.getElem?_cons_zero]; exact rfl)
  · kernel_rfl
  · kernel_rfl
  · kernel_rfl
  · exact fun _ _ _ h => h
  · first | (refine Or.inl ⟨by rfl, ?_⟩; intro w hSw; (try dsimp only at hSw); go_simp; try with_reducible rfl) | (refine Or.inr ⟨by rfl, ?_⟩; rfl)
  · assumption
  try simp only [Act.put, List.setIfInBounds_toArray, List.set_cons_zero, List.set_cons_succ]
  try simp only [A1.out, A2.out, G0.out, D0.out, D1.out, D2.out, D3.out, D4.out, D5.out, D6.out, D7.out, D8.out, D9.out]
  refine wpAnyH_take (i := 10) (oi := ?_) (v := ?_) ?_ ?_ ?_ ?_ ?_ ?_ ?_ ?_
  rotate_left 2
  · (simp only [List.getElem?_toArray, List.getElem?_cons_succ, List.getElem?_cons_zero]; exact rfl)
  · kernel_rfl
  · kernel_rfl
  · kernel_rfl
  · exact fun _ _ _ h => h
  · first | (first | ((refine yieldsIf_load_mid ?_ 39 (.tmp 68) ?_ b4 0 ?_ C0.toList _ ?_ HUL.out ?_ HM0.out) <;> first | rfl | exact fun w h => h.2.2.2.1) | ((refine yieldsIf_load_mid ?_ 39 (.tmp 74) ?_ b4 36 ?_ C1.toList _ ?_ HUL.out ?_ HM1.out) <;> first | rfl | exact fun w h => h.2.2.2.2) | (refine Or.inl ⟨by rfl, ?_⟩; intro w hSw; obtain ⟨hS2, hS3, hS4, hS5, hS6⟩ := hSw; go_simp; try with_reducible rfl)) | (refine Or.inr ⟨by rfl, ?_⟩; rfl)
  · assumption
  try simp only [Act.put, List.setIfInBounds_toArray, List.set_cons_zero, List.set_cons_succ]
  try simp only [A1.out, A2.out, G0.out, D0.out, D1.out, D2.out, D3.out, D4.out, D5.out, D6.out, D7.out, D8.out, D9.out]
  refine wpAnyH_take (i := 14) (oi := ?_) (v := ?_) ?_ ?_ ?_ ?_ ?_ ?_ ?_ ?_
  rotate_left 2
  · (simp only [List.getElem?_toArray, List.getElem?_cons_succ, List.getElem?_cons_zero]; exact rfl)
  · kernel_rfl
  · kernel_rfl
  · kernel_rfl
  · exact fun _ _ _ h => h
  · first | (refine Or.inl ⟨by rfl, ?_⟩; intro w hSw; (try dsimp only at hSw); go_simp; try with_reducible rfl) | (refine Or.inr ⟨by rfl, ?_⟩; rfl)
  · assumption
  try simp only [Act.put, List.setIfInBounds_toArray, List.set_cons_zero, List.set_cons_succ]
  try simp only [A1.out, A2.out, G0.out, D0.out, D1.out, D2.out, D3.out, D4.out, D5.out, D6.out, D7.out, D8.out, D9.out]
  refine wpAnyH_take (i := 15) (oi := ?_) (v := ?_) ?_ ?_ ?_ ?_ ?_ ?_ ?_ ?_
  rotate_left 2
  · (simp only [List.getElem?_toArray, List.getElem?_cons_succ, List.getElem?_cons_zero]; exact rfl)
  · kernel_rfl
  · kernel_rfl
  · kernel_rfl
  · exact fun _ _ _ h => h
  · first | (first | ((refine yieldsIf_load_mid ?_ 39 (.tmp 68) ?_ b4 0 ?_ C0.toList _ ?_ HUL.out ?_ HM0.out) <;> first | rfl | exact fun w h => h.2.2.2.1) | ((refine yieldsIf_load_mid ?_ 39 (.tmp 74) ?_ b4 36 ?_ C1.toList _ ?_ HUL.out ?_ HM1.out) <;> first | rfl | exact fun w h => h.2.2.2.2) | (refine Or.inl ⟨by rfl, ?_⟩; intro w hSw; obtain ⟨hS2, hS3, hS4, hS5, hS6⟩ := hSw; go_simp; try with_reducible rfl)) | (refine Or.inr ⟨by rfl, ?_⟩; rfl)
  · assumption
  try simp only [Act.put, List.setIfInBounds_toArray, List.set_cons_zero, List.set_cons_succ]
  try simp only [A1.out, A2.out, G0.out, D0.out, D1.out, D2.out, D3.out, D4.out, D5.out, D6.out, D7.out, D8.out, D9.out]
  refine wpAnyH_take (i := 19) (oi := ?_) (v := ?_) ?_ ?_ ?_ ?_ ?_ ?_ ?_ ?_
  rotate_left 2
  · (simp only [List.getElem?_toArray, List.getElem?_cons_succ, List.getElem?_cons_zero]; exact rfl)
  · kernel_rfl
  · kernel_rfl
  · kernel_rfl
  · exact fun _ _ _ h => h
  · first | (refine Or.inl ⟨by rfl, ?_⟩; intro w hSw; (try dsimp only at hSw); go_simp; try with_reducible rfl) | (refine Or.inr ⟨by rfl, ?_⟩; rfl)
  · assumption
  try simp only [Act.put, List.setIfInBounds_toArray, List.set_cons_zero, List.set_cons_succ]
  try simp only [A1.out, A2.out, G0.out, D0.out, D1.out, D2.out, D3.out, D4.out, D5.out, D6.out, D7.out, D8.out, D9.out]
  refine wpAnyH_take (i := 20) (oi := ?_) (v := ?_) ?_ ?_ ?_ ?_ ?_ ?_ ?_ ?_
  rotate_left 2
  · (simp only [List.getElem?_toArray, List.getElem?_cons_succ, List.getElem?_cons_zero]; exact rfl)
  · kernel_rfl
  · kernel_rfl
  · kernel_rfl
  · exact fun _ _ _ h => h
  · first | (first | ((refine yieldsIf_load_mid ?_ 39 (.tmp 68) ?_ b4 0 ?_ C0.toList _ ?_ HUL.out ?_ HM0.out) <;> first | rfl | exact fun w h => h.2.2.2.1) | ((refine yieldsIf_load_mid ?_ 39 (.tmp 74) ?_ b4 36 ?_ C1.toList _ ?_ HUL.out ?_ HM1.out) <;> first | rfl | exact fun w h => h.2.2.2.2) | (refine Or.inl ⟨by rfl, ?_⟩; intro w hSw; obtain ⟨hS2, hS3, hS4, hS5, hS6⟩ := hSw; go_simp; try with_reducible rfl)) | (refine Or.inr ⟨by rfl, ?_⟩; rfl)
  · assumption
  try simp only [Act.put, List.setIfInBounds_toArray, List.set_cons_zero, List.set_cons_succ]
  try simp only [A1.out, A2.out, G0.out, D0.out, D1.out, D2.out, D3.out, D4.out, D5.out, D6.out, D7.out, D8.out, D9.out]
  refine wpAnyH_take (i := 24) (oi := ?_) (v := ?_) ?_ ?_ ?_ ?_ ?_ ?_ ?_ ?_
  rotate_left 2
  · (simp only [List.getElem?_toArray, List.getElem?_cons_succ, List.getElem?_cons_zero]; exact rfl)
  · kernel_rfl
  · kernel_rfl
  · kernel_rfl
  · exact fun _ _ _ h => h
  · first | (refine Or.inl ⟨by rfl, ?_⟩; intro w hSw; (try dsimp only at hSw); go_simp; try with_reducible rfl) | (refine Or.inr ⟨by rfl, ?_⟩; rfl)
  · assumption
  try simp only [Act.put, List.setIfInBounds_toArray, List.set_cons_zero, List.set_cons_succ]
  try simp only [A1.out, A2.out, G0.out, D0.out, D1.out, D2.out, D3.out, D4.out, D5.out, D6.out, D7.out, D8.out, D9.out]
  refine wpAnyH_take (i := 25) (oi := ?_) (v := ?_) ?_ ?_ ?_ ?_ ?_ ?_ ?_ ?_
  rotate_left 2
  · (simp only [List.getElem?_toArray, List.getElem?_cons_succ, List.getElem?_cons_zero]; exact rfl)
  · kernel_rfl
  · kernel_rfl
  · kernel_rfl
  · exact fun _ _ _ h => h
  · first | (first | ((refine yieldsIf_load_mid ?_ 39 (.tmp 68) ?_ b4 0 ?_ C0.toList _ ?_ HUL.out ?_ HM0.out) <;> first | rfl | exact fun w h => h.2.2.2.1) | ((refine yieldsIf_load_mid ?_ 39 (.tmp 74) ?_ b4 36 ?_ C1.toList _ ?_ HUL.out ?_ HM1.out) <;> first | rfl | exact fun w h => h.2.2.2.2) | (refine Or.inl ⟨by rfl, ?_⟩; intro w hSw; obtain ⟨hS2, hS3, hS4, hS5, hS6⟩ := hSw; go_simp; try with_reducible rfl)) | (refine Or.inr ⟨by rfl, ?_⟩; rfl)
  · assumption
  try simp only [Act.put, List.setIfInBounds_toArray, List.set_cons_zero, List.set_cons_succ]
  try simp only [A1.out, A2.out, G0.out, D0.out, D1.out, D2.out, D3.out, D4.out, D5.out, D6.out, D7.out, D8.out, D9.out]
  refine wpAnyH_ready (rs := [5]) (by kernel_rfl) (by simp) ?_
  refine AllReadyH.cons (o := ?_) ?_ (fun K hK => ?_) ?_
  rotate_left 1
  · (simp only [List.getElem?_toArray, List.getElem?_cons_succ, List.getElem?_cons_zero]; exact rfl)
  · go_simp
    ((first | (go_at_call 47; (with_reducible refine (KT0.out _ _ hx).mono ?_); rintro e wx ⟨rfl, hx⟩; dsimp only) | (go_at_call 47; (with_reducible refine (KT1.out _ _ hx).mono ?_); rintro e wx ⟨rfl, hx⟩; dsimp only) | (go_at_call 46; (with_reducible refine (KNA.out _ _ hx).mono ?_); rintro e wx ⟨rfl, hx⟩; dsimp only) | (go_at_call 46; (with_reducible refine (KNB.out _ _ hx).mono ?_); rintro e wx ⟨rfl, hx⟩; dsimp only) | (go_at_call 48; (with_reducible refine (KF.out _ _ hx).mono ?_); rintro e wx ⟨rfl, hx⟩; dsimp only)))
    refine hK.out _ _ ?_ (fun hHeld => ?_)
    · (try dsimp only) <;> (exact SX.out _ _ _ hx (by simp))
    clear hK K
    try simp only [Act.put, List.setIfInBounds_toArray, List.set_cons_zero, List.set_cons_succ]
    try simp only [A1.out, A2.out, G0.out, D0.out, D1.out, D2.out, D3.out, D4.out, D5.out, D6.out, D7.out, D8.out, D9.out]
    refine wpAnyH_take (i := 6) (oi := ?_) (v := ?_) ?_ ?_ ?_ ?_ ?_ ?_ ?_ ?_
    rotate_left 2
    · (simp only [List.getElem?_toArray, List.getElem?_cons_succ, List.getElem?_cons_zero]; exact rfl)
    · kernel_rfl
    · kernel_rfl
    · kernel_rfl
    · exact fun _ _ _ h => h
    · first | (refine Or.inl ⟨by rfl, ?_⟩; intro w hSw; (try dsimp only at hSw); go_simp; try with_reducible rfl) | (refine Or.inr ⟨by rfl, ?_⟩; rfl)
    · assumption
    try simp only [Act.put, List.setIfInBounds_toArray, List.set_cons_zero, List.set_cons_succ]
    try simp only [A1.out, A2.out, G0.out, D0.out, D1.out, D2.out, D3.out, D4.out, D5.out, D6.out, D7.out, D8.out, D9.out]
    refine wpAnyH_take (i := 7) (oi := ?_) (v := ?_) ?_ ?_ ?_ ?_ ?_ ?_ ?_ ?_
    rotate_left 2
    · (simp only [List.getElem?_toArray, List.getElem?_cons_succ, List.getElem?_cons_zero]; exact rfl)
    · kernel_rfl
    · kernel_rfl
    · kernel_rfl
    · exact fun _ _ _ h => h
    · first | (refine Or.inl ⟨by rfl, ?_⟩; intro w hSw; (try dsimp only at hSw); go_simp; try with_reducible rfl) | (refine Or.inr ⟨by rfl, ?_⟩; rfl)
    · assumption
    try simp only [Act.put, List.setIfInBounds_toArray, List.set_cons_zero, List.set_cons_succ]
    try simp only [A1.out, A2.out, G0.out, D0.out, D1.out, D2.out, D3.out, D4.out, D5.out, D6.out, D7.out, D8.out, D9.out]
    refine wpAnyH_ready (rs := [11]) (by kernel_rfl) (by simp) ?_
    refine AllReadyH.cons (o := ?_) ?_ (fun K hK => ?_) ?_
    rotate_left 1
    · (simp only [List.getElem?_toArray, List.getElem?_cons_succ, List.getElem?_cons_zero]; exact rfl)
    · go_simp
      ((first | (go_at_call 47; (with_reducible refine (KT0.out _ _ hx).mono ?_); rintro e wx ⟨rfl, hx⟩; dsimp only) | (go_at_call 47; (with_reducible refine (KT1.out _ _ hx).mono ?_); rintro e wx ⟨rfl, hx⟩; dsimp only) | (go_at_call 46; (with_reducible refine (KNA.out _ _ hx).mono ?_); rintro e wx ⟨rfl, hx⟩; dsimp only) | (go_at_call 46; (with_reducible refine (KNB.out _ _ hx).mono ?_); rintro e wx ⟨rfl, hx⟩; dsimp only) | (go_at_call 48; (with_reducible refine (KF.out _ _ hx).mono ?_); rintro e wx ⟨rfl, hx⟩; dsimp only)))
      refine hK.out _ _ ?_ (fun hHeld => ?_)
      · (try dsimp only) <;> (exact SX.out _ _ _ hx (by simp))
      clear hK K
      try simp only [Act.put, List.setIfInBounds_toArray, List.set_cons_zero, List.set_cons_succ]
      try simp only [A1.out, A2.out, G0.out, D0.out, D1.out, D2.out, D3.out, D4.out, D5.out, D6.out, D7.out, D8.out, D9.out]
      refine wpAnyH_take (i := 12) (oi := ?_) (v := ?_) ?_ ?_ ?_ ?_ ?_ ?_ ?_ ?_
      rotate_left 2
      · (simp only [List.getElem?_toArray, List.getElem?_cons_succ, List.getElem?_cons_zero]; exact rfl)
      · kernel_rfl
      · kernel_rfl
      · kernel_rfl
      · exact fun _ _ _ h => h
      · first | (refine Or.inl ⟨by rfl, ?_⟩; intro w hSw; (try dsimp only at hSw); go_simp; try with_reducible rfl) | (refine Or.inr ⟨by rfl, ?_⟩; rfl)
      · assumption
      try simp only [Act.put, List.setIfInBounds_toArray, List.set_cons_zero, List.set_cons_succ]
      try simp only [A1.out, A2.out, G0.out, D0.out, D1.out, D2.out, D3.out, D4.out, D5.out, D6.out, D7.out, D8.out, D9.out]
      refine wpAnyH_take (i := 13) (oi := ?_) (v := ?_) ?_ ?_ ?_ ?_ ?_ ?_ ?_ ?_
      rotate_left 2
      · (simp only [List.getElem?_toArray, List.getElem?_cons_succ, List.getElem?_cons_zero]; exact rfl)
      · kernel_rfl
      · kernel_rfl
      · kernel_rfl
      · exact fun _ _ _ h => h
      · first | (refine Or.inl ⟨by rfl, ?_⟩; intro w hSw; (try dsimp only at hSw); go_simp; try with_reducible rfl) | (refine Or.inr ⟨by rfl, ?_⟩; rfl)
      · assumption
      try simp only [Act.put, List.setIfInBounds_toArray, List.set_cons_zero, List.set_cons_succ]
      try simp only [A1.out, A2.out, G0.out, D0.out, D1.out, D2.out, D3.out, D4.out, D5.out, D6.out, D7.out, D8.out, D9.out]
      refine wpAnyH_ready (rs := [16]) (by kernel_rfl) (by simp) ?_
      refine AllReadyH.cons (o := ?_) ?_ (fun K hK => ?_) ?_
      rotate_left 1
      · (simp only [List.getElem?_toArray, List.getElem?_cons_succ, List.getElem?_cons_zero]; exact rfl)
      · go_simp
        ((first | (go_at_call 47; (with_reducible refine (KT0.out _ _ hx).mono ?_); rintro e wx ⟨rfl, hx⟩; dsimp only) | (go_at_call 47; (with_reducible refine (KT1.out _ _ hx).mono ?_); rintro e wx ⟨rfl, hx⟩; dsimp only) | (go_at_call 46; (with_reducible refine (KNA.out _ _ hx).mono ?_); rintro e wx ⟨rfl, hx⟩; dsimp only) | (go_at_call 46; (with_reducible refine (KNB.out _ _ hx).mono ?_); rintro e wx ⟨rfl, hx⟩; dsimp only) | (go_at_call 48; (with_reducible refine (KF.out _ _ hx).mono ?_); rintro e wx ⟨rfl, hx⟩; dsimp only)))
        refine hK.out _ _ ?_ (fun hHeld => ?_)
        · (try dsimp only) <;> (exact SX.out _ _ _ hx (by simp))
        clear hK K
        try simp only [Act.put, List.setIfInBounds_toArray, List.set_cons_zero, List.set_cons_succ]
        try simp only [A1.out, A2.out, G0.out, D0.out, D1.out, D2.out, D3.out, D4.out, D5.out, D6.out, D7.out, D8.out, D9.out]
        refine wpAnyH_take (i := 17) (oi := ?_) (v := ?_) ?_ ?_ ?_ ?_ ?_ ?_ ?_ ?_
        rotate_left 2
        · (simp only [List.getElem?_toArray, List.getElem?_cons_succ, List.getElem?_cons_zero]; exact rfl)
        · kernel_rfl
        · kernel_rfl
        · kernel_rfl
        · exact fun _ _ _ h => h
        · first | (refine Or.inl ⟨by rfl, ?_⟩; intro w hSw; (try dsimp only at hSw); go_simp; try with_reducible rfl) | (refine Or.inr ⟨by rfl, ?_⟩; rfl)
        · assumption
        try simp only [Act.put, List.setIfInBounds_toArray, List.set_cons_zero, List.set_cons_succ]
        try simp only [A1.out, A2.out, G0.out, D0.out, D1.out, D2.out, D3.out, D4.out, D5.out, D6.out, D7.out, D8.out, D9.out]
        refine wpAnyH_take (i := 18) (oi := ?_) (v := ?_) ?_ ?_ ?_ ?_ ?_ ?_ ?_ ?_
        rotate_left 2
        · (simp only [List.getElem?_toArray, List.getElem?_cons_succ, List.getElem?_cons_zero]; exact rfl)
        · kernel_rfl
        · kernel_rfl
        · kernel_rfl
        · exact fun _ _ _ h => h
        · first | (refine Or.inl ⟨by rfl, ?_⟩; intro w hSw; (try dsimp only at hSw); go_simp; try with_reducible rfl) | (refine Or.inr ⟨by rfl, ?_⟩; rfl)
        · assumption
        try simp only [Act.put, List.setIfInBounds_toArray, List.set_cons_zero, List.set_cons_succ]
        try simp only [A1.out, A2.out, G0.out, D0.out, D1.out, D2.out, D3.out, D4.out, D5.out, D6.out, D7.out, D8.out, D9.out]
        refine wpAnyH_ready (rs := [21]) (by kernel_rfl) (by simp) ?_
        refine AllReadyH.cons (o := ?_) ?_ (fun K hK => ?_) ?_
        rotate_left 1
        · (simp only [List.getElem?_toArray, List.getElem?_cons_succ, List.getElem?_cons_zero]; exact rfl)
        · go_simp
          ((first | (go_at_call 47; (with_reducible refine (KT0.out _ _ hx).mono ?_); rintro e wx ⟨rfl, hx⟩; dsimp only) | (go_at_call 47; (with_reducible refine (KT1.out _ _ hx).mono ?_); rintro e wx ⟨rfl, hx⟩; dsimp only) | (go_at_call 46; (with_reducible refine (KNA.out _ _ hx).mono ?_); rintro e wx ⟨rfl, hx⟩; dsimp only) | (go_at_call 46; (with_reducible refine (KNB.out _ _ hx).mono ?_); rintro e wx ⟨rfl, hx⟩; dsimp only) | (go_at_call 48; (with_reducible refine (KF.out _ _ hx).mono ?_); rintro e wx ⟨rfl, hx⟩; dsimp only)))
          refine hK.out _ _ ?_ (fun hHeld => ?_)
          · (try dsimp only) <;> (exact SX.out _ _ _ hx (by simp))
          clear hK K
          try simp only [Act.put, List.setIfInBounds_toArray, List.set_cons_zero, List.set_cons_succ]
          try simp only [A1.out, A2.out, G0.out, D0.out, D1.out, D2.out, D3.out, D4.out, D5.out, D6.out, D7.out, D8.out, D9.out]
          refine wpAnyH_take (i := 22) (oi := ?_) (v := ?_) ?_ ?_ ?_ ?_ ?_ ?_ ?_ ?_
          rotate_left 2
          · (simp only [List.getElem?_toArray, List.getElem?_cons_succ, List.getElem?_cons_zero]; exact rfl)
          · kernel_rfl
          · kernel_rfl
          · kernel_rfl
          · exact fun _ _ _ h => h
          · first | (refine Or.inl ⟨by rfl, ?_⟩; intro w hSw; (try dsimp only at hSw); go_simp; try with_reducible rfl) | (refine Or.inr ⟨by rfl, ?_⟩; rfl)
          · assumption
          try simp only [Act.put, List.setIfInBounds_toArray, List.set_cons_zero, List.set_cons_succ]
          try simp only [A1.out, A2.out, G0.out, D0.out, D1.out, D2.out, D3.out, D4.out, D5.out, D6.out, D7.out, D8.out, D9.out]
          refine wpAnyH_take (i := 23) (oi := ?_) (v := ?_) ?_ ?_ ?_ ?_ ?_ ?_ ?_ ?_
          rotate_left 2
          · (simp only [List.getElem?_toArray, List.getElem?_cons_succ, List.getElem?_cons_zero]; exact rfl)
          · kernel_rfl
          · kernel_rfl
          · kernel_rfl
          · exact fun _ _ _ h => h
          · first | (refine Or.inl ⟨by rfl, ?_⟩; intro w hSw; (try dsimp only at hSw); go_simp; try with_reducible rfl) | (refine Or.inr ⟨by rfl, ?_⟩; rfl)
          · assumption
          try simp only [Act.put, List.setIfInBounds_toArray, List.set_cons_zero, List.set_cons_succ]
          try simp only [A1.out, A2.out, G0.out, D0.out, D1.out, D2.out, D3.out, D4.out, D5.out, D6.out, D7.out, D8.out, D9.out]
          refine wpAnyH_ready (rs := [26]) (by kernel_rfl) (by simp) ?_
          refine AllReadyH.cons (o := ?_) ?_ (fun K hK => ?_) ?_
          rotate_left 1
          · (simp only [List.getElem?_toArray, List.getElem?_cons_succ, List.getElem?_cons_zero]; exact rfl)
          · go_simp
            ((first | (go_at_call 47; (with_reducible refine (KT0.out _ _ hx).mono ?_); rintro e wx ⟨rfl, hx⟩; dsimp only) | (go_at_call 47; (with_reducible refine (KT1.out _ _ hx).mono ?_); rintro e wx ⟨rfl, hx⟩; dsimp only) | (go_at_call 46; (with_reducible refine (KNA.out _ _ hx).mono ?_); rintro e wx ⟨rfl, hx⟩; dsimp only) | (go_at_call 46; (with_reducible refine (KNB.out _ _ hx).mono ?_); rintro e wx ⟨rfl, hx⟩; dsimp only) | (go_at_call 48; (with_reducible refine (KF.out _ _ hx).mono ?_); rintro e wx ⟨rfl, hx⟩; dsimp only)))
            refine hK.out _ _ ?_ (fun hHeld => ?_)
            · (try dsimp only) <;> (exact SX.out _ _ _ hx (by simp))
            clear hK K
            try simp only [Act.put, List.setIfInBounds_toArray, List.set_cons_zero, List.set_cons_succ]
            try simp only [A1.out, A2.out, G0.out, D0.out, D1.out, D2.out, D3.out, D4.out, D5.out, D6.out, D7.out, D8.out, D9.out]
            refine wpAnyH_take (i := 27) (oi := ?_) (v := ?_) ?_ ?_ ?_ ?_ ?_ ?_ ?_ ?_
            rotate_left 2
            · (simp only [List.getElem?_toArray, List.getElem?_cons_succ, List.getElem?_cons_zero]; exact rfl)
            · kernel_rfl
            · kernel_rfl
            · kernel_rfl
            · exact fun _ _ _ h => h
            · first | (refine Or.inl ⟨by rfl, ?_⟩; intro w hSw; (try dsimp only at hSw); go_simp; try with_reducible rfl) | (refine Or.inr ⟨by rfl, ?_⟩; rfl)
            · assumption
            try simp only [Act.put, List.setIfInBounds_toArray, List.set_cons_zero, List.set_cons_succ]
            try simp only [A1.out, A2.out, G0.out, D0.out, D1.out, D2.out, D3.out, D4.out, D5.out, D6.out, D7.out, D8.out, D9.out]
            refine wpAnyH_take (i := 28) (oi := ?_) (v := ?_) ?_ ?_ ?_ ?_ ?_ ?_ ?_ ?_
            rotate_left 2
            · (simp only [List.getElem?_toArray, List.getElem?_cons_succ, List.getElem?_cons_zero]; exact rfl)
            · kernel_rfl
            · kernel_rfl
            · kernel_rfl
            · exact fun _ _ _ h => h
            · first | (refine Or.inl ⟨by rfl, ?_⟩; intro w hSw; (try dsimp only at hSw); go_simp; try with_reducible rfl) | (refine Or.inr ⟨by rfl, ?_⟩; rfl)
            · assumption
            try simp only [Act.put, List.setIfInBounds_toArray, List.set_cons_zero, List.set_cons_succ]
            try simp only [A1.out, A2.out, G0.out, D0.out, D1.out, D2.out, D3.out, D4.out, D5.out, D6.out, D7.out, D8.out, D9.out]
            refine wpAnyH_done (by kernel_rfl) ?_ _
            (have HZ := Lib.hid hx; clear hx SX; go_wp2_with fail; go_ret; exact ⟨rfl, St.weaken (A := [_, _, _]) HZ.out⟩)
          exact AllReadyH.nil
        exact AllReadyH.nil
      exact AllReadyH.nil
    exact AllReadyH.nil
  exact AllReadyH.nil
end
end Go.Proofs.YtjcekmmieihllaaDoor
