/- CallNames: the walk of the law. -/
import Derived.Test.YtjcekmmieihllaaDoorLct
namespace Go.Proofs.YtjcekmmieihllaaDoor
set_option linter.unusedVariables false
set_option linter.unusedSimpArgs false
set_option linter.unnecessarySimpa false
open Go.RowKit Go.Lib

theorem parse_empty : parseC ⟨#[]⟩ = (zC, 241) := by
  rcases parse_case ⟨#[]⟩ (by decide) with ⟨x, -, hr, ht, -, -⟩ | h
  · exfalso
    have h1 : (textC x).toArray = #[] := congrArg ByteArray.data ht
    have h2 : textC x = [] := by simpa using h1
    unfold textC at h2
    rw [if_pos hr] at h2
    simp at h2
  · exact h
def nC (a b d : Int) : Cl := ⟨a, b, 0, d, empB⟩
theorem nC_ok (a b d : Int) (ha : 0 ≤ a ∧ a ≤ 1000) (hb : 0 ≤ b ∧ b ≤ 1000) (hd : 0 ≤ d ∧ d ≤ 1000) : (nC a b d).Ok := ⟨by show -9223372036854775808 ≤ a; omega, by show a ≤ _; omega, by show -9223372036854775808 ≤ b; omega, by show b ≤ _; omega, by show -9223372036854775808 ≤ (0 : Int); omega, by show (0 : Int) ≤ _; omega, by show -9223372036854775808 ≤ d; omega, by show d ≤ _; omega, by show empB.size ≤ _; decide⟩
theorem nC_right (a b : Int) (ha : 0 ≤ a ∧ a ≤ 7) (hb : b = 3 ∨ b = 6) : rightC (nC a b 0) = true := by
  obtain ⟨a0, a1⟩ := ha
  unfold rightC nC
  rcases hb with rfl | rfl <;> simp [emp_empB, a0, a1]
def pn2 : Pn := ⟨nC 1 3 0, 1, 1, zR⟩
theorem ok2 {p : Pn} (h : p.Ok) : AllOk [zP, p] := fun q hq => by
  simp only [List.mem_cons, List.not_mem_nil, or_false] at hq
  rcases hq with rfl | rfl
  · exact zP_ok
  · exact h
theorem pn2_ok : pn2.Ok := ⟨nC_ok 1 3 0 (by decide) (by decide) (by decide), zR_ok, by show empB.size ≤ 1000000; decide⟩
theorem nm1 : askD [zP, zP] 0 (nC 2 3 0) = (([zP, zP], 0), (0, 242)) := by
  unfold askD
  rw [if_pos (nC_right 2 3 (by decide) (by decide))]
  rfl
theorem nm2 : askD [zP, zP] 0 (nC 1 3 1) = (([zP, zP], 0), (0, 241)) := by
  unfold askD
  rw [if_neg (by unfold rightC nC; simp)]
theorem nm3 : askD [zP, zP] 0 (nC 1 3 0) = (([zP, pn2], 1), (1, 0)) := by
  unfold askD
  rw [if_pos (nC_right 1 3 (by decide) (by decide))]
  rfl
theorem nm4 : askD [zP, pn2] 1 (nC 1 6 0) = (([zP, pn2], 1), (0, 242)) := by
  unfold askD
  rw [if_pos (nC_right 1 6 (by decide) (by decide))]
  rfl
set_option maxRecDepth 100000 in
set_option maxHeartbeats 16000000 in
theorem walk_callNames (W : World) (cv : CV0 W) : Calls Tryd.prog 5 #[] W fun e w' => e = .returned (.bool true) ∧ Below W.heap.size W w' := by
  have h0 := St.start W
  have kA := call_alive cv (fun J k => cv.more k) h0
  have kP : ∀ (v : World) (F : List (Nat × Obj)), St W v (fun b => W.heap[b]?) F → Calls Tryd.prog 14 #[.string ⟨#[]⟩] v fun e w' => e = .returned (.tuple #[.agg #[Value.int .i64 0, .int .i64 0, .int .i64 0, .int .i64 0, .string ⟨#[]⟩], .int .i64 241]) ∧ St W w' (fun b => W.heap[b]?) F := fun v F hv => by
    have h := call_parse cv (fun J k => cv.more k) ⟨#[]⟩ (by decide) hv
    rw [parse_empty] at h
    exact h
  have kN := fun (v : World) (F : List (Nat × Obj)) (hv : St W v (fun b => W.heap[b]?) F) => desk_new 2 2 (by decide) hv
  have k1 : ∀ (v : World) (gd gc : Nat) (F : List (Nat × Obj)), St W v (fun b => W.heap[b]?) (DeskL gd gc [zP, zP] 0 ++ F) → Calls Tryd.prog 17 #[.pointer (some ⟨gd, 0, none⟩), .agg #[Value.int .i64 2, .int .i64 3, .int .i64 0, .int .i64 0, .string ⟨#[]⟩]] v fun e w' => e = .returned (.tuple #[.int .i64 0, .int .i64 242]) ∧ St W w' (fun b => W.heap[b]?) (DeskL gd gc [zP, zP] 0 ++ F) := fun v gd gc F hv => by
    have h := desk_ask cv.t cv.t4 (ok2 zP_ok) (by decide) (by decide) (by decide) (nC 2 3 0) (nC_ok 2 3 0 (by decide) (by decide) (by decide)) (by show empB.size ≤ 1000000; decide) hv
    rw [nm1] at h
    exact h
  have k2 : ∀ (v : World) (gd gc : Nat) (F : List (Nat × Obj)), St W v (fun b => W.heap[b]?) (DeskL gd gc [zP, zP] 0 ++ F) → Calls Tryd.prog 17 #[.pointer (some ⟨gd, 0, none⟩), .agg #[Value.int .i64 1, .int .i64 3, .int .i64 0, .int .i64 1, .string ⟨#[]⟩]] v fun e w' => e = .returned (.tuple #[.int .i64 0, .int .i64 241]) ∧ St W w' (fun b => W.heap[b]?) (DeskL gd gc [zP, zP] 0 ++ F) := fun v gd gc F hv => by
    have h := desk_ask cv.t cv.t4 (ok2 zP_ok) (by decide) (by decide) (by decide) (nC 1 3 1) (nC_ok 1 3 1 (by decide) (by decide) (by decide)) (by show empB.size ≤ 1000000; decide) hv
    rw [nm2] at h
    exact h
  have k3 : ∀ (v : World) (gd gc : Nat) (F : List (Nat × Obj)), St W v (fun b => W.heap[b]?) (DeskL gd gc [zP, zP] 0 ++ F) → Calls Tryd.prog 17 #[.pointer (some ⟨gd, 0, none⟩), .agg #[Value.int .i64 1, .int .i64 3, .int .i64 0, .int .i64 0, .string ⟨#[]⟩]] v fun e w' => e = .returned (.tuple #[.int .i64 1, .int .i64 0]) ∧ St W w' (fun b => W.heap[b]?) (DeskL gd gc [zP, pn2] 1 ++ F) := fun v gd gc F hv => by
    have h := desk_ask cv.t cv.t4 (ok2 zP_ok) (by decide) (by decide) (by decide) (nC 1 3 0) (nC_ok 1 3 0 (by decide) (by decide) (by decide)) (by show empB.size ≤ 1000000; decide) hv
    rw [nm3] at h
    exact h
  have k4 : ∀ (v : World) (gd gc : Nat) (F : List (Nat × Obj)), St W v (fun b => W.heap[b]?) (DeskL gd gc [zP, pn2] 1 ++ F) → Calls Tryd.prog 17 #[.pointer (some ⟨gd, 0, none⟩), .agg #[Value.int .i64 1, .int .i64 6, .int .i64 0, .int .i64 0, .string ⟨#[]⟩]] v fun e w' => e = .returned (.tuple #[.int .i64 0, .int .i64 242]) ∧ St W w' (fun b => W.heap[b]?) (DeskL gd gc [zP, pn2] 1 ++ F) := fun v gd gc F hv => by
    have h := desk_ask cv.t cv.t4 (ok2 pn2_ok) (by decide) (by decide) (by decide) (nC 1 6 0) (nC_ok 1 6 0 (by decide) (by decide) (by decide)) (by show empB.size ≤ 1000000; decide) hv
    rw [nm4] at h
    exact h
  have kD := fun (v : World) (gd gc : Nat) (F : List (Nat × Obj)) (hv : St W v (fun b => W.heap[b]?) (DeskL gd gc [zP, pn2] 1 ++ F)) => desk_drop (ok2 pn2_ok) (by decide) (by decide) hv
  have kQ := fun (v : World) (gd gc : Nat) (F : List (Nat × Obj)) (hv : St W v (fun b => W.heap[b]?) (DeskL gd gc [zP, zP] 1 ++ F)) => desk_pending (ok2 zP_ok) (by decide) 1 hv
  have kW := fun (v : World) (gd gc : Nat) (F : List (Nat × Obj)) (hv : St W v (fun b => W.heap[b]?) (DeskL gd gc [zP, zP] 1 ++ F)) => desk_waiting (ok2 zP_ok) (by decide) hv
  rw [show dropN [zP, pn2] = 1 from rfl] at kD
  rw [show pendD [zP, zP] 1 = 0 from rfl] at kQ
  rw [show waitD [zP, zP] = 0 from rfl] at kW
  have KA := Lib.hid kA; have KP := Lib.hid kP; have KN := Lib.hid kN; have K1 := Lib.hid k1; have K2 := Lib.hid k2; have K3 := Lib.hid k3; have K4 := Lib.hid k4; have KD := Lib.hid kD; have KQ := Lib.hid kQ; have KW := Lib.hid kW
  clear kA kP kN k1 k2 k3 k4 kD kQ kW h0 cv
  go_enter Tryd.func5, Tryd.ntmps5
  go_wp2_with fail
  refine KA.out.mono ?_
  rintro e w1 ⟨rfl, h1⟩
  have H1 := Lib.hid h1
  clear h1 KA
  go_wp2_with fail
  refine (KP.out _ _ H1.out).mono ?_
  rintro e w2 ⟨rfl, h2⟩
  have h3 := h2.alloc (.cells #[Value.int .i64 0, .int .i64 0, .int .i64 0, .int .i64 0, .string ⟨#[]⟩] 23)
  have H3 := Lib.hid h3
  clear h2 h3 H1 KP
  go_wp2_with fail
  refine (KN.out _ _ H3.out).mono ?_
  rintro e w3 ⟨gd, gc, rfl, h4⟩
  have h5 : St W w3 (fun b => W.heap[b]?) (DeskL gd gc [zP, zP] 0 ++ [(w2.heap.size, .cells #[Value.int .i64 0, .int .i64 0, .int .i64 0, .int .i64 0, .string ⟨#[]⟩] 23 (0, 0))]) := h4
  have H5 := Lib.hid h5
  clear h4 h5 H3 KN
  go_wp2_with fail
  refine (K1.out _ _ _ _ H5.out).mono ?_
  rintro e u0 ⟨rfl, g0⟩
  have G0 := Lib.hid g0
  clear g0 H5 K1
  go_wp2_with fail
  refine (K2.out _ _ _ _ G0.out).mono ?_
  rintro e u1 ⟨rfl, g1⟩
  have G1 := Lib.hid g1
  clear g1 G0 K2
  go_wp2_with fail
  refine (K3.out _ _ _ _ G1.out).mono ?_
  rintro e u2 ⟨rfl, g2⟩
  have G2 := Lib.hid g2
  clear g2 G1 K3
  go_wp2_with fail
  refine (K4.out _ _ _ _ G2.out).mono ?_
  rintro e u3 ⟨rfl, g3⟩
  have G3 := Lib.hid g3
  clear g3 G2 K4
  go_wp2_with fail
  refine (KD.out _ _ _ _ G3.out).mono ?_
  rintro e u4 ⟨rfl, g4⟩
  have G4 := Lib.hid g4
  clear g4 G3 KD
  go_wp2_with fail
  refine (KQ.out _ _ _ _ G4.out).mono ?_
  rintro e u5 ⟨rfl, g5⟩
  have G5 := Lib.hid g5
  clear g5 G4 KQ
  go_wp2_with fail
  refine (KW.out _ _ _ _ G5.out).mono ?_
  rintro e u6 ⟨rfl, g6⟩
  have G6 := Lib.hid g6
  clear g6 G5 KW
  have HX := G6
  go_wp2_with fail
  go_ret
  exact ⟨rfl, HX.out.below (Le.refl _)⟩
end Go.Proofs.YtjcekmmieihllaaDoor
