/- RingKinds: the walk of the law. -/
import Derived.Test.YtlhplndngfffoaaAlive
import Derived.Test.YtlhplndngfffoaaRingBs
import Derived.Test.YtlhplndngfffoaaKinds
namespace Go.Proofs.Ytlhplndngfffoaa
open Go.RowKit

set_option maxRecDepth 100000 in
set_option maxHeartbeats 4000000 in
theorem walk_ringKinds (W : World) {H : Type} {enc : TypeId × Value → H} {v0 v1 v2 : Value} (a0 : Arg enc Try.prog W 31 v0) (a1 : Arg enc Try.prog W 33 v1) (a2 : Arg enc Try.prog W 9 v2) :
    Calls Try.prog 4 #[v0, v1, v2] W fun e w' => e = .returned (.bool true) ∧ Below W.heap.size W w' := by
  obtain ⟨A, n, c, x0, rfl, rfl, q0, m0, in0⟩ := a0.bytes Try.underlying31 Try.underlying5 (by kernel_rfl)
  obtain ⟨xs, hxl, rfl⟩ := a1.hash
  obtain ⟨s, rfl, hs⟩ := a2.string Try.underlying9
  unfold maxLen at hs m0
  have z0 : (bcells xs).size = 32 := by rw [bcells_size]; exact hxl
  have o0 : (bcells xs).all (·.oneCell') = true := bcells_one _
  have eq1 := eq_bcells xs xs hxl hxl
  rw [beq_self_eq_true] at eq1
  generalize bcells xs = X at *
  have ix : (Try.prog.info? 33).map (·.size) = some X.size := by rw [z0]; kernel_rfl
  have yx : ∀ j, j < X.size → X[0 + j]? = X[j]? := fun j _ => by rw [Nat.zero_add]
  have fx : 0 + X.size ≤ (#[.int .u8 0, .int .u8 0, .int .u8 0, .int .u8 0, .int .u8 0, .int .u8 0, .int .u8 0, .int .u8 0, .int .u8 0, .int .u8 0, .int .u8 0, .int .u8 0, .int .u8 0, .int .u8 0, .int .u8 0, .int .u8 0, .int .u8 0, .int .u8 0, .int .u8 0, .int .u8 0, .int .u8 0, .int .u8 0, .int .u8 0, .int .u8 0, .int .u8 0, .int .u8 0, .int .u8 0, .int .u8 0, .int .u8 0, .int .u8 0, .int .u8 0, .int .u8 0] : Array Value).size := by rw [z0]; decide
  have ex : setMany #[.int .u8 0, .int .u8 0, .int .u8 0, .int .u8 0, .int .u8 0, .int .u8 0, .int .u8 0, .int .u8 0, .int .u8 0, .int .u8 0, .int .u8 0, .int .u8 0, .int .u8 0, .int .u8 0, .int .u8 0, .int .u8 0, .int .u8 0, .int .u8 0, .int .u8 0, .int .u8 0, .int .u8 0, .int .u8 0, .int .u8 0, .int .u8 0, .int .u8 0, .int .u8 0, .int .u8 0, .int .u8 0, .int .u8 0, .int .u8 0, .int .u8 0, .int .u8 0] 0 X.toList = X := by rw [setMany_whole _ _ (by simp [z0])]
  have IX := Lib.hid ix; have YX := Lib.hid yx; have FX := Lib.hid fx; have EX := Lib.hid ex; have OX := Lib.hid o0; have Z0 := Lib.hid z0; have IN0 := Lib.hid in0
  have h1 := (St.start W).alloc (.cells X 33)
  have H1 := Lib.hid h1
  clear a0 a1 a2 ix yx fx ex o0 z0 h1 in0
  go_enter Try.func4, Try.ntmps4
  go_wp2_with fail
  refine (alive H1.out).mono ?_
  rintro e w1 ⟨rfl, h1⟩
  clear H1
  have hfin := h1.below (Le.refl _)
  by_cases h200 : (200 : Int) < x0.length
  · clear h1
    go_wp2_with fail
    go_ret
    exact ⟨rfl, hfin⟩
  by_cases h201 : (200 : Int) < s.size
  · clear h1
    go_wp2_with fail
    go_ret
    exact ⟨rfl, hfin⟩
  clear hfin
  have H1 := Lib.hid h1
  clear h1
  have hl : (x0.length : Int) ≤ 200 := by omega
  go_wp2_with fail
  refine (new_bs' 1 H1.out).mono ?_
  rintro e w2 ⟨ρ, hnew, rfl, h2⟩
  have hcan : ρ.can = true := by rw [Ring.can_eq _ hnew.closed, hnew.xs, hnew.n]; rfl
  have k1 := fun w F (h : St W w (fun b => W.heap[b]?) (ρ.L 81 31 ++ F)) => send_bs ρ hnew.ok A x0.length c h
  rw [hcan] at k1
  have hxs : (ρ.put (.slice A x0.length c)).xs = [.slice A x0.length c] := by rw [Ring.put_xs _ hnew.closed, hnew.xs, hnew.n]; rfl
  have hok := Ring.put_ok hnew.ok (.slice A x0.length c)
  have hr := Ring.put_r ρ (.slice A x0.length c)
  obtain ⟨ρ2, hρ2⟩ : ∃ x, x = ρ.put (.slice A x0.length c) := ⟨_, rfl⟩
  rw [← hρ2] at k1 hxs hok hr
  have k2 := fun w F (h : St W w (fun b => W.heap[b]?) (ρ2.L 81 31 ++ F)) => recv_bs ρ2 hok h
  have hfr : ρ2.front (.slice none 0 0) = .slice A x0.length c := by rw [Ring.front, hxs]; rfl
  have hany : ρ2.any = true := by rw [Ring.any, hxs]; rfl
  rw [hfr, hany, hr] at k2
  have K1 := Lib.hid k1; have K2 := Lib.hid k2; have H2 := Lib.hid h2
  clear hnew hcan hxs hok hr hρ2 hfr hany k1 k2 h2 H1
  go_wp2_with fail
  refine (hnew H2.out).mono ?_
  rintro e w3 ⟨rh, ah, rfl, h3⟩
  clear H2
  have H3 := Lib.hid h3
  clear h3
  go_wp2_with fail
  refine (onew' 2 rfl H3.out).mono ?_
  rintro e w4 ⟨ro, ao, rfl, h4⟩
  clear H3
  have h5 : St W w4 (fun b => W.heap[b]?) (ρ.L 81 31 ++ (HL rh ah 0 #[.int .u8 0, .int .u8 0, .int .u8 0, .int .u8 0, .int .u8 0, .int .u8 0, .int .u8 0, .int .u8 0, .int .u8 0, .int .u8 0, .int .u8 0, .int .u8 0, .int .u8 0, .int .u8 0, .int .u8 0, .int .u8 0, .int .u8 0, .int .u8 0, .int .u8 0, .int .u8 0, .int .u8 0, .int .u8 0, .int .u8 0, .int .u8 0, .int .u8 0, .int .u8 0, .int .u8 0, .int .u8 0, .int .u8 0, .int .u8 0, .int .u8 0, .int .u8 0] ++ (OL ro ao 0 0 (.string ⟨#[]⟩) (.slice none 0 0) (.string ⟨#[]⟩) (.slice none 0 0) ++ [(W.heap.size, .cells X 33 (0, 0))]))) := by
    refine h4.perm ?_
    generalize HL rh ah 0 #[.int .u8 0, .int .u8 0, .int .u8 0, .int .u8 0, .int .u8 0, .int .u8 0, .int .u8 0, .int .u8 0, .int .u8 0, .int .u8 0, .int .u8 0, .int .u8 0, .int .u8 0, .int .u8 0, .int .u8 0, .int .u8 0, .int .u8 0, .int .u8 0, .int .u8 0, .int .u8 0, .int .u8 0, .int .u8 0, .int .u8 0, .int .u8 0, .int .u8 0, .int .u8 0, .int .u8 0, .int .u8 0, .int .u8 0, .int .u8 0, .int .u8 0, .int .u8 0] = P1
    generalize OL ro ao 0 0 (.string ⟨#[]⟩) (.slice none 0 0) (.string ⟨#[]⟩) (.slice none 0 0) = P2
    generalize ρ.L 81 31 = P3
    refine (List.perm_append_comm_assoc _ _ _).trans ?_
    refine (List.Perm.append_left _ (List.perm_append_comm_assoc _ _ _)).trans ?_
    exact (List.perm_append_comm_assoc _ _ _)
  have H5 := Lib.hid h5
  clear h4 h5
  go_wp2_with fail
  refine (K1.out _ _ H5.out).mono ?_
  rintro e w5 ⟨rfl, h6⟩
  clear K1 H5
  have h6 := St.swap h6
  have H6 := Lib.hid h6
  clear h6
  go_wp2_with (with_reducible refine wpList_load_st rfl 33 (.tmp 4) rfl (g := W.heap.size) (off := 0) rfl H6.out (cs := X) (t := 33) (fr := (0, 0)) (by simp) X YX.out _ Try.underlying33 rfl IX.out ?_)
  refine (hsend X Z0.out OX.out rfl H6.out).mono ?_
  rintro e w6 ⟨rfl, h7⟩
  clear H6
  have h7 := St.swap (A := HL rh ah 1 X ++ ρ2.L 81 31) (B := OL ro ao 0 0 (.string ⟨#[]⟩) (.slice none 0 0) (.string ⟨#[]⟩) (.slice none 0 0)) (by rw [List.append_assoc]; exact h7)
  have H7 := Lib.hid h7
  clear h7
  go_wp2_with fail
  refine (osend0 s none 0 0 H7.out).mono ?_
  rintro e w7 ⟨rfl, h8⟩
  clear H7
  have H8 := Lib.hid h8
  clear h8
  go_wp2_with fail
  refine (osend1 ⟨#[]⟩ A x0.length c H8.out).mono ?_
  rintro e w8 ⟨rfl, h9⟩
  clear H8
  have h10 := (St.swap h9).perm (L' := ρ2.L 81 31 ++ (HL rh ah 1 X ++ (OL ro ao 0 2 (.string s) (.slice none 0 0) (.string ⟨#[]⟩) (.slice A x0.length c) ++ [(W.heap.size, .cells X 33 (0, 0))]))) (by
    rw [List.append_assoc]
    exact List.perm_append_comm_assoc _ _ _)
  have H10 := Lib.hid h10
  clear h9 h10
  go_wp2_with fail
  refine (K2.out _ _ H10.out).mono ?_
  rintro e w9 ⟨rfl, h11⟩
  clear K2 H10
  have H11 := Lib.hid (St.swap h11)
  clear h11
  go_wp2_with fail
  refine (hpeek X Z0.out OX.out H11.out).mono ?_
  rintro e w10 ⟨rfl, h12⟩
  clear H11
  have H12 := Lib.hid (h12.alloc (.cells #[.int .u8 0, .int .u8 0, .int .u8 0, .int .u8 0, .int .u8 0, .int .u8 0, .int .u8 0, .int .u8 0, .int .u8 0, .int .u8 0, .int .u8 0, .int .u8 0, .int .u8 0, .int .u8 0, .int .u8 0, .int .u8 0, .int .u8 0, .int .u8 0, .int .u8 0, .int .u8 0, .int .u8 0, .int .u8 0, .int .u8 0, .int .u8 0, .int .u8 0, .int .u8 0, .int .u8 0, .int .u8 0, .int .u8 0, .int .u8 0, .int .u8 0, .int .u8 0] 33))
  clear h12
  go_wp2_with (with_reducible refine wpList_store_st rfl 33 (.tmp 12) (.tmp 55) rfl (g := w10.heap.size) (off := 0) X rfl rfl H12.out FX.out IX.out OX.out ?_; intro w11 h13; refine Hid.out ?_)
  refine Lib.hid ?_
  rw [EX.out] at h13
  clear H12
  generalize w10.heap.size = gx at *
  have h14 : St W w11 (fun b => W.heap[b]?) (OL ro ao 0 2 (.string s) (.slice none 0 0) (.string ⟨#[]⟩) (.slice A x0.length c) ++ ((gx, .cells X 33 (0, 0)) :: (W.heap.size, .cells X 33 (0, 0)) :: (HL rh ah 1 X ++ (ρ2.recv (.slice none 0 0)).L 81 31))) := by
    refine h13.perm ?_
    generalize HL rh ah 1 X = P1
    generalize OL ro ao 0 2 (.string s) (.slice none 0 0) (.string ⟨#[]⟩) (.slice A x0.length c) = P2
    generalize (ρ2.recv (.slice none 0 0)).L 81 31 = P3
    have e1 : (P1 ++ (P3 ++ (P2 ++ [(W.heap.size, Obj.cells X 33 (0, 0))]))).Perm (P2 ++ ((W.heap.size, Obj.cells X 33 (0, 0)) :: (P1 ++ P3))) := by
      rw [← List.append_assoc]
      refine List.perm_append_comm.trans ?_
      rw [List.append_assoc]
      exact List.Perm.refl _
    refine (List.Perm.cons _ e1).trans ?_
    exact List.perm_middle.symm
  generalize hPR : HL rh ah 1 X ++ (ρ2.recv (.slice none 0 0)).L 81 31 = PR at h14
  have HPR := Lib.hid hPR
  have H14 := Lib.hid h14
  clear h13 h14 hPR
  go_wp2_with fail
  refine (orecv0 s none 0 0 H14.out).mono ?_
  rintro e w12 ⟨rfl, h15⟩
  clear H14
  have H15 := Lib.hid (St.swap (A := [(w12.heap.size, .cells #[.string s, .slice none 0 0] 41 (0, 0))]) (B := OL ro ao 1 1 (.string ⟨#[]⟩) (.slice none 0 0) (.string ⟨#[]⟩) (.slice A x0.length c)) (h15.alloc (.cells #[.string s, .slice none 0 0] 41)))
  clear h15
  go_wp2_with fail
  refine (orecv1 ⟨#[]⟩ A x0.length c H15.out).mono ?_
  rintro e w13 ⟨rfl, h16⟩
  clear H15
  have H16 := Lib.hid (St.swap (A := [(w13.heap.size, .cells #[.string ⟨#[]⟩, .slice A x0.length c] 41 (0, 0))]) (B := OL ro ao 0 0 (.string ⟨#[]⟩) (.slice none 0 0) (.string ⟨#[]⟩) (.slice none 0 0)) (h16.alloc (.cells #[.string ⟨#[]⟩, .slice A x0.length c] 41)))
  clear h16
  go_wp2_with fail
  refine (orecvN H16.out).mono ?_
  rintro e w14 ⟨rfl, h17⟩
  clear H16
  have h18 := h17.alloc_ (.cells #[.string ⟨#[]⟩, .slice none 0 0] 41)
  have cv : (convert 31 9 (.slice A x0.length c)).run Try.prog (w14.alloc (.cells #[.string ⟨#[]⟩, .slice none 0 0] 41)) = .ok (.string ⟨x0.toArray⟩) (w14.alloc (.cells #[.string ⟨#[]⟩, .slice none 0 0] 41)) :=
    conv_str Try.underlying31 Try.underlying5 Try.underlying9 (IN0.out _ _ h18)
  have d14 : (w14.alloc (.cells #[.string ⟨#[]⟩, .slice none 0 0] 41)).cell? ⟨w12.heap.size, 0, none⟩ = some (.string s) := h18.cell (g := w12.heap.size) (cs := #[.string s, .slice none 0 0]) (t := 41) (fr := (0, 0)) (by simp) 0
  have d16 : (w14.alloc (.cells #[.string ⟨#[]⟩, .slice none 0 0] 41)).cell? ⟨w13.heap.size, 1, none⟩ = some (.slice A x0.length c) := h18.cell (g := w13.heap.size) (cs := #[.string ⟨#[]⟩, .slice A x0.length c]) (t := 41) (fr := (0, 0)) (by simp) 1
  have hlen' : Calls Try.prog 23 #[.pointer (some ⟨rh, 0, none⟩)] (w14.alloc (.cells #[.string ⟨#[]⟩, .slice none 0 0] 41)) fun e w' => e = .returned (.int .i64 1) ∧ (w14.alloc (.cells #[.string ⟨#[]⟩, .slice none 0 0] 41)) = w' := by
    have h19 := h18
    rw [← HPR.out] at h19
    have h20 := h19.perm (L' := HL rh ah 1 X ++ (OL ro ao 0 0 (.string ⟨#[]⟩) (.slice none 0 0) (.string ⟨#[]⟩) (.slice none 0 0) ++ ([(w13.heap.size, .cells #[.string ⟨#[]⟩, .slice A x0.length c] 41 (0, 0)), (w12.heap.size, .cells #[.string s, .slice none 0 0] 41 (0, 0)), (gx, .cells X 33 (0, 0)), (W.heap.size, .cells X 33 (0, 0))] ++ (ρ2.recv (.slice none 0 0)).L 81 31))) (by
      generalize OL ro ao 0 0 (.string ⟨#[]⟩) (.slice none 0 0) (.string ⟨#[]⟩) (.slice none 0 0) = P2
      generalize HL rh ah 1 X = P1
      refine (List.Perm.append_left P2 (List.perm_append_comm_assoc [_, _, _, _] P1 _)).trans ?_
      exact List.perm_append_comm_assoc _ _ _)
    exact hlen h20
  have HLEN := Lib.hid hlen'
  have hfin := h18.below (Le.refl _)
  have H18 := Lib.hid h18
  clear h17 h18 hlen'
  go_wp2_with (first
    | (refine wpList_load_g (by rfl) 33 (.tmp 12) rfl (g := gx) (off := 0) rfl H18.out (cs := X) (t := 33) (fr := (0, 0)) (by simp) X YX.out _ Try.underlying33 rfl IX.out ?_)
    | (refine wpList_load_g (by rfl) 33 (.tmp 4) rfl (g := W.heap.size) (off := 0) rfl H18.out (cs := X) (t := 33) (fr := (0, 0)) (by simp) X YX.out _ Try.underlying33 rfl IX.out ?_))
  refine HLEN.out.mono ?_
  rintro e w20 ⟨rfl, rfl⟩
  go_wp2_with fail
  go_ret
  exact ⟨rfl, hfin⟩
end Go.Proofs.Ytlhplndngfffoaa
