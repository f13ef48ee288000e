/- NetNames: the walk of the law. -/
import Derived.Test.YtjmdhljhlcbneaaDoorNetL
import Derived.Lib.SmallJoins
namespace Go.Proofs.YtjmdhljhlcbneaaDoor
set_option linter.unusedVariables false
set_option linter.unusedSimpArgs false
open Go.RowKit

theorem fold_b : foldOf ⟨#[98]⟩ = [98] := by kernel_rfl
theorem fold_B : foldOf ⟨#[66]⟩ = [98] := by kernel_rfl
theorem fold_c : foldOf ⟨#[99]⟩ = [99] := by kernel_rfl
theorem fold_1 : foldOf ⟨#[49]⟩ = [49] := by kernel_rfl
theorem name_1 : nameOk ⟨#[49]⟩ = false := by kernel_rfl
theorem name_b : nameOk ⟨#[98]⟩ = true := by kernel_rfl
theorem name_B : nameOk ⟨#[66]⟩ = true := by kernel_rfl

set_option maxRecDepth 100000 in
set_option maxHeartbeats 8000000 in
theorem walk_netNames (W : World) (tabs : Tabs W) : Calls Tryd.prog 5 #[] W fun e w' => e = .returned (.bool true) ∧ Below W.heap.size W w' := by
  have t := TB.start tabs
  have h0 := St.start W
  have hcb1 := fun w n c => Lib.run_convert_bytes_const (P := Tryd.prog) w 22 5 #[.int .u8 120] n c Tryd.underlying22 Tryd.underlying5
  have TT := Lib.hid t; have H0 := Lib.hid h0
  clear t h0 tabs
  go_enter Tryd.func5, Tryd.ntmps5
  go_wp2_with fail
  refine (net_alive TT.out H0.out).mono ?_
  rintro e w ⟨rfl, h⟩
  have H := Lib.hid h
  clear h H0
  have hcb2 := fun n c => Joins.run_convert_bytes_const_at (P := Tryd.prog) (w.alloc (.cells #[.int .u8 120] 5 (1, 2))) 22 5 #[.int .u8 49, .int .u8 50] n c (w.heap.size + 1) (by simp) Tryd.underlying22 Tryd.underlying5
  have hcb3 := fun n c => Joins.run_convert_bytes_const_at (P := Tryd.prog) ((w.alloc (.cells #[.int .u8 120] 5 (1, 2))).alloc (.cells #[.int .u8 49, .int .u8 50] 5 (2, 3))) 22 5 #[.int .u8 51, .int .u8 52, .int .u8 53] n c (w.heap.size + 1 + 1) (by simp) Tryd.underlying22 Tryd.underlying5
  have H := H.out
  have h6 := (((((H.alloc (.cells (bcells [120]) 5 (1, 2))).alloc (.cells (bcells [49, 50]) 5 (2, 3))).alloc (.cells (bcells [51, 52, 53]) 5 (3, 4))).alloc (.cells #[.string ⟨#[49]⟩, .slice (some ⟨w.heap.size, 0, none⟩) 1 1, .string ⟨#[98]⟩, .slice (some ⟨w.heap.size + 1, 0, none⟩) 2 2, .string ⟨#[66]⟩, .slice (some ⟨w.heap.size + 1 + 1, 0, none⟩) 3 3] 27)).alloc (.cells (fall [⟨1, 0, 0⟩, ⟨4, 1, 0⟩]).toArray 36))
  simp only [World.size_alloc] at h6
  obtain ⟨J1, le1, gg1, s1⟩ := St.freeze h6
  obtain ⟨J2, le2, gg2, s2⟩ := St.freeze s1
  obtain ⟨J3, le3, gg3, s3⟩ := St.freeze s2
  obtain ⟨J4, le4, gg4, s4⟩ := St.freeze s3
  obtain ⟨J5, le5, gg5, s5⟩ := St.freeze s4
  have k1 := le5 _ _ (le4 _ _ (le3 _ _ (le2 _ _ gg1)))
  have k2 := le5 _ _ (le4 _ _ (le3 _ _ gg2))
  have k3 := le5 _ _ (le4 _ _ gg3)
  have k4 := le5 _ _ gg4
  have hle5 := (((le1.trans le2).trans le3).trans le4).trans le5
  obtain ⟨p0, hp0⟩ : ∃ p0 : Part, p0 = ⟨some ⟨w.heap.size, 0, none⟩, 1, [120]⟩ := ⟨_, rfl⟩
  obtain ⟨p1, hp1⟩ : ∃ p1 : Part, p1 = ⟨some ⟨w.heap.size + 1, 0, none⟩, 2, [49, 50]⟩ := ⟨_, rfl⟩
  obtain ⟨p2, hp2⟩ : ∃ p2 : Part, p2 = ⟨some ⟨w.heap.size + 1 + 1, 0, none⟩, 3, [51, 52, 53]⟩ := ⟨_, rfl⟩
  have ho0 : POk p0 W J5 := by rw [hp0]; exact lit_part (by simp) gg5
  have ho1 : POk p1 W J5 := by rw [hp1]; exact lit_part (by simp) k4
  have ho2 : POk p2 W J5 := by rw [hp2]; exact lit_part (by simp) k3
  have hoff : OffIn (some ⟨w.heap.size + 1 + 1 + 1, 0, none⟩) [(⟨#[49]⟩, p0), (⟨#[98]⟩, p1), (⟨#[66]⟩, p2)] W J5 := by
    refine ⟨fun k o hk => ?_, fun o ho => ?_, fun o ho => ?_⟩
    · match k, hk with
      | 0, hk => simp at hk; subst hk; exact ⟨_, _, rfl, roCell_of k2, by rw [roCell_of k2, hp0]; rfl⟩
      | 1, hk => simp at hk; subst hk; exact ⟨_, _, rfl, roCell_of k2, by rw [roCell_of k2, hp1]; rfl⟩
      | 2, hk => simp at hk; subst hk; exact ⟨_, _, rfl, roCell_of k2, by rw [roCell_of k2, hp2]; rfl⟩
      | k + 3, hk => simp at hk
    · simp at ho
      rcases ho with rfl | rfl | rfl
      · show ByteArray.size ⟨#[49]⟩ ≤ 1000000; decide
      · show ByteArray.size ⟨#[98]⟩ ≤ 1000000; decide
      · show ByteArray.size ⟨#[66]⟩ ≤ 1000000; decide
    · simp at ho
      rcases ho with rfl | rfl | rfl
      · exact ho0
      · exact ho1
      · exact ho2
  have cN := net_new (TT.out.more hle5) _ 3 [(⟨#[49]⟩, p0), (⟨#[98]⟩, p1), (⟨#[66]⟩, p2)] hoff (by simp) _ 2 [⟨1, 0, 0⟩, ⟨4, 1, 0⟩] (lit_faults k1) (by simp) s5
  have hno : newOffs [(⟨#[49]⟩, p0), (⟨#[98]⟩, p1), (⟨#[66]⟩, p2)] = [(⟨#[98]⟩, [49, 50])] := by
    simp [newOffs, addOff, name_1, name_b, name_B, fold_1, fold_b, fold_B, lookB, hp1]
  rw [hno] at cN
  have CN := Lib.hid cN; have HLE5 := Lib.hid hle5
  clear cN hno hoff ho0 ho1 ho2 hp0 hp1 hp2 k1 k2 k3 k4 gg5 gg4 gg3 gg2 gg1 s5 s4 s3 s2 s1 h6 le1 le2 le3 le4 le5 hle5 H
  go_wp2_with fail
  refine CN.out.mono ?_
  rintro e w1 ⟨J, g, m, es, hleJ, rfl, hN, hof, hes⟩
  clear CN hcb1 hcb2 hcb3
  obtain ⟨p, rfl, hpb⟩ := one_offer hes
  have T2 := Lib.hid (TT.out.more (HLE5.out.trans hleJ))
  have l1 : lookP [((⟨#[98]⟩ : ByteArray), p)] ⟨(foldOf ⟨#[49]⟩).toArray⟩ = none := by rw [fold_1]; simp [lookP]
  have l2 : lookP [((⟨#[98]⟩ : ByteArray), p)] ⟨(foldOf ⟨#[98]⟩).toArray⟩ = some p := by rw [fold_b]; simp [lookP]
  have l3 : lookP [((⟨#[98]⟩ : ByteArray), p)] ⟨(foldOf ⟨#[66]⟩).toArray⟩ = some p := by rw [fold_B]; simp [lookP]
  have l4 : lookP [((⟨#[98]⟩ : ByteArray), p)] ⟨(foldOf ⟨#[99]⟩).toArray⟩ = none := by rw [fold_c]; simp [lookP]
  have f1 : fetched p.bs (first [⟨1, 0, 0⟩, ⟨4, 1, 0⟩]) 0 1 = ([], 181) := by rw [hpb]; rfl
  have f2 : fetched p.bs (first [⟨4, 1, 0⟩]) 0 1 = ([50], 0) := by rw [hpb]; rfl
  have f3 : fetched p.bs (first [⟨9, 1, 1⟩]) 0 9 = ([49, 50], 0) := by rw [hpb]; rfl
  have c1 := net_fetch_none T2.out ⟨#[49]⟩ (by decide) 0 1 l1 hN
  have C1 := Lib.hid c1; have HOF := Lib.hid hof; have L1 := Lib.hid l1; have L2 := Lib.hid l2; have L3 := Lib.hid l3; have L4 := Lib.hid l4; have F1 := Lib.hid f1; have F2 := Lib.hid f2; have F3 := Lib.hid f3; have HPB := Lib.hid hpb; have HLJ := Lib.hid hleJ
  clear c1 hof l1 l2 l3 l4 f1 f2 f3 hes hN hpb hleJ
  go_wp2_with fail
  refine C1.out.mono ?_
  rintro e w2 ⟨rfl, hN1⟩
  have c2 := net_fetch T2.out HOF.out ⟨#[98]⟩ (by decide) 0 1 (by simp) (by omega) p L2.out hN1
  rw [F1.out] at c2
  have C2 := Lib.hid c2
  clear c2 C1 hN1
  go_wp2_with fail
  refine C2.out.mono ?_
  rintro e w3 ⟨v, rfl, A1, q1, R1, rfl, hr1, hN2⟩
  have c3 := net_fetch T2.out HOF.out ⟨#[98]⟩ (by decide) 0 1 (by simp) (by omega) p L2.out hN2
  rw [List.tail_cons, F2.out] at c3
  have C3 := Lib.hid c3
  clear c3 C2 hN2 hr1
  go_wp2_with fail
  refine C3.out.mono ?_
  rintro e w4 ⟨v, rfl, A2, q2, R2, rfl, hr2, hN3⟩
  obtain ⟨φ, hst⟩ := hN3
  have h7 := hst.alloc (.cells (fall [⟨9, 1, 1⟩]).toArray 36)
  obtain ⟨J6, le6, gg6, s6⟩ := St.freeze h7
  have hN4 : NetSt W (w4.alloc (.cells (fall [⟨9, 1, 1⟩]).toArray 36)) J6 g m [(⟨#[98]⟩, p)] [] 2 (R2 ++ (R1 ++ [])) := ⟨φ, s6⟩
  have HOF2 := Lib.hid (HOF.out.mono le6)
  have cM := net_more _ 1 [⟨9, 1, 1⟩] (lit_faults gg6) (by simp) hN4
  have CM := Lib.hid cM; have HR2 := Lib.hid hr2; have T3 := Lib.hid (T2.out.more le6); have HLJ2 := Lib.hid (HLJ.out.trans le6)
  clear cM hN4 s6 gg6 h7 hst hr2 le6 C3 φ
  go_wp2_with fail
  refine CM.out.mono ?_
  rintro e w5 ⟨rfl, hN5⟩
  have c4 := net_fetch T3.out HOF2.out ⟨#[98]⟩ (by decide) 0 9 (by simp) (by omega) p L2.out hN5
  rw [show first ([] ++ [(⟨9, 1, 1⟩ : Fault)]) = first [⟨9, 1, 1⟩] from rfl, F3.out] at c4
  have C4 := Lib.hid c4
  clear c4 CM hN5
  go_wp2_with fail
  refine C4.out.mono ?_
  rintro e w6 ⟨v, rfl, A3, q3, R3, rfl, hr3, hN6⟩
  obtain ⟨ψ, hst⟩ := id hN6
  have s2 := fresh_str HR2.out hst (by intro q hq; simp [hq])
  have s3 := fresh_str hr3 hst (by intro q hq; simp [hq])
  simp only [List.length_cons, List.length_nil, Nat.zero_add, Nat.reduceAdd] at s2 s3
  have cH := net_has T3.out ⟨#[49]⟩ (by decide) hN6
  rw [L1.out] at cH
  have CH := Lib.hid cH
  clear cH C4 hst hr3 hN6 HR2
  go_wp2_with fail
  refine CH.out.mono ?_
  rintro e w7 ⟨rfl, hN7⟩
  have cS := net_size T3.out HOF2.out ⟨#[66]⟩ (by decide) hN7
  rw [L3.out] at cS
  simp only [Option.map_some, Option.getD_some, HPB.out, List.length_cons, List.length_nil, Nat.zero_add, Nat.reduceAdd] at cS
  have CS := Lib.hid cS
  clear cS CH hN7 s2 s3
  go_wp2_with fail
  refine CS.out.mono ?_
  rintro e w8 ⟨rfl, hN8⟩
  have cS2 := net_size T3.out HOF2.out ⟨#[99]⟩ (by decide) hN8
  rw [L4.out] at cS2
  simp only [Option.map_none, Option.getD_none] at cS2
  have CS2 := Lib.hid cS2
  clear cS2 CS hN8
  go_wp2_with fail
  refine CS2.out.mono ?_
  rintro e w9 ⟨rfl, hN9⟩
  have cA := net_faults hN9
  have cB := net_fetches hN9
  have hfin : Below W.heap.size W w9 := hN9.out.below ((HLE5.out.trans HLJ2.out))
  have CA := Lib.hid cA; have CB := Lib.hid cB; have HFIN := Lib.hid hfin
  clear cA cB hN9 hfin CS2
  go_wp2_with fail
  refine CA.out.mono ?_
  rintro e w10 ⟨rfl, rfl⟩
  go_wp2_with fail
  refine CB.out.mono ?_
  rintro e w11 ⟨rfl, rfl⟩
  go_wp2_with fail
  go_ret
  exact ⟨rfl, HFIN.out⟩
end Go.Proofs.YtjmdhljhlcbneaaDoor
