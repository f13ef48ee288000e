/- net: the chapter's examples. -/
import Derived.Test.YtjmdhljhlcbneaaDoorNetE
import Derived.Lib.SlBytesConst
namespace Go.Proofs.YtjmdhljhlcbneaaDoor
set_option linter.unusedVariables false
set_option linter.unusedSimpArgs false
open Go.RowKit

section
variable {W w : World} {J : Nat → Option Obj} {g m : Nat} {es : List (ByteArray × Part)} {fs : List Fault} {cnt : Nat} {F : List (Nat × Obj)}
theorem NetSt.out (h : NetSt W w J g m es fs cnt F) : St W w J F := by
  obtain ⟨φ, h⟩ := h
  exact h.weaken
theorem FreshN.net {bs : List UInt8} {v : Value} (h : FreshN W w J g m es fs cnt F bs v) : ∃ L, NetSt W w J g m es fs cnt (L ++ F) := by
  obtain ⟨A, c, L, rfl, hr, h⟩ := h
  exact ⟨L, h⟩
theorem NetSt.drop {L : List (Nat × Obj)} (h : NetSt W w J g m es fs cnt (L ++ F)) : NetSt W w J g m es fs cnt F := by
  obtain ⟨φ, h⟩ := h
  exact ⟨φ, St.mid h⟩
theorem NetSt.drew (h : NetSt W w J g m es fs cnt F) (n : Nat) : NetSt W (w.drewN n) J g m es fs cnt F := by
  obtain ⟨φ, h⟩ := h
  exact ⟨φ, h.drew n⟩
/-- The text that fresh bytes are. -/
theorem fresh_str {A : Option Addr} {c : Nat} {bs : List UInt8} {Lr L : List (Nat × Obj)} (hr : Row 5 1 (.slice A bs.length c) bs.length (bs.map bval) Lr) (h : St W w J L) (hs : ∀ p ∈ Lr, p ∈ L) :
    (convert 22 9 (.slice A bs.length c)).run Tryd.prog w = .ok (.string ⟨bs.toArray⟩) w :=
  conv_str Tryd.underlying22 Tryd.underlying5 Tryd.underlying9 (Row.src hr (fun p hp => h.own p (hs p hp)))
theorem roCell_of {b i : Nat} {cs : Array Value} {ty : TypeId} {fr : Nat × Nat} (hg : J b = some (.cells cs ty fr)) : roCell J ⟨b, i, none⟩ = cs[i]? := by
  simp [roCell, hg]
theorem lit_part {gb : Nat} {fr : Nat × Nat} {bs : List UInt8} (hl : bs.length ≤ 1000000000) (hg : J gb = some (.cells (bcells bs) 5 fr)) : POk ⟨some ⟨gb, 0, none⟩, bs.length, bs⟩ W J := by
  refine ⟨fun w L hst => ⟨by simp, fun j u hj => ⟨_, rfl, ?_⟩⟩, Nat.le_refl _, by show bs.length ≤ _; unfold maxLen; omega, hl⟩
  rw [show (⟨gb, 0, none⟩ : Addr).add j = ⟨gb, j, none⟩ by unfold Addr.add; split <;> simp_all]
  rw [cell_of_row w gb j _ _ _ (hst.imm _ _ hg)]
  simpa [bcells] using hj
theorem lit_faults {gb : Nat} {fr : Nat × Nat} {fs : List Fault} (hg : J gb = some (.cells (fall fs).toArray 36 fr)) : FIn (some ⟨gb, 0, none⟩) fs W J := by
  intro w L hst
  refine ⟨fall_len fs, fun j u hj => ⟨_, rfl, ?_⟩⟩
  rw [show (⟨gb, 0, none⟩ : Addr).add j = ⟨gb, j, none⟩ by unfold Addr.add; split <;> simp_all]
  rw [cell_of_row w gb j _ _ _ (hst.imm _ _ hg)]
  simpa using hj
theorem one_offer {k : ByteArray} {b : List UInt8} (h : es.map eb = [(k, b)]) : ∃ p, es = [(k, p)] ∧ p.bs = b := by
  match es, h with
  | [(k', p)], h =>
    simp [eb] at h
    exact ⟨p, by rw [h.1], h.2⟩
end

theorem fold_a : foldOf ⟨#[97]⟩ = [97] := by kernel_rfl
theorem fold_A : foldOf ⟨#[65]⟩ = [97] := by kernel_rfl
theorem name_a : nameOk ⟨#[97]⟩ = true := by kernel_rfl

set_option maxRecDepth 100000 in
set_option maxHeartbeats 8000000 in
theorem net_alive {W w : World} {I : Nat → Option Obj} {F : List (Nat × Obj)} (t : TB W I) (h : St W w I F) :
    Calls Tryd.prog 7 #[] w fun e w' => e = .returned (.bool true) ∧ St W w' I F := by
  obtain ⟨g0, hg0⟩ : ∃ g0, g0 = w.heap.size := ⟨_, rfl⟩
  have hcb := fun n c => Lib.run_convert_bytes_const (P := Tryd.prog) w 22 5 #[.int .u8 97, .int .u8 98, .int .u8 99, .int .u8 100, .int .u8 101, .int .u8 102] n c Tryd.underlying22 Tryd.underlying5
  have h3 := ((h.alloc (.cells (bcells [97, 98, 99, 100, 101, 102]) 5 (6, 7))).alloc (.cells #[.string ⟨#[97]⟩, .slice (some ⟨w.heap.size, 0, none⟩) 6 6] 27)).alloc (.cells (fall [⟨0, 0, 0⟩, ⟨2, 1, 1⟩, ⟨3, 2, 0⟩]).toArray 36)
  have z1 : (w.alloc (.cells (bcells [97, 98, 99, 100, 101, 102]) 5 (6, 7))).heap.size = w.heap.size + 1 := by simp
  have z2 : ((w.alloc (.cells (bcells [97, 98, 99, 100, 101, 102]) 5 (6, 7))).alloc (.cells #[.string ⟨#[97]⟩, .slice (some ⟨w.heap.size, 0, none⟩) 6 6] 27)).heap.size = w.heap.size + 1 + 1 := by simp
  rw [z1, z2] at h3
  obtain ⟨J1, le1, gg1, s1⟩ := St.freeze h3
  obtain ⟨J2, le2, gg2, s2⟩ := St.freeze s1
  obtain ⟨J3, le3, gg3, s3⟩ := St.freeze s2
  have gg1' := le3 _ _ (le2 _ _ gg1)
  have gg2' := le3 _ _ gg2
  have hle3 : Le I J3 := (le1.trans le2).trans le3
  obtain ⟨p0, hp0⟩ : ∃ p0 : Part, p0 = ⟨some ⟨w.heap.size, 0, none⟩, 6, [97, 98, 99, 100, 101, 102]⟩ := ⟨_, rfl⟩
  have hpo : POk p0 W J3 := by rw [hp0]; exact lit_part (by simp) gg3
  have hoff : OffIn (some ⟨w.heap.size + 1, 0, none⟩) [(⟨#[97]⟩, p0)] W J3 := by
    refine ⟨fun k o hk => ?_, fun o ho => ?_, by simpa using hpo⟩
    rotate_left
    · simp at ho; subst ho; show ByteArray.size ⟨#[97]⟩ ≤ 1000000; decide
    match k, hk with
    | 0, hk =>
      simp at hk
      subst hk
      exact ⟨_, _, rfl, roCell_of gg2', by rw [roCell_of gg2', hp0]; rfl⟩
    | k + 1, hk => simp at hk
  have cN := net_new (t.more hle3) _ 1 [(⟨#[97]⟩, p0)] hoff (by simp) _ 3 [⟨0, 0, 0⟩, ⟨2, 1, 1⟩, ⟨3, 2, 0⟩] (lit_faults gg1') (by simp) s3
  have hno : newOffs [(⟨#[97]⟩, p0)] = [(⟨#[97]⟩, [97, 98, 99, 100, 101, 102])] := by
    simp [newOffs, addOff, name_a, fold_a, lookB, hp0]
  rw [hno] at cN
  have T := Lib.hid t; have CN := Lib.hid cN; have HLE3 := Lib.hid hle3
  clear cN hno hoff hpo hp0 gg1' gg2' gg3 gg2 gg1 s3 s2 s1 h3 le1 le2 le3 hle3 z1 z2 h hg0 t
  go_enter Tryd.func7, Tryd.ntmps7
  go_wp2_with fail
  refine CN.out.mono ?_
  rintro e w1 ⟨J, g, m, es, hleJ, rfl, hN, hof, hes⟩
  clear CN hcb
  obtain ⟨p, rfl, hpb⟩ := one_offer hes
  have T2 := Lib.hid (T.out.more (HLE3.out.trans hleJ))
  have l1 : lookP [((⟨#[97]⟩ : ByteArray), p)] ⟨(foldOf ⟨#[65]⟩).toArray⟩ = some p := by rw [fold_A]; simp [lookP]
  have l2 : lookP [((⟨#[97]⟩ : ByteArray), p)] ⟨(foldOf ⟨#[97]⟩).toArray⟩ = some p := by rw [fold_a]; simp [lookP]
  have f1 : fetched p.bs (first [⟨0, 0, 0⟩, ⟨2, 1, 1⟩, ⟨3, 2, 0⟩]) 2 3 = ([99, 100, 101], 0) := by rw [hpb]; rfl
  have f2 : fetched p.bs (first [⟨2, 1, 1⟩, ⟨3, 2, 0⟩]) 2 3 = ([99, 101, 101], 0) := by rw [hpb]; rfl
  have f3 : fetched p.bs (first [⟨3, 2, 0⟩]) 2 3 = ([99, 100], 0) := by rw [hpb]; rfl
  have c1 := net_fetch T2.out hof ⟨#[65]⟩ (by decide) 2 3 (by simp) (by omega) p l1 hN
  rw [f1] at c1
  have C1 := Lib.hid c1; have HOF := Lib.hid hof; have L1 := Lib.hid l1; have L2 := Lib.hid l2; have F2 := Lib.hid f2; have F3 := Lib.hid f3; have HPB := Lib.hid hpb; have HLJ := Lib.hid hleJ
  clear c1 hof l1 l2 f1 f2 f3 hes hN hpb hleJ T
  go_wp2_with fail
  refine C1.out.mono ?_
  rintro e w2 ⟨v, rfl, A1, k1, R1, rfl, hr1, hN1⟩
  have c2 := net_fetch T2.out HOF.out ⟨#[97]⟩ (by decide) 2 3 (by simp) (by omega) p L2.out hN1
  rw [List.tail_cons, F2.out] at c2
  have C2 := Lib.hid c2; have HR1 := Lib.hid hr1
  clear c2 C1 hN1 hr1
  go_wp2_with fail
  refine C2.out.mono ?_
  rintro e w3 ⟨v, rfl, A2, k2, R2, rfl, hr2, hN2⟩
  have c3 := net_fetch T2.out HOF.out ⟨#[97]⟩ (by decide) 2 3 (by simp) (by omega) p L2.out hN2
  rw [List.tail_cons, F3.out] at c3
  have C3 := Lib.hid c3; have HR2 := Lib.hid hr2
  clear c3 C2 hN2 hr2
  go_wp2_with fail
  refine C3.out.mono ?_
  rintro e w4 ⟨v, rfl, A3, k3, R3, rfl, hr3, hN3⟩
  obtain ⟨φ, hst⟩ := id hN3
  have s1 := fresh_str HR1.out hst (by intro q hq; simp [hq])
  have s2 := fresh_str HR2.out hst (by intro q hq; simp [hq])
  have s3 := fresh_str hr3 hst (by intro q hq; simp [hq])
  simp only [List.length_cons, List.length_nil, Nat.zero_add, Nat.reduceAdd] at s1 s2 s3
  have cH := net_has T2.out ⟨#[65]⟩ (by decide) hN3
  rw [L1.out] at cH
  have CH := Lib.hid cH
  clear cH C3 hst hr3 hN3 HR1 HR2
  go_wp2_with fail
  refine CH.out.mono ?_
  rintro e w5 ⟨rfl, hN4⟩
  have cS := net_size T2.out HOF.out ⟨#[97]⟩ (by decide) hN4
  rw [L2.out] at cS
  simp only [Option.map_some, Option.getD_some, HPB.out, List.length_cons, List.length_nil, Nat.zero_add, Nat.reduceAdd] at cS
  have CS := Lib.hid cS
  clear cS CH hN4 s1 s2 s3
  go_wp2_with fail
  refine CS.out.mono ?_
  rintro e w6 ⟨rfl, hN5⟩
  have hfin : St W w6 I F := (hN5.drop.drop.drop.out).less (HLE3.out.trans HLJ.out)
  have HFIN := Lib.hid hfin
  clear hN5 hfin CS
  go_wp2_with fail
  go_ret
  exact ⟨rfl, HFIN.out⟩
end Go.Proofs.YtjmdhljhlcbneaaDoor
