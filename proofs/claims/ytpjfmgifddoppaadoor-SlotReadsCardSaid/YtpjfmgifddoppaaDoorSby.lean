/- slot: Bytes: walk. -/
import Derived.Test.YtpjfmgifddoppaaDoorCodA
import Derived.Test.YtpjfmgifddoppaaDoorSbyP
import Derived.Test.YtpjfmgifddoppaaDoorCat
import Derived.Test.YtpjfmgifddoppaaDoorSlC
import Derived.Deep.RegionHeld3
namespace Go.Proofs.YtpjfmgifddoppaaDoor
set_option linter.unusedVariables false
set_option linter.unusedSimpArgs false
open Go.RowKit Go.Lib

theorem part_off {W : World} {I : Nat → Option Obj} {g c off : Nat} {xs : List UInt8} {t : TypeId} {cs : Array Value} {fr : Nat × Nat} (h : I g = some (.cells cs t fr)) (hc : ∀ (j : Nat) (u : Value), (xs.map bval)[j]? = some u → cs[off + j]? = some u) : Part.In ⟨some ⟨g, off, none⟩, c, xs⟩ W I := fun v L hv => by
  refine ⟨by simp, fun j u hj => ⟨_, rfl, ?_⟩⟩
  rw [show (⟨g, off, none⟩ : Addr).add j = ⟨g, off + j, none⟩ by unfold Addr.add; split <;> simp_all, cell_of_row _ g (off + j) cs t fr (hv.imm _ _ h)]
  exact hc j u hj
theorem St.slf {W v : World} {J : Nat → Option Obj} {L : List (Nat × Obj)} {b : Nat} {s : Slt} (hv : St W v J L) (hm : (b, Obj.cells s.cells 26 (0, 0)) ∈ L) :
    v.cell? ⟨b, 0, none⟩ = some (.int .i64 s.st) ∧ v.cell? ⟨b, 1, none⟩ = some (.int .i64 s.tr) ∧ v.cell? ⟨b, 2, none⟩ = some (.int .u64 s.ver) ∧ v.cell? ⟨b, 3, none⟩ = some (.int .i64 s.sz) :=
  ⟨(hv.cell hm 0).trans s.at0, (hv.cell hm 1).trans s.at1, (hv.cell hm 2).trans s.at2, (hv.cell hm 3).trans s.at3⟩

section
variable {W w : World} {I : Nat → Option Obj} {F : List (Nat × Obj)}
set_option maxRecDepth 100000 in
set_option maxHeartbeats 4000000 in
theorem slot_bytes (s : Slt) (ok : s.Ok) (h : St W w I F) :
    Calls Tryd.prog 30 #[s.val] w fun e w' => ∃ v, e = .returned v ∧ FreshB W w' I F (sByR s) v := by
  have h1 := h.alloc (.cells s.cells 26)
  have cR := fun (v : World) (F : List (Nat × Obj)) (hv : St W v I F) => slot_right s ok hv
  have hmi := slot_info (s := s) ok.dig
  obtain ⟨R, hR⟩ : ∃ R, rightS s = R := ⟨_, rfl⟩
  rw [hR] at cR
  have facts : ∀ (b1 : Nat) (v : World) (J : Nat → Option Obj) (L : List (Nat × Obj)), St W v J L → (b1, Obj.cells s.cells 26 (0, 0)) ∈ L → v.cell? ⟨b1, 0, none⟩ = some (.int .i64 s.st) ∧ v.cell? ⟨b1, 1, none⟩ = some (.int .i64 s.tr) ∧ v.cell? ⟨b1, 2, none⟩ = some (.int .u64 s.ver) ∧ v.cell? ⟨b1, 3, none⟩ = some (.int .i64 s.sz) := fun b1 v J L hv hm => hv.slf hm
  have hX := sByR.eq_1 s
  have hat := s.at4
  have hdl := ok.dig
  obtain ⟨X, hXX⟩ : ∃ X, sByR s = X := ⟨_, rfl⟩
  rw [hXX] at hX ⊢
  rw [hR] at hX
  unfold Slt.val at cR ⊢
  obtain ⟨mk, hmk⟩ : ∃ mk, s.cells = mk := ⟨_, rfl⟩
  rw [hmk] at h1 cR hmi facts hat ⊢
  have H1 := Lib.hid h1; have CR := Lib.hid cR; have HMI := Lib.hid hmi; have HR := Lib.hid hR; have FACTS := Lib.hid facts; have HX := Lib.hid hX; have HAT := Lib.hid hat; have HDL := Lib.hid hdl
  clear h h1 cR hmi hmk hR facts ok hX hXX hat hdl
  go_enter Tryd.func30, Tryd.ntmps30
  go_wp2_with (with_reducible refine wpList_load_st rfl 26 (.tmp 1) rfl (g := w.heap.size) (off := 0) rfl H1.out (List.mem_cons_self ..) mk (fun j hj => by rw [Nat.zero_add]) _ Tryd.underlying26 rfl HMI.out ?_)
  refine (CR.out _ _ H1.out).mono ?_
  rintro e w1 ⟨rfl, h2⟩
  have H2 := Lib.hid h2
  clear H1 CR h2
  generalize w.heap.size = b1 at *
  cases R with
  | false =>
    have hX := HX.out
    rw [if_neg (by decide)] at hX
    subst hX
    go_wp2_with fail
    go_ret
    exact ⟨_, rfl, FreshB.nil (St.weaken (A := [_]) H2.out)⟩
  | true =>
    obtain ⟨r1, r2, r3, r4, r5, r6, r7, r8⟩ := right_small s HR.out
    obtain ⟨st, hst⟩ : ∃ n : Nat, s.st = (n : Int) := ⟨s.st.toNat, by omega⟩
    obtain ⟨tr, htr⟩ : ∃ n : Nat, s.tr = (n : Int) := ⟨s.tr.toNat, by omega⟩
    obtain ⟨ver, hver⟩ : ∃ n : Nat, s.ver = (n : Int) := ⟨s.ver.toNat, by omega⟩
    obtain ⟨sz, hsz⟩ : ∃ n : Nat, s.sz = (n : Int) := ⟨s.sz.toNat, by omega⟩
    have hB1 : sBy1 s = [] ++ leB st 1 := by unfold sBy1; rw [hst, Int.toNat_natCast]; rfl
    have hB2 : sBy2 s = sBy1 s ++ leB tr 1 := by unfold sBy2; rw [htr, Int.toNat_natCast]
    have hB3 : sBy3 s = sBy2 s ++ leB ver 8 := by unfold sBy3; rw [hver, Int.toNat_natCast]
    have hB4 : sBy4 s = sBy3 s ++ leB sz 4 := by unfold sBy4; rw [hsz, Int.toNat_natCast]
    have hX := HX.out
    rw [if_pos rfl] at hX
    have hB5 : X = sBy4 s ++ s.dig := hX
    obtain ⟨l1, l2, l3, l4⟩ := sBy_lens s
    have facts := FACTS.out b1
    rw [hst, htr, hver, hsz] at facts
    rw [hst] at r1 r2
    rw [htr] at r3 r4
    rw [hver] at r5 r6
    rw [hsz] at r7 r8
    obtain ⟨B1, hB1'⟩ : ∃ x, sBy1 s = x := ⟨_, rfl⟩
    obtain ⟨B2, hB2'⟩ : ∃ x, sBy2 s = x := ⟨_, rfl⟩
    obtain ⟨B3, hB3'⟩ : ∃ x, sBy3 s = x := ⟨_, rfl⟩
    obtain ⟨B4, hB4'⟩ : ∃ x, sBy4 s = x := ⟨_, rfl⟩
    rw [hB1'] at hB1 hB2 l1
    rw [hB2'] at hB2 hB3 l2
    rw [hB3'] at hB3 hB4 l3
    rw [hB4'] at hB4 hB5 l4
    clear hX hB1' hB2' hB3' hB4'
    have FA := Lib.hid facts
    have H2D := Lib.hid H2.out.drew1
    have kT : ∀ (v : World), St W v I ((b1, .cells mk 26 (0, 0)) :: F) → Calls Tryd.prog 63 #[.slice none 0 0, .int .u64 (IntKind.u64.wrap (st : Int)), .int .i64 1] v fun e w' => ∃ v, e = .returned v ∧ FreshB W w' I ((b1, .cells mk 26 (0, 0)) :: F) B1 v := fun v h => by
      rw [hB1, show IntKind.u64.wrap (st : Int) = (st : Int) from IntWalk.u64_in _ (by omega)]
      exact cfixed ⟨none, 0, []⟩ (Part.In_nil _ _) (by simp) st 1 (by omega) (by omega) h
    have kU : ∀ (v : World) (J : Nat → Option Obj) (A : Option Addr) (c : Nat), Part.In ⟨A, c, B1⟩ W J → St W v J ((b1, .cells mk 26 (0, 0)) :: F) → Calls Tryd.prog 63 #[.slice A B1.length c, .int .u64 (IntKind.u64.wrap (tr : Int)), .int .i64 1] v fun e w' => ∃ v, e = .returned v ∧ FreshB W w' J ((b1, .cells mk 26 (0, 0)) :: F) B2 v := fun v J A c hp h => by
      rw [hB2, show IntKind.u64.wrap (tr : Int) = (tr : Int) from IntWalk.u64_in _ (by omega)]
      exact cfixed ⟨A, c, B1⟩ hp (by simp only; omega) tr 1 (by omega) (by omega) h
    have sf1 : ∀ (v : World) (J : Nat → Option Obj) (L : List (Nat × Obj)), St W v J L → (b1, Obj.cells mk 26 (0, 0)) ∈ L → v.cell? ⟨b1, 0, none⟩ = some (.int .i64 (st : Int)) ∧ v.cell? ⟨b1, 1, none⟩ = some (.int .i64 (tr : Int)) := fun v J L hv hm => ⟨(facts v J L hv hm).1, (facts v J L hv hm).2.1⟩
    have SF1 := Lib.hid sf1
    obtain ⟨s0, s1⟩ := sf1 _ _ _ H2.out.drew1 (List.mem_cons_self ..)
    have KT := Lib.hid kT; have KU := Lib.hid kU
    have HB3 := Lib.hid hB3; have HB4 := Lib.hid hB4; have HB5 := Lib.hid hB5; have L1 := Lib.hid l1; have L2 := Lib.hid l2; have L3 := Lib.hid l3; have L4 := Lib.hid l4
    clear facts kT kU FACTS sf1 hB1 hB2 hB3 hB4 hB5 l1 l2 l3 l4 HX HR hst htr hver hsz
    go_wp2_with fail
    go_region_held3 (fun v => v.cell? ⟨b1, 0, none⟩ = some (.int .i64 (st : Int)) ∧ v.cell? ⟨b1, 1, none⟩ = some (.int .i64 (tr : Int)))
      (first | exact SF1.out _ _ _ H2D.out (by simp) | exact SF1.out _ _ _ h5 (by simp) | exact SF1.out _ _ _ h6 (by simp))
      (first
      | (go_at_call 63; (with_reducible refine (KT.out _ H2D.out).mono ?_); rintro e w5 ⟨v5, rfl, A5, c5, L5, rfl, hr5, hq5⟩; obtain ⟨J5, hle5, hin5, h5⟩ := part_freeze hr5 hq5; dsimp only)
      | (go_at_call 63; (with_reducible refine (KU.out _ _ _ _ hin5 h5).mono ?_); rintro e w6 ⟨v6, rfl, A6, c6, L6, rfl, hr6, h6⟩; dsimp only))
    obtain ⟨J6, hle6, hin6, h7⟩ := part_freeze hr6 h6
    have hle : Le I J6 := hle5.trans hle6
    have facts := FA.out
    have sf2 : ∀ (v : World) (J : Nat → Option Obj) (L : List (Nat × Obj)), St W v J L → (b1, Obj.cells mk 26 (0, 0)) ∈ L → v.cell? ⟨b1, 2, none⟩ = some (.int .u64 (ver : Int)) ∧ v.cell? ⟨b1, 3, none⟩ = some (.int .i64 (sz : Int)) := fun v J L hv hm => ⟨(facts v J L hv hm).2.2.1, (facts v J L hv hm).2.2.2⟩
    have SF2 := Lib.hid sf2
    have kG1 : ∀ (v : World), St W v J6 ((b1, .cells mk 26 (0, 0)) :: F) → Calls Tryd.prog 63 #[.slice A6 B2.length c6, .int .u64 (ver : Int), .int .i64 8] v fun e w' => ∃ v, e = .returned v ∧ FreshB W w' J6 ((b1, .cells mk 26 (0, 0)) :: F) B3 v := fun v h => by
      rw [HB3.out]
      exact cfixed ⟨A6, c6, B2⟩ hin6 (by have := L2.out; simp only; omega) ver 8 (by omega) (by omega) h
    have kG2 : ∀ (v : World) (J : Nat → Option Obj) (A : Option Addr) (c : Nat), Part.In ⟨A, c, B3⟩ W J → St W v J ((b1, .cells mk 26 (0, 0)) :: F) → Calls Tryd.prog 63 #[.slice A B3.length c, .int .u64 (IntKind.u64.wrap (sz : Int)), .int .i64 4] v fun e w' => ∃ v, e = .returned v ∧ FreshB W w' J ((b1, .cells mk 26 (0, 0)) :: F) B4 v := fun v J A c hp h => by
      rw [HB4.out, show IntKind.u64.wrap (sz : Int) = (sz : Int) from IntWalk.u64_in _ (by omega)]
      exact cfixed ⟨A, c, B3⟩ hp (by have := L3.out; simp only; omega) sz 4 (by omega) (by omega) h
    have H8D := Lib.hid h7.drew1
    obtain ⟨s2, s3⟩ := sf2 _ _ _ h7.drew1 (List.mem_cons_self ..)
    have KG1 := Lib.hid kG1; have KG2 := Lib.hid kG2; have HLE := Lib.hid hle
    clear facts sf2 kG1 kG2 h7 hin6 hr6 h6 hq5 h5 hr5 hin5 KT KU SF1 H2 H2D hle hle5 hle6 s0 s1
    go_wp2_with fail
    go_region_held3 (fun v => v.cell? ⟨b1, 2, none⟩ = some (.int .u64 (ver : Int)) ∧ v.cell? ⟨b1, 3, none⟩ = some (.int .i64 (sz : Int)))
      (first | exact SF2.out _ _ _ H8D.out (by simp) | exact SF2.out _ _ _ h5 (by simp) | exact SF2.out _ _ _ h7 (by simp))
      (first
      | (go_at_call 63; (with_reducible refine (KG1.out _ H8D.out).mono ?_); rintro e w5 ⟨v5, rfl, A5, c5, L5, rfl, hr5, hq5⟩; obtain ⟨J5, hle5, hin5, h5⟩ := part_freeze hr5 hq5; dsimp only)
      | (go_at_call 63; (with_reducible refine (KG2.out _ _ _ _ hin5 h5).mono ?_); rintro e w6 ⟨v6, rfl, A7, c7, L7, rfl, hr7, h7⟩; dsimp only))
    obtain ⟨J7, hle7, hin7, h8⟩ := part_freeze hr7 h7
    obtain ⟨J8, hle8, hb8, h9⟩ := St.freeze h8
    have hleA : Le I J8 := (HLE.out.trans hle5).trans (hle7.trans hle8)
    have hin8 : Part.In ⟨A7, c7, B4⟩ W J8 := hin7.mono hle8
    have hind : Part.In ⟨some ⟨b1, 4, none⟩, 32, s.dig⟩ W J8 := part_off hb8 (fun j u hj => by rw [HAT.out]; exact hj)
    have kW := fun (gb : Nat) (v : World) (h : St W v J8 ((gb, .cells #[(⟨some ⟨b1, 4, none⟩, 32, s.dig⟩ : Part).val] 40 (0, 0)) :: F)) => craw1 ⟨A7, c7, B4⟩ ⟨some ⟨b1, 4, none⟩, 32, s.dig⟩ hin8 hind (by have := L4.out; have := HDL.out; simp only; omega) gb h
    simp only [Part.val, HDL.out] at kW
    rw [← HB5.out] at kW
    have H9 := Lib.hid (h9.alloc (.cells #[.slice (some ⟨b1, 4, none⟩) 32 32] 40))
    have KW := Lib.hid kW; have HLEA := Lib.hid hleA
    clear kW h9 h8 hb8 hin8 hind hin7 hr7 h7 hle7 hle8 hq5 h5 hr5 hin5 hle5 hleA KG1 KG2 SF2 H8D s2 s3
    go_wp2_with fail
    refine (KW.out _ _ H9.out).mono ?_
    rintro e w9 ⟨v, rfl, A9, c9, L9, rfl, hr9, h10⟩
    have H10 := Lib.hid (h10.less HLEA.out); have HR9 := Lib.hid hr9
    clear hr9 h10 KW H9
    go_wp2_with fail
    go_ret
    exact ⟨_, rfl, A9, c9, L9, rfl, HR9.out, H10.out⟩
end
end Go.Proofs.YtpjfmgifddoppaaDoor
