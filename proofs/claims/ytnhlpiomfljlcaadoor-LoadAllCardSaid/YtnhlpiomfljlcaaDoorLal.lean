/- LoadAll: the walk of the law. -/
import Derived.Test.YtnhlpiomfljlcaaDoorLalP
import Derived.OwnWalk
namespace Go.Proofs.YtnhlpiomfljlcaaDoor
set_option linter.unusedVariables false
set_option linter.unusedSimpArgs false
open Go.RowKit Go.Lib

set_option maxRecDepth 100000 in
theorem run_build_goA (h : Int) (m : Man) (ok : m.Ok) (w : World) : (Instr.build 62 #[(0, .int .i64 h), (1, .agg m.cells)]).run Tryd.prog w = .ok (.agg (gcells h m)) w := by
  obtain ⟨prod, ver, size, chunk, ds, A, n, c⟩ := m
  obtain ⟨d0, d1, d2, d3, d4, d5, d6, d7, d8, d9, d10, d11, d12, d13, d14, d15, d16, d17, d18, d19, d20, d21, d22, d23, d24, d25, d26, d27, d28, d29, d30, d31, rfl⟩ := thirtytwo ds ok.dig
  exact run_build w _ _ _ (by kernel_rfl)
theorem wpList_build_goA {P : Program} {w : World} {ops : Array Oper} {rest : List Oper} {o : Oper} {a : Act} {Q : Exit → Act → World → Prop} (hgd : o.guard = none) (t : TypeId) (ps : Array (Nat × Operand)) (ho : o.op = .build t ps)
    (vs : Array (Nat × Value)) (hvs : (ps.map fun (i, x) => (i, a.eval x)) = vs) {v : Value} (hr : (Instr.build t vs).run P w = .ok v w) (h : wpList P ops Q rest (a.put o.dst v) w) : wpList P ops Q (o :: rest) a w := by
  refine wpList_plain hgd fun K hK => ?_
  subst hvs
  unfold Oper.wp execOp
  simp only [ho, Sem.run_bind, hr, Result.andThen_ok]
  exact hK _ _ h
theorem ba_app (x y : List UInt8) : (⟨x.toArray⟩ : ByteArray) ++ ⟨y.toArray⟩ = ⟨(x ++ y).toArray⟩ := by
  apply ByteArray.ext; simp [ByteArray.data_append]
theorem ba_size (x : List UInt8) : (⟨x.toArray⟩ : ByteArray).size = x.length := by simp [ByteArray.size]
theorem one_bvals (xs : List UInt8) : ∀ u ∈ xs.map bval, u.oneCell' = true := by intro u hu; obtain ⟨b, _, rfl⟩ := List.mem_map.1 hu; rfl
theorem Arg.bytes2 {H : Type} {enc : TypeId × Value → H} {W : World} {v : Value} (h : Arg enc Tryd.prog W 47 v) : ∃ y0 y1 : Nat, v = .agg #[.int .u8 y0, .int .u8 y1] ∧ y0 < 256 ∧ y1 < 256 := by
  obtain ⟨cs, xs, rfl, h1, h2, hq⟩ := Arg.array1 (α := UInt8) (Q := fun u b => u = bval b) (n := 2) Tryd.underlying47 (by kernel_rfl) (by kernel_rfl) (fun u hu => by obtain ⟨b, hb⟩ := hu.byte Tryd.underlying5; exact ⟨b, by simpa using hb⟩) h
  match cs, xs, h1, h2, hq with
  | [c0, c1], [x0, x1], _, _, hq =>
    have e0 : c0 = bval x0 := hq 0 (by simp) (by simp)
    have e1 : c1 = bval x1 := hq 1 (by simp) (by simp)
    exact ⟨x0.toNat, x1.toNat, by rw [e0, e1]; rfl, x0.toNat_lt, x1.toNat_lt⟩
section
variable {W w : World} {J : Nat → Option Obj} {F : List (Nat × Obj)} {g gn m : Nat} {es : List (ByteArray × Part)} {name : ByteArray} {ro ri n ni : Nat} {q : LQ}
theorem LdSt.toF (h : LdSt W w J g gn m es name ro ri n ni q F) : ∃ X, St W w J X ∧ ∀ p ∈ F, p ∈ X := by
  obtain ⟨B, hB⟩ := h.rest
  exact ⟨_, hB, fun p hp => List.mem_append.2 (.inr hp)⟩
theorem lal_tell (h : LdSt W w J g gn m es name ro ri n 2 q F) (hq : q.inn = []) (t : Nt) (ht : t.Ok) : Calls Tryd.prog 12 #[.pointer (some ⟨ri, 0, none⟩), .iface t.T t.d] w fun e w' => e = .returned (.bool true) ∧ LdSt W w' J g gn m es name ro ri n 2 { q with inn := [t] } F := by
  have h1 := lq_tell h t ht
  have hl : q.inn.length < 2 := by rw [hq]; decide
  rw [if_pos hl, decide_eq_true hl, hq] at h1
  exact h1
end
theorem room5 (y : Nat) : roomOf (1 + (y : Int) % 5) = 1 + y % 5 := by unfold roomOf; omega

set_option maxRecDepth 100000 in
set_option maxHeartbeats 8000000 in
theorem walk_loadAll (W : World) (tabs : Tabs W) {H : Type} {enc : TypeId × Value → H} {v0 v1 v2 : Value} (a0 : Arg enc Tryd.prog W 27 v0) (a1 : Arg enc Tryd.prog W 47 v1) (a2 : Arg enc Tryd.prog W 27 v2) :
    Calls Tryd.prog 4 #[v0, v1, v2] W fun e w' => e = .returned (.bool true) ∧ Below W.heap.size W w' := by
  obtain ⟨bA, bn, bc, b, rfl, rfl, hbc, hbm, hbin⟩ := a0.bytes Tryd.underlying27 Tryd.underlying5 (by kernel_rfl)
  obtain ⟨lA, ln, lc, lead, rfl, rfl, hlc, hlm, hlin⟩ := a2.bytes Tryd.underlying27 Tryd.underlying5 (by kernel_rfl)
  obtain ⟨y0, y1, rfl, hy0, hy1⟩ := a1.bytes2
  have t := TB.start tabs
  have h0 := (St.start W).alloc (.cells #[.int .u8 y0, .int .u8 y1] 47)
  have kA := load_alive t h0
  generalize hb4 : W.heap.size = b4 at *
  have KA := Lib.hid kA; have T := Lib.hid t; have HB4 := Lib.hid hb4; have HBIN := Lib.hid hbin; have HLIN := Lib.hid hlin
  clear kA t h0 a0 a1 a2 tabs hbin hlin
  go_enter Tryd.func4, Tryd.ntmps4
  go_wp2_with fail
  clear hb4
  refine KA.out.mono ?_
  rintro e w1 ⟨rfl, h1⟩
  clear KA
  have c0 := h1.cell (g := b4) (List.mem_cons_self ..) 0
  have c1 := h1.cell (g := b4) (List.mem_cons_self ..) 1
  by_cases hg : (1000 : Int) < b.length ∨ (200 : Int) < lead.length
  · have hfin := h1.below (Le.refl _)
    rw [HB4.out] at hfin
    have HF := Lib.hid hfin
    clear h1 hfin
    by_cases g1 : (1000 : Int) < b.length
    · go_wp2_with fail
      go_ret
      exact ⟨rfl, HF.out⟩
    · have g2 : (200 : Int) < lead.length := hg.resolve_left g1
      go_wp2_with fail
      go_ret
      exact ⟨rfl, HF.out⟩
  have g1 : ¬ (1000 : Int) < b.length := fun h => hg (.inl h)
  have g2 : ¬ (200 : Int) < lead.length := fun h => hg (.inr h)
  have g3 : decide ((1000 : Int) < b.length) = false := decide_eq_false g1
  have kM := rmake T.out ⟨#[99, 111, 114, 101]⟩ (by decide) 1 (by decide) (by decide) (64 * (1 + (y0 : Int) % 4)) (by omega) (by omega) ⟨bA, bc, b⟩ HBIN.out (by simp only; omega) hbc h1
  simp only at kM
  have KM := Lib.hid kM
  clear kM hg h1
  go_wp2_with fail
  refine KM.out.mono ?_
  rintro e w2 hpost
  obtain ⟨cn, hcn⟩ : ∃ cn : Nat, 64 * (1 + (y0 : Int) % 4) = (cn : Int) := ⟨64 * (1 + y0 % 4), by omega⟩
  rw [hcn] at hpost
  have hcn4 : cn ≤ 256 := by omega
  have hgen : ∃ m r, e = .returned (.tuple #[.agg m.cells, .int .i64 r]) ∧ m.Ok ∧ St W w2 (fun b => W.heap[b]?) [(b4, .cells #[.int .u8 y0, .int .u8 y1] 47 (0, 0))] ∧ (r = 131 ∨ r = 0 ∧ ∃ A c, m = madeM ⟨#[99, 111, 114, 101]⟩ 1 cn b A (mkN cn b) c ∧ mkOk ⟨#[99, 111, 114, 101]⟩ 1 cn b = true) := by
    cases hmk : mkOk ⟨#[99, 111, 114, 101]⟩ 1 cn b with
    | false =>
      obtain ⟨he, hst⟩ := hpost.2 hmk
      exact ⟨zman, 131, he, zman_ok, hst, .inl rfl⟩
    | true =>
      obtain ⟨A, c, L0, he, hrow, hst⟩ := hpost.1 hmk
      exact ⟨_, 0, he, madeM_ok (by decide) (by decide) (by omega) (by omega) (by omega) (by have := (made_all hmk).2.2.1; omega), hst.weaken, .inr ⟨rfl, A, c, rfl, rfl⟩⟩
  obtain ⟨m, r, rfl, hok, h4, hr⟩ := hgen
  have h5 := h4.alloc (.cells zman.cells 53)
  rw [zman_lit] at h5
  have hms := Man.cells_size hok
  have hmo := Man.one m
  have hmi : (Tryd.prog.info? 53).map (·.size) = some m.cells.size := by rw [hms]; kernel_rfl
  have hfx : 0 + m.cells.size ≤ (Value.string ⟨#[]⟩ :: .int .u64 0 :: .int .i64 0 :: .int .i64 0 :: .int .u8 0 :: .int .u8 0 :: .int .u8 0 :: .int .u8 0 :: .int .u8 0 :: .int .u8 0 :: .int .u8 0 :: .int .u8 0 :: .int .u8 0 :: .int .u8 0 :: .int .u8 0 :: .int .u8 0 :: .int .u8 0 :: .int .u8 0 :: .int .u8 0 :: .int .u8 0 :: .int .u8 0 :: .int .u8 0 :: .int .u8 0 :: .int .u8 0 :: .int .u8 0 :: .int .u8 0 :: .int .u8 0 :: .int .u8 0 :: .int .u8 0 :: .int .u8 0 :: .int .u8 0 :: .int .u8 0 :: .int .u8 0 :: .int .u8 0 :: .int .u8 0 :: .int .u8 0 :: .slice none 0 0 :: []).toArray.size := by rw [hms]; decide
  have hsm : setMany (Value.string ⟨#[]⟩ :: .int .u64 0 :: .int .i64 0 :: .int .i64 0 :: .int .u8 0 :: .int .u8 0 :: .int .u8 0 :: .int .u8 0 :: .int .u8 0 :: .int .u8 0 :: .int .u8 0 :: .int .u8 0 :: .int .u8 0 :: .int .u8 0 :: .int .u8 0 :: .int .u8 0 :: .int .u8 0 :: .int .u8 0 :: .int .u8 0 :: .int .u8 0 :: .int .u8 0 :: .int .u8 0 :: .int .u8 0 :: .int .u8 0 :: .int .u8 0 :: .int .u8 0 :: .int .u8 0 :: .int .u8 0 :: .int .u8 0 :: .int .u8 0 :: .int .u8 0 :: .int .u8 0 :: .int .u8 0 :: .int .u8 0 :: .int .u8 0 :: .int .u8 0 :: .slice none 0 0 :: []).toArray 0 m.cells.toList = m.cells := by rw [setMany_whole _ _ (by rw [Array.length_toList, hms]; rfl), Array.toArray_toList]
  have H5 := Lib.hid h5; have HMO := Lib.hid hmo; have HMI := Lib.hid hmi; have HFX := Lib.hid hfx; have HSM := Lib.hid hsm; have HOK := Lib.hid hok; have HR := Lib.hid hr; have HCN := Lib.hid hcn
  clear h4 h5 hmo hmi hfx hsm hok hr hms hpost KM c0 hcn
  obtain ⟨MC, hMC⟩ : ∃ MC, m.cells = MC := ⟨_, rfl⟩
  rw [hMC] at HMO HMI HFX HSM
  rw [hMC]
  have HMC := Lib.hid hMC
  clear hMC
  go_wp2_with (with_reducible refine wpList_store_st rfl 53 (.tmp 7) (.tmp 38) rfl (g := w2.heap.size) (off := 0) MC rfl rfl H5.out HFX.out HMI.out HMO.out ?_; intro w3 h6; refine Hid.out ?_)
  refine Lib.hid ?_
  rw [HSM.out] at h6
  have H6 := Lib.hid h6
  clear H5 HFX HMO HSM h6
  generalize w2.heap.size = b7 at *
  rcases HR.out with rfl | ⟨rfl, A, c, hm, hmk⟩
  · have hfin := H6.out.below (Le.refl _)
    rw [HB4.out] at hfin
    have HF := Lib.hid hfin
    clear H6 HR hfin
    go_wp2_with fail
    go_ret
    exact ⟨rfl, HF.out⟩
  have c1 := H6.out.cell (g := b4) (List.mem_cons_of_mem _ (List.mem_cons_self ..)) 1
  have kP := new_pc' (room := 1 + (y1 : Int) % 5) H6.out
  rw [room5] at kP
  have KP := Lib.hid kP; have HM := Lib.hid hm; have HMK := Lib.hid hmk
  clear kP hm hmk HR
  go_wp2_with fail
  refine KP.out.mono ?_
  rintro e w4 ⟨ρo, hqo, rfl, h7⟩
  have kN := new_nt' (room := 2) h7
  rw [show roomOf 2 = 2 by decide] at kN
  have KN := Lib.hid kN
  clear kN h7 KP c1 H6
  go_wp2_with fail
  refine KN.out.mono ?_
  rintro e w5 ⟨ρi, hqi, rfl, h8⟩
  have hn1 : 1 ≤ 1 + y1 % 5 := by omega
  have HN1 := Lib.hid hn1
  generalize 1 + y1 % 5 = nr at *
  have hsl := HLIN.out _ _ (h8.alloc (.cells #[] 5))
  have H8 := Lib.hid h8; have HQO := Lib.hid hqo; have HQI := Lib.hid hqi; have HSL := Lib.hid hsl
  clear KN h8 hqo hqi hsl hn1
  have gl1 : lead.length + b.length ≤ 1200 := by omega
  go_wp2_with (at_builtin; refine Hid.out ?_)
  refine Lib.hid ?_
  refine wpList_append_row (F := ldI ρi ++ (ldO ρo ++ [(b7, .cells MC 53 (0, 0)), (b4, .cells #[.int .u8 y0, .int .u8 y1] 47 (0, 0))])) rfl (.tmp 49) (.tmp 50) 27 rfl 5 (.int .u8 0) 1 1 Tryd.underlying27 (by kernel_rfl) rfl (by omega) rfl (Row.empty 5 1 w5.heap.size) (St.alloc H8.out (.cells #[] 5)) rfl HSL.out (one_bvals lead) lead.length (by omega) (lead.map bval) rfl (by unfold maxLen; omega) (by omega) ?_
  intro A6 c6 w6 L6 hr6 h6
  have hsb := HBIN.out _ _ h6
  have HR6 := Lib.hid hr6; have H6 := Lib.hid h6; have HSB := Lib.hid hsb
  clear hr6 h6 hsb H8 HSL
  go_wp2_with (at_builtin; refine Hid.out ?_)
  refine Lib.hid ?_
  refine wpList_append_row (F := ldI ρi ++ (ldO ρo ++ [(b7, .cells MC 53 (0, 0)), (b4, .cells #[.int .u8 y0, .int .u8 y1] 47 (0, 0))])) (L := L6) rfl (.tmp 51) (.tmp 52) 27 rfl 5 (.int .u8 0) 1 1 Tryd.underlying27 (by kernel_rfl) rfl (by omega) rfl HR6.out H6.out rfl HSB.out (one_bvals b) (lead ++ b).length (by rw [List.length_append]) ((lead ++ b).map bval) (by rw [List.map_append]) (by rw [List.length_append]; unfold maxLen; omega) (by rw [List.length_append]; omega) ?_
  intro A7 c7 w7 L7 hr7 h7
  have hal : (lead ++ b).length ≤ 1200 := by rw [List.length_append]; omega
  obtain ⟨J1, le1, s1, hp1⟩ := row_freeze hr7 (by omega) h7
  obtain ⟨all, hall⟩ : ∃ all, lead ++ b = all := ⟨_, rfl⟩
  rw [hall] at hal hp1 ⊢
  have s2 := s1.alloc (.cells #[.string ⟨#[99, 111, 114, 101]⟩, .slice A7 all.length c7] 57)
  obtain ⟨J2, le2, gg2, s3⟩ := St.freeze s2
  have hp2 := hp1.mono le2
  have c3 := core_net (T.out.more (le1.trans le2)) none 0 w7.heap.size all ⟨A7, c7, all⟩ hp2 rfl gg2 s3
  have C3 := Lib.hid c3; have LE2 := Lib.hid (le1.trans le2); have HP2 := Lib.hid hp2; have HALL := Lib.hid hall
  clear c3 hp1 hp2 s1 s2 s3 hr7 h7 le1 le2 gg2 HR6 H6 HSB hall gl1
  go_wp2_with fail
  refine C3.out.mono ?_
  rintro e w8 ⟨J, gn, mm, p, hle, rfl, hpb, hof, hN⟩
  have hJ := (LE2.out).trans hle
  have hN2 : NetSt W w8 J gn mm [((⟨#[99, 111, 114, 101]⟩ : ByteArray), p)] [] 0 (ldO ρo ++ (ldI ρi ++ [(b7, .cells MC 53 (0, 0)), (b4, .cells #[.int .u8 y0, .int .u8 y1] 47 (0, 0))])) := by
    obtain ⟨φ, hφ⟩ := hN
    exact ⟨φ, hφ.perm (List.Perm.append_left _ (by rw [← List.append_assoc, ← List.append_assoc]; exact List.Perm.append_right _ List.perm_append_comm))⟩
  have c4 := ld_new ⟨#[67, 79, 82, 69]⟩ 0 (T.out.more hJ) hof HQO.out HQI.out hN2
  have C4 := Lib.hid c4; have HJ := Lib.hid hJ; have HPB := Lib.hid hpb; have HP3 := Lib.hid (HP2.out.mono hle)
  clear c4 hN hN2 hof hpb hJ hle C3 LE2 T HP2 HQO HQI
  go_wp2_with fail
  refine C4.out.mono ?_
  rintro e w9 ⟨g, rfl, h9⟩
  have ho : offOf [((⟨#[99, 111, 114, 101]⟩ : ByteArray), p)] ⟨#[67, 79, 82, 69]⟩ = some p := by rw [offOf, fold_CORE]; simp [lookP, fold_core]
  have hat : all.take 2304 = all := List.take_of_length_le (by omega)
  have HO := Lib.hid ho; have HAT := Lib.hid hat
  have c5 := ld_step h9 (by decide) (by simp [LQ.start]) (by simp [LQ.start])
  rw [ho, Option.map_some, HPB.out, lal_first _ _ HN1.out, hat] at c5
  have C5 := Lib.hid c5
  clear c5 h9 ho hat C4
  go_wp2_with fail
  refine C5.out.mono ?_
  rintro e w10 ⟨J3, le3, rfl, h10⟩
  have c6 := ld_step h10 (by decide) (by simp [LQ.start]) (by simp [LQ.start])
  rw [stepQ_rest _ rfl rfl (.inl rfl)] at c6
  have C6 := Lib.hid c6; have LE3 := Lib.hid (HJ.out.trans le3)
  have HP4 := Lib.hid (HP3.out.mono le3)
  clear c6 h10 le3 C5 HP3
  go_wp2_with fail
  refine C6.out.mono ?_
  rintro e w11 ⟨J4, le4, rfl, h11⟩
  have c7 := lq_take h11
  have C7 := Lib.hid c7; have LE4 := Lib.hid (LE3.out.trans le4); have HP5 := Lib.hid (HP4.out.mono le4)
  clear c7 h11 le4 C6 HP4 LE3 HJ
  go_wp2_with fail
  refine C7.out.mono ?_
  rintro e w12 ⟨a, pp, rfl, hp, _, hx, h12⟩
  have e1 := hx (-1, all) [] rfl
  simp only [Prod.mk.injEq] at e1
  obtain ⟨rfl, hpp⟩ := e1
  clear hx C7
  obtain ⟨PA, Pc', Pb⟩ := pp
  simp only at hpp hp
  subst hpp
  have h13 := h12.alloc (.cells #[.int .i64 (-1), .slice PA all.length Pc'] 37)
  obtain ⟨X, hX, hXm⟩ := h13.toF
  have q0 := hX.cell (hXm _ (List.mem_cons_self ..)) 0
  have q1 := hX.cell (hXm _ (List.mem_cons_self ..)) 1
  dsimp only [List.isEmpty_cons, Bool.not_false]
  have hs1 := fun k => conv_str (P := Tryd.prog) (c := Pc') Tryd.underlying27 Tryd.underlying5 Tryd.underlying9 (hp.in_ _ _ (hX.drew k))
  have hs2 := fun k => conv_str (P := Tryd.prog) (c := c7) Tryd.underlying27 Tryd.underlying5 Tryd.underlying9 (HP5.out.in_ _ _ (hX.drew k))
  have sl := fun w => run_slice_to Tryd.underlying27 Tryd.sizeOf5 A7 all.length c7 all.length (by have := HP5.out.le; exact this) w
  simp only at hs1 hs2
  have hmin : min (all.length : Int) 2304 = all.length := by omega
  have hrg : ∀ k, ((w12.alloc (.cells #[.int .i64 (-1), .slice PA all.length Pc'] 37)).drewN k).rangeAt b7 0 MC.toList := fun k j u hj => by
    rw [Nat.zero_add, (hX.drew k).cell (hXm _ (List.mem_cons_of_mem _ (List.mem_cons_self ..))) j]
    simpa using hj
  obtain ⟨z1, z2, z3, z4, z5, z6⟩ := made_all HMK.out
  have hright : rightM m = true := by rw [HM.out]; exact z6 A c
  have hmn : m.n = mkN cn b := by rw [HM.out]; rfl
  have hmc : m.chunk = cn := by rw [HM.out]; rfl
  have hmz : m.size = b.length := by rw [HM.out]; rfl
  have hmp : m.prod.size ≤ 1000000 := by rw [HM.out]; show ByteArray.size ⟨#[99, 111, 114, 101]⟩ ≤ 1000000; decide
  have hbg := run_build_goA (lead.length : Int) m HOK.out
  obtain ⟨Y, hY⟩ : ∃ Y, gcells (lead.length : Int) m = Y := ⟨_, rfl⟩
  rw [HMC.out, hY] at hbg
  have h13b : LdSt W (w12.alloc (.cells #[.int .i64 (-1), .slice PA all.length Pc'] 37)) J4 g gn mm [((⟨#[99, 111, 114, 101]⟩ : ByteArray), p)] ⟨#[67, 79, 82, 69]⟩ ρo.r ρi.r nr 2 { LQ.start 0 [] 0 with cnt := 1, out := [], wants := -2 } ((w12.heap.size, .cells #[.int .i64 (-1), .slice PA all.length Pc'] 37 (0, 0)) :: [(b7, .cells MC 53 (0, 0)), (b4, .cells #[.int .u8 y0, .int .u8 y1] 47 (0, 0))]) := h13
  have kT : ∀ k, Calls Tryd.prog 12 #[.pointer (some ⟨ρi.r, 0, none⟩), .iface 62 (.agg Y)] ((w12.alloc (.cells #[.int .i64 (-1), .slice PA all.length Pc'] 37)).drewN k) fun e w' => e = .returned (.bool true) ∧ LdSt W w' J4 g gn mm [((⟨#[99, 111, 114, 101]⟩ : ByteArray), p)] ⟨#[67, 79, 82, 69]⟩ ρo.r ρi.r nr 2 { LQ.start 0 [] 0 with cnt := 1, out := [], inn := [.go lead.length m], wants := -2 } [(b7, .cells MC 53 (0, 0)), (b4, .cells #[.int .u8 y0, .int .u8 y1] 47 (0, 0))] := fun k => by
    have h := lal_tell (h13b.drewN k) rfl (.go lead.length m) ⟨HOK.out, hmp⟩
    rw [show (Nt.go (lead.length : Int) m).d = .agg Y from congrArg Value.agg hY] at h
    exact h.mono fun e w' hw => ⟨hw.1, LdSt.less (A := [_]) (B := []) hw.2⟩
  have HRG := Lib.hid hrg; have HBG := Lib.hid hbg; have KT := Lib.hid kT; have HRT := Lib.hid hright; have HMN := Lib.hid hmn; have HMCH := Lib.hid hmc; have HMZ := Lib.hid hmz; have Z1 := Lib.hid z1; have Z2 := Lib.hid z2; have Z3 := Lib.hid z3; have Z4 := Lib.hid z4; have Z5 := Lib.hid z5
  clear hrg hbg kT hright hmn hmc hmz hmp h13 h13b hX hXm h12 hp z1 z2 z3 z4 z5 z6 hY
  go_wp2_with fail
  go_quiet (fail)
  clear hs1 hs2 sl hmin q0 q1
  go_wp2_with (first | (with_reducible refine wpList_load_mid rfl 53 (.tmp 7) rfl b7 0 rfl MC.toList _ (HRG.out _) Tryd.underlying53 rfl (by rw [Array.length_toList]; exact HMI.out) ?_) | (with_reducible refine wpList_build_goA rfl 62 _ rfl _ ?_ (HBG.out _) ?_; · go_simp))
  refine (KT.out _).mono ?_
  rintro e w13 ⟨rfl, h14⟩
  have c8 := ld_step h14 (by decide) (by simp [LQ.start]) (by simp [LQ.start])
  rw [HO.out, Option.map_some, HPB.out, lal_go _ _ _ _ HRT.out (by omega) (by omega) (by rw [HMN.out]; have := Z2.out; omega)] at c8
  have C8 := Lib.hid c8
  clear c8 h14 KT
  go_wp2_with fail
  refine C8.out.mono ?_
  rintro e w14 ⟨J5, le5, rfl, h15⟩
  have LE5 := Lib.hid (LE4.out.trans le5)
  have hfc : w14.cell? ⟨b7, 36, none⟩ = some (.slice m.A m.n m.c) := by
    obtain ⟨X, hX, hXm⟩ := h15.toF
    rw [hX.cell (hXm _ (List.mem_cons_self ..)) 36, ← HMC.out]
    exact Man.g36 HOK.out
  obtain ⟨N, hN⟩ : ∃ N, mkN cn b = N := ⟨_, rfl⟩
  have hmn : m.n = N := HMN.out.trans hN
  rw [hmn] at hfc
  have hN64 : N ≤ 64 := by rw [← hN]; exact Z3.out
  have H15 := Lib.hid h15; have HN := Lib.hid hN; have HMN2 := Lib.hid hmn; have HP6 := Lib.hid (HP5.out.mono le5)
  clear h15 le5 C8 LE4 hN hmn HP5 c1
  go_wp2_with fail
  clear hfc
  go_loopw [15, 112] (fun cv i wr => ∃ (k : Nat) (J' : Nat → Option Obj), i = .int .i64 k ∧ cv = .string ⟨(b.take (k * cn)).toArray⟩ ∧ k ≤ N ∧ Le J5 J' ∧ LdSt W wr J' g gn mm [((⟨#[99, 111, 114, 101]⟩ : ByteArray), p)] ⟨#[67, 79, 82, 69]⟩ ρo.r ρi.r nr 2 (lalQ lead.length m k) [(b7, .cells MC 53 (0, 0)), (b4, .cells #[.int .u8 y0, .int .u8 y1] 47 (0, 0))]) (fun _ i _ => N - (intOf i).toNat)
  case atStart => exact ⟨0, J5, rfl, by rw [Nat.zero_mul]; rfl, Nat.zero_le _, Le.refl _, H15.out⟩
  case round =>
    obtain ⟨k, J', rfl, rfl, hk, hlj, hst⟩ := hrel
    clear H15
    by_cases hkn : k < N
    · have kW := lq_wants hst
      rw [show (lalQ lead.length m k).wants = (k : Int) by simp only [lalQ]; rw [if_neg (by rw [HMN2.out]; omega)]] at kW
      have kS := ld_step hst (by decide) (by simp [lalQ]) (by simp only [lalQ]; omega)
      rw [HO.out, Option.map_some, HPB.out, ← HALL.out, lal_step lead b cn m k nr HRT.out HMCH.out HMZ.out (by rw [HMN2.out]; exact hkn) HN1.out Z1.out (Z5.out k (by rw [HN.out]; exact hkn))] at kS
      have KW := Lib.hid kW; have KS := Lib.hid kS; have HLJ := Lib.hid hlj
      have hkI : (k : Int) < N := by omega
      clear kW kS hlj hst
      go_wp2_with (go_at_call 18; refine KW.out.mono ?_; rintro e wz ⟨rfl, rfl⟩)
      refine KS.out.mono ?_
      rintro e w15 ⟨J6, le6, rfl, h16⟩
      have kT := lq_take h16
      have KT := Lib.hid kT; have LE6 := Lib.hid (HLJ.out.trans le6)
      clear kT h16 le6 KS HLJ KW
      go_wp2_with fail
      refine KT.out.mono ?_
      rintro e w16 ⟨a9, pp, rfl, hp, _, hx, h17⟩
      have e1 := hx ((k : Int), chunkAt b cn k) [] rfl
      simp only [Prod.mk.injEq] at e1
      obtain ⟨rfl, hpp⟩ := e1
      clear hx KT
      obtain ⟨PB, Pc2, Pb⟩ := pp
      simp only at hpp hp
      obtain ⟨ck, hck⟩ : ∃ ck, chunkAt b cn k = ck := ⟨_, rfl⟩
      rw [hck] at hpp
      subst hpp
      have h18 := h17.alloc (.cells #[.int .i64 k, .slice PB ck.length Pc2] 37)
      obtain ⟨X, hX, hXm⟩ := h18.toF
      have hs1 := conv_str (P := Tryd.prog) (c := Pc2) Tryd.underlying27 Tryd.underlying5 Tryd.underlying9 (hp.in_ _ _ hX)
      simp only at hs1
      have hl1 : ck.length ≤ 1000000000 := hp.len
      have hl2 : (b.take (k * cn)).length ≤ 1000 := by rw [List.length_take]; omega
      have hsz : ¬ ((9223372036854775807 : Int) < ((⟨(b.take (k * cn)).toArray⟩ : ByteArray).size + (⟨ck.toArray⟩ : ByteArray).size : Int)) := by rw [ba_size, ba_size]; omega
      have H18 := Lib.hid h18; have HCK := Lib.hid hck
      obtain ⟨bt, hbt⟩ : ∃ bt, b.take (k * cn) = bt := ⟨_, rfl⟩
      rw [hbt] at hsz ⊢
      have HBT := Lib.hid hbt
      clear h17 h18 hX hXm hp hl2 hck hbt
      dsimp only [List.isEmpty_cons, Bool.not_false]
      go_wp2_with fail
      go_roundw
      case rel => exact ⟨k + 1, J6, by go_num, by rw [ba_app, ← HBT.out, ← HCK.out, take_chunk], by omega, LE6.out, LdSt.less (A := [_]) (B := []) H18.out⟩
      case measure => simp [intOf]; omega
    · obtain rfl : k = N := by omega
      have hbk : b.take (k * cn) = b := List.take_of_length_le (by rw [← HN.out]; exact Z4.out)
      rw [hbk]
      have kW := lq_wants hst
      rw [show (lalQ lead.length m k).wants = (-2 : Int) by simp only [lalQ]; rw [if_pos HMN2.out.symm]] at kW
      have kS := ld_step hst (by decide) (by simp [lalQ]) (by simp only [lalQ]; omega)
      have hqe : ∀ o, (lalQ lead.length m k).stepQ o nr = (false, lalQ lead.length m k) := fun o => stepQ_rest o rfl rfl (.inl (by simp only [lalQ]; rw [if_pos HMN2.out.symm]))
      rw [hqe] at kS
      obtain ⟨X, hX, hXm⟩ := hst.toF
      have hs1 := conv_str (P := Tryd.prog) (c := bc) Tryd.underlying27 Tryd.underlying5 Tryd.underlying9 (HBIN.out _ _ (hX.less (LE5.out.trans hlj)))
      simp only at hs1
      have KW := Lib.hid kW; have KS := Lib.hid kS; have HLJ := Lib.hid hlj
      clear kW kS hlj hst hX hXm hqe
      go_wp2_with (first | (go_at_call 18; refine KW.out.mono ?_; rintro e wz ⟨rfl, rfl⟩) | (go_at_call 13; refine KS.out.mono ?_; rintro e w15 ⟨J6, le6, rfl, h16⟩; have kE := lq_err h16; have kO := lq_olen h16; have KE := Lib.hid kE; have KO := Lib.hid kO; have H16 := Lib.hid h16; have LE6 := Lib.hid (HLJ.out.trans le6); clear kE kO h16 le6) | (go_at_call 14; refine KE.out.mono ?_; rintro e wz ⟨rfl, rfl⟩; dsimp only [lalQ]) | (go_at_call 19; refine KO.out.mono ?_; rintro e wz ⟨rfl, rfl⟩; dsimp only [lalQ, List.length_nil]))
      go_ret
      refine ⟨rfl, ?_⟩
      have hfin := ((H16.out.end_ (LE5.out.trans LE6.out)).weaken (A := [_])).below (Le.refl _)
      rw [HB4.out] at hfin
      exact hfin
end Go.Proofs.YtnhlpiomfljlcaaDoor
