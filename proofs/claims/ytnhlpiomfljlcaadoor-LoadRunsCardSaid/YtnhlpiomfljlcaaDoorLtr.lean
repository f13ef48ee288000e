/- LoadTries: the walk of the law. -/
import Derived.Test.YtnhlpiomfljlcaaDoorLdT
import Derived.Deep.DeepCutAuto
namespace Go.Proofs.YtnhlpiomfljlcaaDoor
set_option linter.unusedVariables false
set_option linter.unusedSimpArgs false
open Go.RowKit Go.Lib

section
variable {W w : World} {J : Nat → Option Obj} {F : List (Nat × Obj)} {g gn m : Nat} {es : List (ByteArray × Part)} {name : ByteArray} {ro ri n ni : Nat} {q : LQ}
theorem LdSt.front {P : Nat × Obj} (h : LdSt W w J g gn m es name ro ri n ni q (P :: F)) : ∃ X, St W w J (P :: X) ∧ ∀ w' P', St W w' J (P' :: X) → LdSt W w' J g gn m es name ro ri n ni q (P' :: F) := by
  obtain ⟨l, ρo, ρi, hi, hni, φ, hs⟩ := h
  refine ⟨(φ.L' gn m es q.cnt ++ (ldG g l :: (ldO ρo ++ ldI ρi))) ++ F, ?_, fun w' P' hw => ⟨l, ρo, ρi, hi, hni, φ, ?_⟩⟩
  · have h3 : St W w J ((φ.L' gn m es q.cnt ++ (ldG g l :: (ldO ρo ++ ldI ρi))) ++ (P :: F)) := by simpa [List.append_assoc] using hs
    exact h3.perm List.perm_middle
  · have h3 := hw.perm (List.perm_middle (l₁ := φ.L' gn m es q.cnt ++ (ldG g l :: (ldO ρo ++ ldI ρi))) (l₂ := F) (a := P')).symm
    simpa [List.append_assoc] using h3
theorem LdSt.thru (h : LdSt W w J g gn m es name ro ri n ni q F) : ∃ X, St W w J X ∧ (∀ p ∈ F, p ∈ X) ∧ ∀ w', St W w' J X → LdSt W w' J g gn m es name ro ri n ni q F := by
  obtain ⟨l, ρo, ρi, hi, hni, φ, hs⟩ := h
  exact ⟨_, hs, fun p hp => by simp [hp], fun w' hw => ⟨l, ρo, ρi, hi, hni, φ, hw⟩⟩
theorem LdSt.small (h : LdSt W w J g gn m es name ro ri n ni q F) : q.out.length ≤ 16 ∧ q.inn.length ≤ 16 := by
  obtain ⟨l, ρo, ρi, hi, hni, φ, hs⟩ := h
  have h1 := hi.out.len
  have h2 : q.inn.length = ρi.xs.length := by rw [hi.inn, List.length_map]
  have := hi.qo.many; have := hi.qo.n16; have := hi.qi.many; have := hi.qi.n16
  omega
end
theorem note_ok {t : Tl} {W : World} (h : t.Ok W) (hn : t.m.prod.size ≤ 1000000) : (noteOf t).Ok := by
  unfold noteOf
  split
  · trivial
  · split
    · exact ⟨h.m, hn⟩
    · split <;> trivial
section
variable {H : Type} {enc : TypeId × Value → H}
set_option maxRecDepth 100000 in
set_option maxHeartbeats 8000000 in
theorem walk_loadTries (W : World) (tabs : Tabs W) {v0 v1 : Value} (a0 : Arg enc Tryd.prog W 67 v0) (a1 : Arg enc Tryd.prog W 68 v1) : Calls Tryd.prog 5 #[v0, v1] W fun e w' => e = .returned (.bool true) ∧ Below W.heap.size W w' := by
  obtain ⟨x, rfl⟩ := Arg.lworld a0
  obtain ⟨A, c, l, rfl, hlm, hact⟩ := Arg.dones a1
  have hact : ActAt A l W := hact
  have h1 := (St.start W).alloc (.cells x.cells 67)
  obtain ⟨J0, le0, gg, s1⟩ := St.freeze h1
  have t := (TB.start tabs).more le0
  have hfw : ∀ (v : World) (J : Nat → Option Obj) (L : List (Nat × Obj)), St W v J L → Le J0 J → v.cell? ⟨W.heap.size, 0, none⟩ = some (.slice x.OA x.os.length x.oc) ∧ v.cell? ⟨W.heap.size, 1, none⟩ = some (.slice x.FA x.fs.length x.fc) ∧ v.cell? ⟨W.heap.size, 2, none⟩ = some (.string x.name) ∧ v.cell? ⟨W.heap.size, 3, none⟩ = some (.int .i64 x.tries) ∧ v.cell? ⟨W.heap.size, 4, none⟩ = some (.int .i64 x.r0) ∧ v.cell? ⟨W.heap.size, 5, none⟩ = some (.int .i64 x.r1) := fun v J L hv hle =>
    ⟨imm_cell hv (hle _ _ gg) 0, imm_cell hv (hle _ _ gg) 1, imm_cell hv (hle _ _ gg) 2, imm_cell hv (hle _ _ gg) 3, imm_cell hv (hle _ _ gg) 4, imm_cell hv (hle _ _ gg) 5⟩
  have kG := fun (v : World) (hv : St W v J0 []) => great_any x A c l hact hlm le0 hv
  have hend : ∀ w' J, Le J0 J → St W w' J [] → Below W.heap.size W w' := fun w' J hle hw => hw.below (le0.trans hle)
  unfold WArg.cells at kG s1 ⊢
  have T := Lib.hid t; have FW := Lib.hid hfw; have KG := Lib.hid kG; have S1 := Lib.hid s1; have HACT := Lib.hid hact; have LE0 := Lib.hid le0; have HEND := Lib.hid hend
  clear t hfw kG s1 hact le0 h1 gg a0 a1 tabs hend
  go_enter Tryd.func5, Tryd.ntmps5
  go_wp2_with fail
  refine (load_alive T.out S1.out).mono ?_
  rintro e w1 ⟨rfl, h2⟩
  obtain ⟨d0, d1, d2, d3, d4, d5⟩ := FW.out _ _ _ h2 (Le.refl _)
  have kg := KG.out _ h2
  have KG2 := Lib.hid kg; have H2 := Lib.hid h2
  clear kg h2 KG
  go_wp2_with fail
  refine KG2.out.mono ?_
  rintro e w2 ⟨b, rfl, h3, hsm⟩
  clear KG2 d0 d1 d2 d3 d4 d5
  have e2 := FW.out _ _ _ h3 (Le.refl _)
  obtain ⟨d0, d1, d2, d3, d4, d5⟩ := e2
  have H3 := Lib.hid h3
  have HSM := Lib.hid hsm
  clear h3 H2 hsm
  cases b with
  | true =>
    go_wp2_with fail
    go_ret
    exact ⟨rfl, HEND.out _ _ (Le.refl _) H3.out⟩
  | false =>
    have sm := HSM.out rfl
    have hoff := (x_offin x sm).mono LE0.out
    have hfi : FIn x.FA x.fs W J0 := fun v L hv => x.fin v L (hv.less LE0.out)
    have hN := net_new T.out x.OA x.oc x.os hoff (by have := sm.os; omega) x.FA x.fc x.fs hfi (by have := sm.fs; omega) H3.out
    have HN := Lib.hid hN; have SM := Lib.hid sm
    clear hN hoff hfi sm HSM
    go_wp2_with fail
    refine HN.out.mono ?_
    rintro e w3 ⟨J, gn, m, es, hle, rfl, hnet, hof, hes⟩
    clear HN d0 d1 d2 d3 d4 d5 H3
    obtain ⟨φ, hs4⟩ := hnet
    obtain ⟨d0, d1, d2, d3, d4, d5⟩ := FW.out _ _ _ hs4 hle
    have HS4 := Lib.hid hs4; have HLE := Lib.hid hle; have HOF := Lib.hid hof
    clear hs4 hle hof hes
    go_wp2_with fail
    go_region_held3 (fun w' => w'.cell? ⟨W.heap.size, 4, none⟩ = some (.int .i64 x.r0) ∧ w'.cell? ⟨W.heap.size, 5, none⟩ = some (.int .i64 x.r1)) (first | exact ⟨d4, d5⟩ | exact S5 | exact S6 | assumption) (first
      | (go_at_call 8; refine (new_pc' (room := x.r0) (by first | exact HS4.out.drew _ | exact HS4.out.drew1 | exact HS4.out)).mono ?_; rintro e w5 ⟨ρo, hqo, rfl, h5⟩; have S5 : w5.cell? ⟨W.heap.size, 4, none⟩ = some (.int .i64 x.r0) ∧ w5.cell? ⟨W.heap.size, 5, none⟩ = some (.int .i64 x.r1) := ⟨(FW.out _ _ _ h5 HLE.out).2.2.2.2.1, (FW.out _ _ _ h5 HLE.out).2.2.2.2.2⟩; have H5 := Lib.hid h5; clear h5)
      | (go_at_call 9; refine (new_nt' (room := x.r1) H5.out).mono ?_; rintro e w6 ⟨ρi, hqi, rfl, h6⟩; have S6 : w6.cell? ⟨W.heap.size, 4, none⟩ = some (.int .i64 x.r0) ∧ w6.cell? ⟨W.heap.size, 5, none⟩ = some (.int .i64 x.r1) := ⟨(FW.out _ _ _ h6 HLE.out).2.2.2.2.1, (FW.out _ _ _ h6 HLE.out).2.2.2.2.2⟩; have H6 := Lib.hid h6; clear h6))
    clear d0 d1 d2 d3 d4 d5
    obtain ⟨d0, d1, d2, d3, d4, d5⟩ := FW.out _ _ _ H6.out HLE.out
    have hnet : NetSt W w6 J gn m es x.fs 0 (ldO ρo ++ (ldI ρi ++ [])) := ⟨φ, by
      have g1 : St W w6 J (ldI ρi ++ (ldO ρo ++ (φ.L' gn m es 0 ++ []))) := H6.out
      have g2 := g1.perm (L' := φ.L' gn m es 0 ++ (ldO ρo ++ (ldI ρi ++ []))) (by
        refine List.Perm.trans List.perm_append_comm ?_
        simp only [List.append_nil]
        refine List.Perm.trans (List.Perm.append_right _ List.perm_append_comm) ?_
        rw [List.append_assoc])
      exact g2⟩
    have c7 := ld_new x.name x.tries (T.out.more HLE.out) HOF.out hqo hqi hnet
    have C7 := Lib.hid c7
    clear c7 hnet S5 S6
    go_wp2_with fail
    refine C7.out.mono ?_
    rintro e w8 ⟨g, rfl, h8⟩
    clear d0 d1 d2 d3 d4 d5 H6 HS4 C7
    obtain ⟨q0, hq0⟩ : ∃ q0, LQ.start x.tries x.fs 0 = q0 := ⟨_, rfl⟩
    have e1 : q0.err = 0 := by rw [← hq0]; rfl
    have e2 : q0.left ≤ 100 := by rw [← hq0]; exact tries_le _
    have e3 : q0.fs.length ≤ 60 := by rw [← hq0]; exact SM.out.fs
    have e4 : q0.cnt = 0 := by rw [← hq0]; rfl
    rw [hq0] at h8
    have H8 := Lib.hid h8; have E1 := Lib.hid e1; have E4 := Lib.hid e4
    generalize ρo.r = ro at *
    generalize ρi.r = ri at *
    generalize roomOf x.r0 = n at *
    generalize roomOf x.r1 = ni at *
    clear h8 hq0 e1 e4 hqo hqi
    have n1 : ¬ (q0.left : Int) < 0 := by omega
    have n2 : ¬ (100 : Int) < (q0.left : Int) := by omega
    go_wp2_with (first | (go_at_call 15; refine (lq_left H8.out).mono ?_; rintro e w9 ⟨rfl, rfl⟩) | (go_at_call 14; refine (lq_err H8.out).mono ?_; rintro e w9 ⟨rfl, rfl⟩; rw [E1.out]))
    have h80 := SM.out.acts
    have hnm : x.name.size ≤ 200 := SM.out.name
    have hact10 := SM.out.act
    have HACT10 := Lib.hid hact10; have HE3 := Lib.hid e3
    clear hact10 n1 n2 e3 SM
    generalize x.name = nm at *
    clear FW
    go_loopw [9, 10, 62] (fun lv ev i wr => ∃ (k : Nat) (J' : Nat → Option Obj) (q : LQ), i = .int .i64 k ∧ lv = .int .i64 q.left ∧ ev = .int .i64 q.err ∧ k ≤ l.length ∧ Le J J' ∧ q.left ≤ q0.left ∧ (q.err = 191 → q.left = 0) ∧ q.fs.length ≤ 60 ∧ q.cnt ≤ k ∧ LdSt W wr J' g gn m es nm ro ri n ni q []) (fun _ _ i _ => l.length - (intOf i).toNat)
    case atStart => exact ⟨0, J, q0, rfl, rfl, by rw [E1.out], by omega, Le.refl _, Nat.le_refl _, fun h => absurd (E1.out.symm.trans h) (by decide), HE3.out, by rw [E4.out]; exact Nat.le_refl _, H8.out⟩
    case round =>
      obtain ⟨k, J', q, rfl, rfl, rfl, hk, hlj, hql, hqe, hqf, hqc, hst⟩ := hrel
      clear H8
      by_cases hkl : k < l.length
      · obtain ⟨d, hok⟩ : ∃ d, l[k]? = some d := ⟨_, List.getElem?_eq_getElem hkl⟩
        obtain ⟨dok, b, off, rfl, hro⟩ := HACT.out k d hok
        have hd10 := HACT10.out d (List.mem_of_getElem? hok)
        have mok := dok.t.m
        have hle := LE0.out.trans (HLE.out.trans hlj)
        obtain ⟨X0, hX0, _⟩ := hst.thru
        have hrg := act_range (off := off + k * 43) mok hle hro hX0
        have h8 := hst.alloc (.cells zDn.arr 73)
        obtain ⟨X, hfr, hback⟩ := h8.front
        have hmany := dn_many mok
        have hfit := dn_fit mok
        rw [zdn_lit] at hfr hmany hfit
        have hfa : ∀ v L, St W v J' L → (wr.heap.size, Obj.cells d.arr 73 (0, 0)) ∈ L → v.cell? ⟨wr.heap.size, 0, none⟩ = some (.int .i64 d.kind) ∧ v.rangeAt wr.heap.size 1 d.t.arr.toList := fun v L hv hm =>
          ⟨(hv.cell hm 0).trans dn0, fun j u hj => by
            have hj41 : j < 41 := by have := (List.getElem?_eq_some_iff.1 hj).1; rw [Array.length_toList, tl_size mok] at this; exact this
            rw [hv.cell hm (1 + j), dn_t mok j hj41]; simpa using hj⟩
        have HR := Lib.hid hrg; have HFR := Lib.hid hfr; have HM := Lib.hid hmany; have HFT := Lib.hid hfit; have HIN := Lib.hid (dn_info mok); have HO := Lib.hid (dn_one d); have FAC := Lib.hid hfa; have HBK := Lib.hid hback; have DOK := Lib.hid dok
        have TIN : Hid ((Tryd.prog.info? 71).map (·.size) = some d.t.arr.size) := Lib.hid (by rw [tl_size mok]; kernel_rfl)
        have NOK := Lib.hid (note_ok dok.t (by have := hd10.2.1; omega)); have HLJ := Lib.hid hlj; have HQE := Lib.hid hqe
        have HKD : Hid (d.t.m.Ok) := Lib.hid mok
        clear hrg hfr hmany hfit hfa hback dok hro hok mok hst hX0 h8 hle hlj hqe hd10
        have hkb : (k : Int) < l.length := by omega
        obtain ⟨C, hC⟩ : ∃ C, d.arr = C := ⟨_, rfl⟩
        obtain ⟨T1, hT1⟩ : ∃ T1, d.t.arr = T1 := ⟨_, rfl⟩
        obtain ⟨kd, hkd⟩ : ∃ kd, d.kind = kd := ⟨_, rfl⟩
        rw [hC] at HR HM HFT HIN HO FAC
        rw [hT1, hkd] at FAC
        rw [hT1] at TIN
        have HT1 := Lib.hid hT1
        clear hC hT1 hkd
        have hnt : ∀ v L, St W v J' L → Calls Tryd.prog 21 #[.agg T1] v fun e w' => e = .returned (.iface (noteOf d.t).T (noteOf d.t).d) ∧ St W w' J' L := fun v L hv => by rw [← HT1.out]; exact law_note d.t HKD.out hv
        have HNT := Lib.hid hnt; clear hnt
        by_cases k1 : kd = 1
        · subst k1
          go_wp2_with (first | (with_reducible refine wpList_load_mid rfl 73 (.tmp 64) rfl b (off + k * 43) rfl C.toList _ HR.out Tryd.underlying73 rfl (by rw [Array.length_toList]; exact HIN.out) ?_) | (with_reducible refine wpList_store_st rfl 73 (.tmp 13) (.tmp 65) rfl (g := wr.heap.size) (off := 0) C rfl rfl HFR.out HFT.out HIN.out HO.out ?_; intro w9 h9; rw [HM.out] at h9; have hl9 := HBK.out _ _ h9; obtain ⟨f0, frg⟩ := FAC.out _ _ h9 (List.mem_cons_self ..); have H9 := Lib.hid hl9; have RG9 := Lib.hid frg; clear h9 hl9 frg) | (with_reducible refine wpList_load_mid rfl 71 (.tmp 70) rfl (wr.heap.size) 1 rfl T1.toList _ RG9.out Tryd.underlying71 rfl (by rw [Array.length_toList]; exact TIN.out) ?_) | (go_at_call 21; obtain ⟨X9, hx9, _, hb9⟩ := H9.out.thru; refine (HNT.out _ _ hx9).mono ?_; rintro e w10 ⟨rfl, h10⟩; have H10 := Lib.hid (hb9 _ h10); clear h10 hx9 hb9) | (go_at_call 12; refine (lq_tell H10.out (noteOf d.t) NOK.out).mono ?_; rintro e w11 ⟨rfl, h11⟩; have H11 := Lib.hid h11; clear h11))
          go_roundw
          case rel =>
            have hsame : ∀ q2 : LQ, q2 = (if q.inn.length < ni then { q with inn := q.inn ++ [noteOf d.t] } else q) → q2.left = q.left ∧ q2.err = q.err ∧ q2.fs = q.fs ∧ q2.cnt = q.cnt := by
              rintro q2 rfl; split <;> exact ⟨rfl, rfl, rfl, rfl⟩
            obtain ⟨z1, z2, z3, z4⟩ := hsame _ rfl
            exact ⟨k + 1, _, _, by go_num, by rw [z1], by rw [z2], by omega, HLJ.out, by rw [z1]; omega, by rw [z1, z2]; exact HQE.out, by rw [z3]; omega, by rw [z4]; omega, LdSt.less (A := [_]) (B := []) H11.out⟩
          case measure => simp [intOf]; omega
        · by_cases k2 : kd = 2
          · subst k2
            go_wp2_with (first | (with_reducible refine wpList_load_mid rfl 73 (.tmp 64) rfl b (off + k * 43) rfl C.toList _ HR.out Tryd.underlying73 rfl (by rw [Array.length_toList]; exact HIN.out) ?_) | (with_reducible refine wpList_store_st rfl 73 (.tmp 13) (.tmp 65) rfl (g := wr.heap.size) (off := 0) C rfl rfl HFR.out HFT.out HIN.out HO.out ?_; intro w9 h9; rw [HM.out] at h9; have hl9 := HBK.out _ _ h9; obtain ⟨f0, frg⟩ := FAC.out _ _ h9 (List.mem_cons_self ..); have H9 := Lib.hid hl9; have RG9 := Lib.hid frg; clear h9 hl9 frg) | (go_at_call 17; refine (lq_take H9.out).mono ?_; rintro e w10 ⟨a, p, rfl, _, _, _, h10⟩; have H10 := Lib.hid h10; clear h10))
            go_roundw
            case rel => exact ⟨k + 1, _, { q with out := q.out.tail }, by go_num, rfl, rfl, by omega, HLJ.out, hql, HQE.out, hqf, by show q.cnt ≤ k + 1; omega, LdSt.less (A := [_]) (B := []) H10.out⟩
            case measure => simp [intOf]; omega
          · have kb1 : (kd == 1) = false := by simpa using k1
            have kb2 : (kd == 2) = false := by simpa using k2
            clear k1 k2 HNT
            obtain ⟨r, hr⟩ : ∃ r, (q.stepQ ((offOf es nm).map (·.bs)) n).2 = r := ⟨_, rfl⟩
            have hstp : ∀ v, LdSt W v J' g gn m es nm ro ri n ni q [(wr.heap.size, .cells C 73 (0, 0))] → Calls Tryd.prog 13 #[.pointer (some ⟨g, 0, none⟩)] v (StepPost W J' g gn m es nm ro ri n ni [(wr.heap.size, .cells C 73 (0, 0))] (q.stepQ ((offOf es nm).map (·.bs)) n).1 r) := fun v hv => by rw [← hr]; exact ld_step hv (by omega) (by omega) (by omega)
            have hst0 := step_same q ((offOf es nm).map (·.bs)) n
            have hst1 := step_out q ((offOf es nm).map (·.bs)) n
            have hst2 := step_stays q ((offOf es nm).map (·.bs)) n
            rw [hr] at hst0 hst1
            have hst3 : q.err ≠ 0 → (q.stepQ ((offOf es nm).map (·.bs)) n).1 = false := fun h => by rw [hst2 h]
            clear hst2 hr
            generalize (q.stepQ ((offOf es nm).map (·.bs)) n).1 = dd at *
            have HSTP := Lib.hid hstp
            have hn0 : q.err ≠ 0 → dd = false ∧ r = q := fun h => ⟨hst3 h, hst0 (hst3 h)⟩
            have hll : r.left ≤ q.left ∧ q.left ≤ r.left + 1 ∧ r.out.length ≤ q.out.length + 1 ∧ r.cnt ≤ q.cnt + 1 ∧ q.inn.length ≤ r.inn.length + 1 ∧ (r.err = 191 → r.left = 0) ∧ r.fs.length ≤ q.fs.length := by
              cases dd with
              | false => obtain rfl := hst0 rfl; exact ⟨Nat.le_refl _, Nat.le_succ _, Nat.le_succ _, Nat.le_succ _, Nat.le_succ _, HQE.out, Nat.le_refl _⟩
              | true =>
                have e0 : q.err = 0 := by
                  by_cases h : q.err = 0
                  · exact h
                  · exact absurd (hst3 h) (by decide)
                have out := hst1 e0 rfl
                exact ⟨out.l0, out.l1, out.o1, out.c1, out.n1, out.e, out.fs⟩
            have HST0 := Lib.hid hst0; have HST1 := Lib.hid hst1; have HN0 := Lib.hid hn0; have HST3 := Lib.hid hst3
            obtain ⟨l0, l1, o1, c1, i1, hre, hrf⟩ := hll
            have HRE := Lib.hid hre; have HRF := Lib.hid hrf; have HL0 := Lib.hid l0; have HL1 := Lib.hid l1; have HO1 := Lib.hid o1; have HC1 := Lib.hid c1; have HI1 := Lib.hid i1; have HQL := Lib.hid hql
            clear hst0 hst1 hst3 hn0 hstp hre hrf l0 l1 o1 c1 i1 hql
            go_upto_region 20 with (first | (go_at_call 19; refine (lq_olen H9.out).mono ?_; rintro e wz ⟨rfl, rfl⟩) | (go_at_call 22; refine (lq_fetches H9.out).mono ?_; rintro e wz ⟨rfl, rfl⟩) | (go_at_call 23; refine (lq_ilen H9.out).mono ?_; rintro e wz ⟨rfl, rfl⟩) | (go_at_call 13; refine (HSTP.out _ H9.out).mono ?_; rintro e w10 ⟨J10, le10, rfl, h10⟩; have LE10 := Lib.hid le10; have H10 := Lib.hid h10; clear le10 h10) | (with_reducible refine wpList_load_mid rfl 73 (.tmp 64) rfl b (off + k * 43) rfl C.toList _ HR.out Tryd.underlying73 rfl (by rw [Array.length_toList]; exact HIN.out) ?_) | (with_reducible refine wpList_store_st rfl 73 (.tmp 13) (.tmp 65) rfl (g := wr.heap.size) (off := 0) C rfl rfl HFR.out HFT.out HIN.out HO.out ?_; intro w9 h9; rw [HM.out] at h9; have hl9 := HBK.out _ _ h9; obtain ⟨f0, frg⟩ := FAC.out _ _ h9 (List.mem_cons_self ..); have H9 := Lib.hid hl9; have RG9 := Lib.hid frg; clear h9 hl9 frg))
            go_cut [133] (fun s wx => s = .bool false ∧ wx = w10)
            case first =>
              have hb : q.left ≤ 100 := by have := HQL.out; omega
              by_cases e0 : q.err = 0
              · have b0 : (q.err != 0) = false := by simp [e0]
                have l0 := HL0.out; have l1 := HL1.out
                have m1 : ¬ ((r.left : Int) < (q.left : Int) - 1) := by omega
                have m2 : ¬ ((r.left : Int) < 0) := by omega
                have m7 : ¬ ((q.left : Int) < (r.left : Int)) := by omega
                clear e0 l0 l1
                go_wp2_with (first | (go_at_call 19; refine (lq_olen H10.out).mono ?_; rintro e wz ⟨rfl, rfl⟩) | (go_at_call 22; refine (lq_fetches H10.out).mono ?_; rintro e wz ⟨rfl, rfl⟩) | (go_at_call 23; refine (lq_ilen H10.out).mono ?_; rintro e wz ⟨rfl, rfl⟩) | (go_at_call 15; refine (lq_left H10.out).mono ?_; rintro e wz ⟨rfl, rfl⟩) | (go_at_call 14; refine (lq_err H10.out).mono ?_; rintro e wz ⟨rfl, rfl⟩))
                go_meet
                exact ⟨congrArg Value.bool (by simp; omega), rfl⟩
              · obtain ⟨hd, hr⟩ := HN0.out e0
                subst hd
                have b0 : (q.err != 0) = true := by simpa using e0
                have m1 : ¬ ((q.left : Int) < (q.left : Int) - 1) := by omega
                have m2 : ¬ ((q.left : Int) < 0) := by omega
                have m7 : ¬ ((q.left : Int) < (q.left : Int)) := by omega
                have m8 : (q.err != q.err) = false := by simp
                have m9 : ((q.out.length : Int) != (q.out.length : Int)) = false := by simp
                have m10 : ((q.cnt : Int) != (q.cnt : Int)) = false := by simp
                have m11 : ((q.inn.length : Int) != (q.inn.length : Int)) = false := by simp
                clear e0
                subst hr
                go_wp2_with (first | (go_at_call 19; refine (lq_olen H10.out).mono ?_; rintro e wz ⟨rfl, rfl⟩) | (go_at_call 22; refine (lq_fetches H10.out).mono ?_; rintro e wz ⟨rfl, rfl⟩) | (go_at_call 23; refine (lq_ilen H10.out).mono ?_; rintro e wz ⟨rfl, rfl⟩) | (go_at_call 15; refine (lq_left H10.out).mono ?_; rintro e wz ⟨rfl, rfl⟩) | (go_at_call 14; refine (lq_err H10.out).mono ?_; rintro e wz ⟨rfl, rfl⟩))
                go_meet
                exact ⟨congrArg Value.bool (by simp; omega), rfl⟩
            case rest =>
              obtain ⟨rfl, hw⟩ := hcut
              obtain rfl : w10 = _ := hw.symm
              go_upto_region 22 with fail
              go_cut [178] (fun s wx => s = .bool false ∧ wx = w10)
              case first =>
                have o1 := HO1.out; have c1 := HC1.out; have i1 := HI1.out
                obtain ⟨z1, z2⟩ := H10.out.small
                obtain ⟨z3, z4⟩ := H9.out.small
                have z5 : q.cnt ≤ 80 := by omega
                have m4 : ¬ ((q.out.length : Int) + 1 < (r.out.length : Int)) := by omega
                have m5 : ¬ ((q.cnt : Int) + 1 < (r.cnt : Int)) := by omega
                have m6 : ¬ ((r.inn.length : Int) < (q.inn.length : Int) - 1) := by omega
                clear o1 c1 i1 hqc hkl hkb hk h80
                cases dd with
                | false =>
                  go_wp2_with (first | (go_at_call 19; refine (lq_olen H10.out).mono ?_; rintro e wz ⟨rfl, rfl⟩) | (go_at_call 22; refine (lq_fetches H10.out).mono ?_; rintro e wz ⟨rfl, rfl⟩) | (go_at_call 23; refine (lq_ilen H10.out).mono ?_; rintro e wz ⟨rfl, rfl⟩) | (go_at_call 15; refine (lq_left H10.out).mono ?_; rintro e wz ⟨rfl, rfl⟩) | (go_at_call 14; refine (lq_err H10.out).mono ?_; rintro e wz ⟨rfl, rfl⟩))
                  go_meet
                  exact ⟨by first | rfl | exact congrArg Value.bool (by simp [*]; try omega), rfl⟩
                | true =>
                  have e0 : q.err = 0 := by
                    by_cases h : q.err = 0
                    · exact h
                    · exact absurd (HST3.out h) (by decide)
                  have out := HST1.out e0 rfl
                  have HIT := Lib.hid out.it
                  clear out e0
                  by_cases x0 : r.err = 0
                  · have y0 : (r.err == 0) = true := by simpa using x0
                    by_cases x1 : r.left = q.left
                    · have y2 : ((r.left : Int) == (q.left : Int)) = true := by simp; omega
                      by_cases x2 : r.out.length = q.out.length
                      · have y3 : ((r.out.length : Int) == (q.out.length : Int)) = true := by simp; omega
                        have x3 := HIT.out x0 x1 x2
                        have y4 : ((r.inn.length : Int) == (q.inn.length : Int)) = false := by simp; omega
                        clear x0 x1 x2 x3
                        go_wp2_with (first | (go_at_call 19; refine (lq_olen H10.out).mono ?_; rintro e wz ⟨rfl, rfl⟩) | (go_at_call 22; refine (lq_fetches H10.out).mono ?_; rintro e wz ⟨rfl, rfl⟩) | (go_at_call 23; refine (lq_ilen H10.out).mono ?_; rintro e wz ⟨rfl, rfl⟩) | (go_at_call 15; refine (lq_left H10.out).mono ?_; rintro e wz ⟨rfl, rfl⟩) | (go_at_call 14; refine (lq_err H10.out).mono ?_; rintro e wz ⟨rfl, rfl⟩))
                        go_meet
                        exact ⟨by first | rfl | exact congrArg Value.bool (by simp [*]; try omega), rfl⟩
                      · have y3 : ((r.out.length : Int) == (q.out.length : Int)) = false := by simp; omega
                        clear x0 x1 x2
                        go_wp2_with (first | (go_at_call 19; refine (lq_olen H10.out).mono ?_; rintro e wz ⟨rfl, rfl⟩) | (go_at_call 22; refine (lq_fetches H10.out).mono ?_; rintro e wz ⟨rfl, rfl⟩) | (go_at_call 23; refine (lq_ilen H10.out).mono ?_; rintro e wz ⟨rfl, rfl⟩) | (go_at_call 15; refine (lq_left H10.out).mono ?_; rintro e wz ⟨rfl, rfl⟩) | (go_at_call 14; refine (lq_err H10.out).mono ?_; rintro e wz ⟨rfl, rfl⟩))
                        go_meet
                        exact ⟨by first | rfl | exact congrArg Value.bool (by simp [*]; try omega), rfl⟩
                    · have y2 : ((r.left : Int) == (q.left : Int)) = false := by simp; omega
                      clear x0 x1
                      go_wp2_with (first | (go_at_call 19; refine (lq_olen H10.out).mono ?_; rintro e wz ⟨rfl, rfl⟩) | (go_at_call 22; refine (lq_fetches H10.out).mono ?_; rintro e wz ⟨rfl, rfl⟩) | (go_at_call 23; refine (lq_ilen H10.out).mono ?_; rintro e wz ⟨rfl, rfl⟩) | (go_at_call 15; refine (lq_left H10.out).mono ?_; rintro e wz ⟨rfl, rfl⟩) | (go_at_call 14; refine (lq_err H10.out).mono ?_; rintro e wz ⟨rfl, rfl⟩))
                      go_meet
                      exact ⟨by first | rfl | exact congrArg Value.bool (by simp [*]; try omega), rfl⟩
                  · have y0 : (r.err == 0) = false := by simpa using x0
                    clear x0
                    go_wp2_with (first | (go_at_call 19; refine (lq_olen H10.out).mono ?_; rintro e wz ⟨rfl, rfl⟩) | (go_at_call 22; refine (lq_fetches H10.out).mono ?_; rintro e wz ⟨rfl, rfl⟩) | (go_at_call 23; refine (lq_ilen H10.out).mono ?_; rintro e wz ⟨rfl, rfl⟩) | (go_at_call 15; refine (lq_left H10.out).mono ?_; rintro e wz ⟨rfl, rfl⟩) | (go_at_call 14; refine (lq_err H10.out).mono ?_; rintro e wz ⟨rfl, rfl⟩))
                    go_meet
                    exact ⟨by first | rfl | exact congrArg Value.bool (by simp [*]; try omega), rfl⟩
              case rest =>
                obtain ⟨rfl, hw⟩ := hcut
                obtain rfl : w10 = _ := hw.symm
                go_upto_region 24 with fail
                go_cut [192] (fun s wx => s = .bool false ∧ wx = w10)
                case first =>
                  have l0 := HL0.out; have hql := HQL.out
                  have m3 : ¬ ((q0.left : Int) < (r.left : Int)) := by omega
                  clear l0 hql
                  by_cases x1 : r.err = 191
                  · have y1 : (r.err == 191) = true := by simpa using x1
                    have y2 : ((r.left : Int) != 0) = false := by rw [HRE.out x1]; rfl
                    clear x1
                    go_wp2_with (first | (go_at_call 19; refine (lq_olen H10.out).mono ?_; rintro e wz ⟨rfl, rfl⟩) | (go_at_call 22; refine (lq_fetches H10.out).mono ?_; rintro e wz ⟨rfl, rfl⟩) | (go_at_call 23; refine (lq_ilen H10.out).mono ?_; rintro e wz ⟨rfl, rfl⟩) | (go_at_call 15; refine (lq_left H10.out).mono ?_; rintro e wz ⟨rfl, rfl⟩) | (go_at_call 14; refine (lq_err H10.out).mono ?_; rintro e wz ⟨rfl, rfl⟩))
                    go_meet
                    exact ⟨congrArg Value.bool (by simp; omega), rfl⟩
                  · have y1 : (r.err == 191) = false := by simpa using x1
                    clear x1
                    go_wp2_with (first | (go_at_call 19; refine (lq_olen H10.out).mono ?_; rintro e wz ⟨rfl, rfl⟩) | (go_at_call 22; refine (lq_fetches H10.out).mono ?_; rintro e wz ⟨rfl, rfl⟩) | (go_at_call 23; refine (lq_ilen H10.out).mono ?_; rintro e wz ⟨rfl, rfl⟩) | (go_at_call 15; refine (lq_left H10.out).mono ?_; rintro e wz ⟨rfl, rfl⟩) | (go_at_call 14; refine (lq_err H10.out).mono ?_; rintro e wz ⟨rfl, rfl⟩))
                    go_meet
                    exact ⟨congrArg Value.bool (by simp; omega), rfl⟩
                case rest =>
                  obtain ⟨rfl, hw⟩ := hcut
                  obtain rfl : w10 = _ := hw.symm
                  go_wp2_with (first | (go_at_call 19; refine (lq_olen H10.out).mono ?_; rintro e wz ⟨rfl, rfl⟩) | (go_at_call 22; refine (lq_fetches H10.out).mono ?_; rintro e wz ⟨rfl, rfl⟩) | (go_at_call 23; refine (lq_ilen H10.out).mono ?_; rintro e wz ⟨rfl, rfl⟩) | (go_at_call 15; refine (lq_left H10.out).mono ?_; rintro e wz ⟨rfl, rfl⟩) | (go_at_call 14; refine (lq_err H10.out).mono ?_; rintro e wz ⟨rfl, rfl⟩))
                  go_roundw
                  case rel => exact ⟨k + 1, _, r, by go_num, rfl, rfl, by omega, HLJ.out.trans LE10.out, by have := HL0.out; have := HQL.out; omega, HRE.out, by have := HRF.out; omega, by have := HC1.out; omega, LdSt.less (A := [_]) (B := []) H10.out⟩
                  case measure => simp [intOf]; omega
      · obtain rfl : k = l.length := by omega
        have HST := Lib.hid hst; have HLJ := Lib.hid hlj
        clear hst hlj
        go_wp2_with fail
        go_ret
        exact ⟨rfl, HEND.out _ _ (Le.refl _) (HST.out.end_ (HLE.out.trans HLJ.out))⟩
end
end Go.Proofs.YtnhlpiomfljlcaaDoor
