/- LoadRuns: the walk of the law. -/
import Derived.Test.YtnhlpiomfljlcaaDoorRlG
import Derived.Test.YtnhlpiomfljlcaaDoorLtr
import Derived.OwnWalk
import Derived.Deep.DeepCutAuto
import Derived.Deep.CutBlock
namespace Go.Proofs.YtnhlpiomfljlcaaDoor
set_option linter.unusedVariables false
set_option linter.unusedSimpArgs false
open Go.RowKit Go.Lib Go.Deep

section
variable {H : Type} {enc : TypeId × Value → H}
set_option maxRecDepth 100000 in
set_option maxHeartbeats 16000000 in
theorem walk_loadRuns (W : World) (tabs : Tabs W) {v0 v1 : Value} (a0 : Arg enc Tryd.prog W 67 v0) (a1 : Arg enc Tryd.prog W 68 v1) : Calls Tryd.prog 6 #[v0, v1] W fun e w' => e = .returned (.bool true) ∧ Below W.heap.size W w' := by
  obtain ⟨x, rfl⟩ := Arg.lworld a0
  obtain ⟨A, c, l, rfl, hlm, hact⟩ := Arg.dones a1
  have hact : ActAt A l W := hact
  have h1 := (St.start W).alloc (.cells x.cells 67)
  obtain ⟨J0, le0, gg, s1⟩ := St.freeze h1
  have t := (TB.start tabs).more le0
  have hfw : ∀ (v : World) (J : Nat → Option Obj) (L : List (Nat × Obj)), St W v J L → Le J0 J → v.cell? ⟨W.heap.size, 0, none⟩ = some (.slice x.OA x.os.length x.oc) ∧ v.cell? ⟨W.heap.size, 1, none⟩ = some (.slice x.FA x.fs.length x.fc) ∧ v.cell? ⟨W.heap.size, 2, none⟩ = some (.string x.name) ∧ v.cell? ⟨W.heap.size, 3, none⟩ = some (.int .i64 x.tries) ∧ v.cell? ⟨W.heap.size, 4, none⟩ = some (.int .i64 x.r0) ∧ v.cell? ⟨W.heap.size, 5, none⟩ = some (.int .i64 x.r1) := fun v J L hv hle =>
    ⟨imm_cell hv (hle _ _ gg) 0, imm_cell hv (hle _ _ gg) 1, imm_cell hv (hle _ _ gg) 2, imm_cell hv (hle _ _ gg) 3, imm_cell hv (hle _ _ gg) 4, imm_cell hv (hle _ _ gg) 5⟩
  have kG := fun (v : World) (hv : St W v J0 []) => great_any x A c l hact hlm le0 hv
  have hend : ∀ w' J, Le J0 J → St W w' J [] → Below W.heap.size W w' := fun w' J hle hw => hw.below (le0.trans hle)
  unfold WArg.cells at kG s1 ⊢
  have T := Lib.hid t; have FW := Lib.hid hfw; have KG := Lib.hid kG; have S1 := Lib.hid s1; have HACT := Lib.hid hact; have LE0 := Lib.hid le0; have HEND := Lib.hid hend
  clear t hfw kG s1 hact le0 h1 gg a0 a1 tabs hend
  go_enter Tryd.func6, Tryd.ntmps6
  go_wp2_with fail
  refine (load_alive T.out S1.out).mono ?_
  rintro e w1 ⟨rfl, h2⟩
  obtain ⟨d0, d1, d2, d3, d4, d5⟩ := FW.out _ _ _ h2 (Le.refl _)
  have kg := KG.out _ h2
  have KG2 := Lib.hid kg; have H2 := Lib.hid h2
  clear kg h2 KG
  go_wp2_with fail
  refine KG2.out.mono ?_
  rintro e w2 ⟨b, rfl, h3, hsm⟩
  clear KG2 d0 d1 d2 d3 d4 d5
  obtain ⟨d0, d1, d2, d3, d4, d5⟩ := FW.out _ _ _ h3 (Le.refl _)
  have H3 := Lib.hid h3
  have HSM := Lib.hid hsm
  clear h3 H2 hsm
  cases b with
  | true =>
    go_wp2_with fail
    go_ret
    exact ⟨rfl, HEND.out _ _ (Le.refl _) H3.out⟩
  | false =>
    have sm := HSM.out rfl
    have hoff := (x_offin x sm).mono LE0.out
    have hfi : FIn x.FA x.fs W J0 := fun v L hv => x.fin v L (hv.less LE0.out)
    have hN := fun (v : World) (hv : St W v J0 []) => net_new T.out x.OA x.oc x.os hoff (by have := sm.os; omega) x.FA x.fc x.fs hfi (by have := sm.fs; omega) hv
    have hR := fun (J : Nat → Option Obj) (hJ : Le J0 J) (F : List (Nat × Obj)) (v : World) (hv : St W v J F) => rnew (T.out.more hJ) x.OA x.oc x.os (hoff.mono hJ) (by have := sm.os; omega) x.FA x.fc x.fs (fun v L hv => hfi v L (hv.less hJ)) (by have := sm.fs; omega) hv
    have HN := Lib.hid hN; have HR := Lib.hid hR; have SM := Lib.hid sm; have HOFF := Lib.hid hoff
    clear hN hR hoff hfi sm HSM d2 d3 d4 d5
    go_wp2_with fail
    go_region_held3 (fun w' => w'.cell? ⟨W.heap.size, 0, none⟩ = some (.slice x.OA x.os.length x.oc) ∧ w'.cell? ⟨W.heap.size, 1, none⟩ = some (.slice x.FA x.fs.length x.fc)) (first | exact ⟨d0, d1⟩ | exact S3 | exact S4 | assumption) (first
      | (go_at_call 11; refine (HN.out _ (by first | exact H3.out.drew _ | exact H3.out.drew1 | exact H3.out)).mono ?_; rintro e w3 ⟨J, gn, m, es, hleJ, rfl, ⟨φ, hN3⟩, hof, hes⟩; have S3 : w3.cell? ⟨W.heap.size, 0, none⟩ = some (.slice x.OA x.os.length x.oc) ∧ w3.cell? ⟨W.heap.size, 1, none⟩ = some (.slice x.FA x.fs.length x.fc) := ⟨(FW.out _ _ _ hN3 hleJ).1, (FW.out _ _ _ hN3 hleJ).2.1⟩)
      | (go_at_call 24; refine (HR.out J hleJ _ _ hN3).mono ?_; rintro e w4 ⟨r, A0, c0, L0, A1, c1, L1, rfl, hr0, hr1, hN4⟩; have S4 : w4.cell? ⟨W.heap.size, 0, none⟩ = some (.slice x.OA x.os.length x.oc) ∧ w4.cell? ⟨W.heap.size, 1, none⟩ = some (.slice x.FA x.fs.length x.fc) := ⟨(FW.out _ _ _ hN4 hleJ).1, (FW.out _ _ _ hN4 hleJ).2.1⟩))
    have hpo4 : ∀ o ∈ rOffs x.os, POk o.2 W J := fun o ho => (HOFF.out.ok o (rOffs_sub _ o ho)).mono hleJ
    have hnm4 : ∀ o ∈ rOffs x.os, o.1.size ≤ 1000000 := fun o ho => HOFF.out.name o (rOffs_sub _ o ho)
    have hrl4 : (rOffs x.os).length ≤ 100000 := by have := rOffs_len x.os; have := SM.out.os; omega
    obtain ⟨J2, hle2, h5, hoi⟩ := offers_freeze hr0 hnm4 hpo4 (St.swap (A := [(r, _)]) hN4)
    have hJ2 := hleJ.trans hle2
    have t2 := T.out.more hJ2
    have hnm : x.name.size ≤ 200 := SM.out.name
    have hfa : FetAll W J2 r A0 (rOffs x.os).length c0 x.name ((offOf es x.name).map (·.bs)) := fet_of t2 hes hoi hrl4 (by omega)
    have hof2 := hof.mono hle2
    have hbl : ∀ bs, (offOf es x.name).map (·.bs) = some bs → bs.length ≤ 1000000000 := fun bs hb => by
      obtain ⟨p, hp, rfl⟩ := Option.map_eq_some_iff.1 hb
      obtain ⟨e, he, rfl⟩ := lookP_in _ _ hp
      exact (hof2 e he).len
    obtain ⟨d0, d1, d2, d3, d4, d5⟩ := FW.out _ _ _ h5 hJ2
    have RB : Hid (Row 102 3 (.slice A1 x.fs.length c1) x.fs.length (fall x.fs) L1) := Lib.hid hr1
    have H5 := Lib.hid h5; have T2 := Lib.hid t2; have HFA := Lib.hid hfa; have HBL := Lib.hid hbl; have HOF := Lib.hid hof2; have HJ2 := Lib.hid hJ2
    clear hr0 hr1 hN4 hN3 hpo4 hnm4 hrl4 hoi hof hof2 hes h5 t2 hfa hbl hJ2 hle2 hleJ S3 S4 HN HR HOFF H3 d0 d1 d2 d3
    go_wp2_with fail
    go_region_held3 (fun w' => w'.cell? ⟨W.heap.size, 4, none⟩ = some (.int .i64 x.r0) ∧ w'.cell? ⟨W.heap.size, 5, none⟩ = some (.int .i64 x.r1)) (first | exact ⟨d4, d5⟩ | exact S5 | exact S6 | assumption) (first
      | (go_at_call 8; refine (new_pc' (room := x.r0) (by first | exact H5.out.drew _ | exact H5.out.drew1 | exact H5.out)).mono ?_; rintro e w5 ⟨ρo, hqo, rfl, h5⟩; have S5 : w5.cell? ⟨W.heap.size, 4, none⟩ = some (.int .i64 x.r0) ∧ w5.cell? ⟨W.heap.size, 5, none⟩ = some (.int .i64 x.r1) := ⟨(FW.out _ _ _ h5 HJ2.out).2.2.2.2.1, (FW.out _ _ _ h5 HJ2.out).2.2.2.2.2⟩; have H5b := Lib.hid h5; clear h5)
      | (go_at_call 9; refine (new_nt' (room := x.r1) H5b.out).mono ?_; rintro e w6 ⟨ρi, hqi, rfl, h6⟩; have S6 : w6.cell? ⟨W.heap.size, 4, none⟩ = some (.int .i64 x.r0) ∧ w6.cell? ⟨W.heap.size, 5, none⟩ = some (.int .i64 x.r1) := ⟨(FW.out _ _ _ h6 HJ2.out).2.2.2.2.1, (FW.out _ _ _ h6 HJ2.out).2.2.2.2.2⟩; have H6 := Lib.hid h6; clear h6))
    clear d4 d5
    obtain ⟨d0, d1, d2, d3, d4, d5⟩ := FW.out _ _ _ H6.out HJ2.out
    have hnet : NetSt W w6 J2 gn m es x.fs 0 (ldO ρo ++ (ldI ρi ++ ((r, .cells (rcells A0 (rOffs x.os).length c0 A1 x.fs.length c1 0) 90 (0, 0)) :: (L1 ++ [])))) := ⟨φ, by
      have g1 : St W w6 J2 (ldI ρi ++ (ldO ρo ++ ([(r, Obj.cells (rcells A0 (rOffs x.os).length c0 A1 x.fs.length c1 0) 90 (0, 0))] ++ (L1 ++ (φ.L' gn m es 0 ++ []))))) := H6.out
      exact g1.keep [] fun _ a => by simp only [List.count_append, List.count_cons, List.count_nil]; omega⟩
    have c7 := ld_new x.name x.tries T2.out HOF.out hqo hqi hnet
    have C7 := Lib.hid c7
    clear c7 hnet S5 S6 d0 d1 d4 d5
    go_wp2_with fail
    refine C7.out.mono ?_
    rintro e w8 ⟨g, rfl, h8⟩
    clear d2 d3 H5 H5b H6 C7
    obtain ⟨LL, hLL, hs8⟩ := h8.opens
    obtain ⟨d0, d1, d2, d3, d4, d5⟩ := FW.out _ _ _ hs8 HJ2.out
    have k17 := fun (v : World) (X : List (Nat × Obj)) (hv : St W v J2 X) => new17 x.r0 hv
    have k19 := fun (v : World) (X : List (Nat × Obj)) (hv : St W v J2 X) => rl_new (r := r) x.name x.tries (roomOf x.r0) hv
    have HS8 := Lib.hid hs8; have HLL := Lib.hid hLL; have K17 := Lib.hid k17; have K19 := Lib.hid k19
    clear h8 hLL hs8 k17 k19
    go_wp2_with fail
    have HDW := Lib.hid HS8.out.drew1
    have s0 : w8.drew.cell? ⟨W.heap.size, 2, none⟩ = some (.string x.name) ∧ w8.drew.cell? ⟨W.heap.size, 3, none⟩ = some (.int .i64 x.tries) ∧ w8.drew.cell? ⟨W.heap.size, 4, none⟩ = some (.int .i64 x.r0) := ⟨d2, d3, d4⟩
    refine wp_region_held_drew (S := fun w' => w'.cell? ⟨W.heap.size, 2, none⟩ = some (.string x.name) ∧ w'.cell? ⟨W.heap.size, 3, none⟩ = some (.int .i64 x.tries) ∧ w'.cell? ⟨W.heap.size, 4, none⟩ = some (.int .i64 x.r0)) (by kernel_rfl) s0 (fun hHeld => ?_)
    refine wpAnyH_take (i := 0) (oi := ?_) (v := ?_) ?_ ?_ ?_ ?_ ?_ ?_ ?_ ?_
    rotate_left 2
    · (simp only [List.getElem?_toArray, List.getElem?_cons_succ, List.getElem?_cons_zero]; exact rfl)
    · kernel_rfl
    · kernel_rfl
    · kernel_rfl
    · exact fun _ _ _ h => h
    · first | (refine Or.inl ⟨by rfl, ?_⟩; intro w hSw; (try dsimp only at hSw); go_simp; try with_reducible rfl) | (refine Or.inr ⟨by rfl, ?_⟩; rfl)
    · assumption
    try simp only [Act.put, List.setIfInBounds_toArray, List.set_cons_zero, List.set_cons_succ]
    refine wpAnyH_take (i := 1) (oi := ?_) (v := ?_) ?_ ?_ ?_ ?_ ?_ ?_ ?_ ?_
    rotate_left 2
    · (simp only [List.getElem?_toArray, List.getElem?_cons_succ, List.getElem?_cons_zero]; exact rfl)
    · kernel_rfl
    · kernel_rfl
    · kernel_rfl
    · exact fun _ _ _ h => h
    · first | (refine Or.inl ⟨by rfl, ?_⟩; intro w hSw; (try dsimp only at hSw); go_simp; try with_reducible rfl) | (refine Or.inr ⟨by rfl, ?_⟩; rfl)
    · assumption
    try simp only [Act.put, List.setIfInBounds_toArray, List.set_cons_zero, List.set_cons_succ]
    refine wpAnyH_take (i := 2) (oi := ?_) (v := ?_) ?_ ?_ ?_ ?_ ?_ ?_ ?_ ?_
    rotate_left 2
    · (simp only [List.getElem?_toArray, List.getElem?_cons_succ, List.getElem?_cons_zero]; exact rfl)
    · kernel_rfl
    · kernel_rfl
    · kernel_rfl
    · exact fun _ _ _ h => h
    · first | ((refine Or.inl ⟨by rfl, ?_⟩; intro w hSw; obtain ⟨hS1, hS2, hS3⟩ := hSw; go_simp; try with_reducible rfl)) | (refine Or.inr ⟨by rfl, ?_⟩; rfl)
    · assumption
    try simp only [Act.put, List.setIfInBounds_toArray, List.set_cons_zero, List.set_cons_succ]
    refine wpAnyH_take (i := 3) (oi := ?_) (v := ?_) ?_ ?_ ?_ ?_ ?_ ?_ ?_ ?_
    rotate_left 2
    · (simp only [List.getElem?_toArray, List.getElem?_cons_succ, List.getElem?_cons_zero]; exact rfl)
    · kernel_rfl
    · kernel_rfl
    · kernel_rfl
    · exact fun _ _ _ h => h
    · first | (refine Or.inl ⟨by rfl, ?_⟩; intro w hSw; (try dsimp only at hSw); go_simp; try with_reducible rfl) | (refine Or.inr ⟨by rfl, ?_⟩; rfl)
    · assumption
    try simp only [Act.put, List.setIfInBounds_toArray, List.set_cons_zero, List.set_cons_succ]
    refine wpAnyH_take (i := 4) (oi := ?_) (v := ?_) ?_ ?_ ?_ ?_ ?_ ?_ ?_ ?_
    rotate_left 2
    · (simp only [List.getElem?_toArray, List.getElem?_cons_succ, List.getElem?_cons_zero]; exact rfl)
    · kernel_rfl
    · kernel_rfl
    · kernel_rfl
    · exact fun _ _ _ h => h
    · first | ((refine Or.inl ⟨by rfl, ?_⟩; intro w hSw; obtain ⟨hS1, hS2, hS3⟩ := hSw; go_simp; try with_reducible rfl)) | (refine Or.inr ⟨by rfl, ?_⟩; rfl)
    · assumption
    try simp only [Act.put, List.setIfInBounds_toArray, List.set_cons_zero, List.set_cons_succ]
    refine wpAnyH_take (i := 5) (oi := ?_) (v := ?_) ?_ ?_ ?_ ?_ ?_ ?_ ?_ ?_
    rotate_left 2
    · (simp only [List.getElem?_toArray, List.getElem?_cons_succ, List.getElem?_cons_zero]; exact rfl)
    · kernel_rfl
    · kernel_rfl
    · kernel_rfl
    · exact fun _ _ _ h => h
    · first | (refine Or.inl ⟨by rfl, ?_⟩; intro w hSw; (try dsimp only at hSw); go_simp; try with_reducible rfl) | (refine Or.inr ⟨by rfl, ?_⟩; rfl)
    · assumption
    try simp only [Act.put, List.setIfInBounds_toArray, List.set_cons_zero, List.set_cons_succ]
    refine wpAnyH_take (i := 6) (oi := ?_) (v := ?_) ?_ ?_ ?_ ?_ ?_ ?_ ?_ ?_
    rotate_left 2
    · (simp only [List.getElem?_toArray, List.getElem?_cons_succ, List.getElem?_cons_zero]; exact rfl)
    · kernel_rfl
    · kernel_rfl
    · kernel_rfl
    · exact fun _ _ _ h => h
    · first | (refine Or.inl ⟨by rfl, ?_⟩; intro w hSw; (try dsimp only at hSw); go_simp; try with_reducible rfl) | (refine Or.inr ⟨by rfl, ?_⟩; rfl)
    · assumption
    try simp only [Act.put, List.setIfInBounds_toArray, List.set_cons_zero, List.set_cons_succ]
    refine wpAnyH_take (i := 7) (oi := ?_) (v := ?_) ?_ ?_ ?_ ?_ ?_ ?_ ?_ ?_
    rotate_left 2
    · (simp only [List.getElem?_toArray, List.getElem?_cons_succ, List.getElem?_cons_zero]; exact rfl)
    · kernel_rfl
    · kernel_rfl
    · kernel_rfl
    · exact fun _ _ _ h => h
    · first | ((refine Or.inl ⟨by rfl, ?_⟩; intro w hSw; obtain ⟨hS1, hS2, hS3⟩ := hSw; go_simp; try with_reducible rfl)) | (refine Or.inr ⟨by rfl, ?_⟩; rfl)
    · assumption
    try simp only [Act.put, List.setIfInBounds_toArray, List.set_cons_zero, List.set_cons_succ]
    refine wpAnyH_ready (rs := [8]) (by kernel_rfl) (by simp) ?_
    refine AllReadyH.cons (o := ?_) ?_ (fun K hK => ?_) ?_
    rotate_left 1
    · (simp only [List.getElem?_toArray, List.getElem?_cons_succ, List.getElem?_cons_zero]; exact rfl)
    · go_simp
      (first | (go_at_call 26; (with_reducible refine (K17.out _ _ HDW.out).mono ?_); rintro e wx ⟨b17, rfl, hx⟩; have m17 : wx.cell? ⟨b17, 0, none⟩ = some (.int .i64 (roomOf x.r0)) := hx.cell (g := b17) (List.mem_cons_self ..) 0; dsimp only) | (go_at_call 25; (with_reducible refine (K19.out _ _ hx).mono ?_); rintro e wy ⟨b, rfl, hy⟩; dsimp only))
      refine hK.out _ _ ?_ (fun hHeld => ?_)
      · (try dsimp only) <;> (first | exact ⟨(FW.out _ _ _ hy HJ2.out).2.2.1, (FW.out _ _ _ hy HJ2.out).2.2.2.1, (FW.out _ _ _ hy HJ2.out).2.2.2.2.1⟩ | exact ⟨(FW.out _ _ _ hx HJ2.out).2.2.1, (FW.out _ _ _ hx HJ2.out).2.2.2.1, (FW.out _ _ _ hx HJ2.out).2.2.2.2.1⟩)
      clear hK K
      try simp only [Act.put, List.setIfInBounds_toArray, List.set_cons_zero, List.set_cons_succ]
      refine wpAnyH_take (i := 9) (oi := ?_) (v := ?_) ?_ ?_ ?_ ?_ ?_ ?_ ?_ ?_
      rotate_left 2
      · (simp only [List.getElem?_toArray, List.getElem?_cons_succ, List.getElem?_cons_zero]; exact rfl)
      · kernel_rfl
      · kernel_rfl
      · kernel_rfl
      · exact fun _ _ _ h => h
      · first | (refine Or.inl ⟨by rfl, ?_⟩; intro w hSw; (try dsimp only at hSw); go_simp; try with_reducible rfl) | (refine Or.inr ⟨by rfl, ?_⟩; rfl)
      · assumption
      try simp only [Act.put, List.setIfInBounds_toArray, List.set_cons_zero, List.set_cons_succ]
      refine wpAnyH_take (i := 10) (oi := ?_) (v := ?_) ?_ ?_ ?_ ?_ ?_ ?_ ?_ ?_
      rotate_left 2
      · (simp only [List.getElem?_toArray, List.getElem?_cons_succ, List.getElem?_cons_zero]; exact rfl)
      · kernel_rfl
      · kernel_rfl
      · kernel_rfl
      · exact fun _ _ _ h => h
      · first | (refine Or.inl ⟨by rfl, ?_⟩; intro w hSw; (try dsimp only at hSw); go_simp; try with_reducible rfl) | (refine Or.inr ⟨by rfl, ?_⟩; rfl)
      · assumption
      try simp only [Act.put, List.setIfInBounds_toArray, List.set_cons_zero, List.set_cons_succ]
      refine wpAnyH_ready (rs := [11]) (by kernel_rfl) (by simp) ?_
      refine AllReadyH.cons (o := ?_) ?_ (fun K hK => ?_) ?_
      rotate_left 1
      · (simp only [List.getElem?_toArray, List.getElem?_cons_succ, List.getElem?_cons_zero]; exact rfl)
      · go_simp
        refine hK.out _ _ ?_ (fun hHeld => ?_)
        · (try dsimp only) <;> (first | exact ⟨(FW.out _ _ _ hy HJ2.out).2.2.1, (FW.out _ _ _ hy HJ2.out).2.2.2.1, (FW.out _ _ _ hy HJ2.out).2.2.2.2.1⟩ | exact ⟨(FW.out _ _ _ hx HJ2.out).2.2.1, (FW.out _ _ _ hx HJ2.out).2.2.2.1, (FW.out _ _ _ hx HJ2.out).2.2.2.2.1⟩)
        clear hK K
        try simp only [Act.put, List.setIfInBounds_toArray, List.set_cons_zero, List.set_cons_succ]
        refine wpAnyH_ready (rs := [12]) (by kernel_rfl) (by simp) ?_
        refine AllReadyH.cons (o := ?_) ?_ (fun K hK => ?_) ?_
        rotate_left 1
        · (simp only [List.getElem?_toArray, List.getElem?_cons_succ, List.getElem?_cons_zero]; exact rfl)
        · go_simp
          (first | (go_at_call 26; (with_reducible refine (K17.out _ _ HDW.out).mono ?_); rintro e wx ⟨b17, rfl, hx⟩; have m17 : wx.cell? ⟨b17, 0, none⟩ = some (.int .i64 (roomOf x.r0)) := hx.cell (g := b17) (List.mem_cons_self ..) 0; dsimp only) | (go_at_call 25; (with_reducible refine (K19.out _ _ hx).mono ?_); rintro e wy ⟨b, rfl, hy⟩; dsimp only))
          refine hK.out _ _ ?_ (fun hHeld => ?_)
          · (try dsimp only) <;> (first | exact ⟨(FW.out _ _ _ hy HJ2.out).2.2.1, (FW.out _ _ _ hy HJ2.out).2.2.2.1, (FW.out _ _ _ hy HJ2.out).2.2.2.2.1⟩ | exact ⟨(FW.out _ _ _ hx HJ2.out).2.2.1, (FW.out _ _ _ hx HJ2.out).2.2.2.1, (FW.out _ _ _ hx HJ2.out).2.2.2.2.1⟩)
          clear hK K
          try simp only [Act.put, List.setIfInBounds_toArray, List.set_cons_zero, List.set_cons_succ]
          refine wpAnyH_take (i := 13) (oi := ?_) (v := ?_) ?_ ?_ ?_ ?_ ?_ ?_ ?_ ?_
          rotate_left 2
          · (simp only [List.getElem?_toArray, List.getElem?_cons_succ, List.getElem?_cons_zero]; exact rfl)
          · kernel_rfl
          · kernel_rfl
          · kernel_rfl
          · exact fun _ _ _ h => h
          · first | (refine Or.inl ⟨by rfl, ?_⟩; intro w hSw; (try dsimp only at hSw); go_simp; try with_reducible rfl) | (refine Or.inr ⟨by rfl, ?_⟩; rfl)
          · assumption
          try simp only [Act.put, List.setIfInBounds_toArray, List.set_cons_zero, List.set_cons_succ]
          refine wpAnyH_done (by kernel_rfl) ?_ _
          have hq0 : DocL W J2 b r A0 (rOffs x.os).length c0 x.name (roomOf x.r0) (LQ.start x.tries x.fs 0) ((r, .cells (rcells A0 (rOffs x.os).length c0 A1 x.fs.length c1 0) 90 (0, 0)) :: (L1 ++ (dcB b (dc0 r x.name x.tries (roomOf x.r0)) :: ([] ++ [])))) := ⟨dc0 r x.name x.tries (roomOf x.r0), [], [], A1, c1, L1, ⟨rfl, rfl, rfl, rfl, tries_le _, rfl, rfl, rfl, zman_ok, by show (0 : Nat) ≤ _; omega, Int.le_refl 0, by show (0 : Int) ≤ 2304; decide, (fun h => nomatch h), .inr (.inl ⟨rfl, rfl⟩), rfl, by simp [dc0], rfl, by simp [dc0]⟩, Row.nil _ _, Row.nil _ _, RB.out, rfl⟩
          have hs9 := hy.keep (M := LL ++ (((r, Obj.cells (rcells A0 (rOffs x.os).length c0 A1 x.fs.length c1 0) 90 (0, 0)) :: (L1 ++ (dcB b (dc0 r x.name x.tries (roomOf x.r0)) :: ([] ++ [])))) ++ [])) [(b17, .cells #[.int .i64 (roomOf x.r0), .slice none 0 0, .bool false] 81 (0, 0))] fun _ a => by simp only [List.count_append, List.count_cons, List.count_nil]; omega
          obtain ⟨DL, hDL⟩ : ∃ DL, ((r, Obj.cells (rcells A0 (rOffs x.os).length c0 A1 x.fs.length c1 0) 90 (0, 0)) :: (L1 ++ (dcB b (dc0 r x.name x.tries (roomOf x.r0)) :: ([] ++ [])))) = DL := ⟨_, rfl⟩
          rw [hDL] at hq0 hs9
          have HQ0 := Lib.hid hq0; have HS9 := Lib.hid hs9
          clear hq0 hs9 hDL hy hx m17 s0 HDW d0 d1 d2 d3 d4 d5 HS8 K17 K19 RB
          have h80 : l.length ≤ 80 := SM.out.acts
          have hact10 := SM.out.act
          have hfs0 : x.fs.length ≤ 60 := SM.out.fs
          have hnr : (rOffs x.os).length = (rOffs x.os).length := rfl
          have HACT10 := Lib.hid hact10
          clear hact10 SM hnr
          generalize (rOffs x.os).length = nr at *
          generalize x.name = nm at *
          generalize ρo.r = ro at *
          generalize ρi.r = ri at *
          generalize roomOf x.r0 = n at *
          generalize roomOf x.r1 = ni at *
          obtain ⟨q0, hq0⟩ : ∃ q0, LQ.start x.tries x.fs 0 = q0 := ⟨_, rfl⟩
          rw [hq0] at HLL HQ0
          have hf0 : q0.fs.length ≤ 60 := by rw [← hq0]; exact hfs0
          have hc0 : q0.cnt = 0 := by rw [← hq0]; rfl
          clear hq0 FW hfs0
          go_wp2_with fail
          go_loopw [61] (fun i wr => ∃ (k : Nat) (J' : Nat → Option Obj) (q : LQ) (LL DL : List (Nat × Obj)), i = .int .i64 k ∧ k ≤ l.length ∧ Le J2 J' ∧ q.fs.length ≤ 60 + 10 * k ∧ q.cnt ≤ k ∧ LdL W J' g gn m es nm ro ri n ni q LL ∧ DocL W J' b r A0 nr c0 nm n q DL ∧ St W wr J' (LL ++ (DL ++ []))) (fun i _ => l.length - (intOf i).toNat)
          case atStart => exact ⟨0, J2, q0, LL, DL, rfl, Nat.zero_le _, Le.refl _, by omega, by omega, HLL.out, HQ0.out, HS9.out⟩
          case round =>
            obtain ⟨k, J', q, LL, DL, rfl, hk, hlj, hqf, hqc, hLL, hDL, hst⟩ := hrel
            clear HS9 HLL HQ0
            by_cases hkl : k < l.length
            · obtain ⟨d, hok⟩ : ∃ d, l[k]? = some d := ⟨_, List.getElem?_eq_getElem hkl⟩
              obtain ⟨dok, ba, off, rfl, hro⟩ := HACT.out k d hok
              have hd10 := HACT10.out d (List.mem_of_getElem? hok)
              have mok := dok.t.m
              have hle := LE0.out.trans (HJ2.out.trans hlj)
              have hrg := act_range (off := off + k * 43) mok hle hro hst
              have h8 := hst.alloc (.cells zDn.arr 73)
              have hmany := dn_many mok
              have hfit := dn_fit mok
              rw [zdn_lit] at h8 hmany hfit
              have hfa : ∀ v L, St W v J' L → (wr.heap.size, Obj.cells d.arr 73 (0, 0)) ∈ L → v.cell? ⟨wr.heap.size, 0, none⟩ = some (.int .i64 d.kind) ∧ v.rangeAt wr.heap.size 1 d.t.arr.toList ∧ v.cell? ⟨wr.heap.size, 42, none⟩ = some (.slice d.A d.fs.length d.c) := fun v L hv hm =>
                ⟨(hv.cell hm 0).trans dn0, fun j u hj => by
                  have hj41 : j < 41 := by have := (List.getElem?_eq_some_iff.1 hj).1; rw [Array.length_toList, tl_size mok] at this; exact this
                  rw [hv.cell hm (1 + j), dn_t mok j hj41]; simpa using hj, (hv.cell hm 42).trans (dn42 mok)⟩
              have hnt : ∀ v L, St W v J' L → Calls Tryd.prog 21 #[.agg d.t.arr] v fun e w' => e = .returned (.iface (noteOf d.t).T (noteOf d.t).d) ∧ St W w' J' L := fun v L hv => law_note d.t mok hv
              have hsmL := (hLL.st hst).small
              have HR := Lib.hid hrg; have HFR := Lib.hid h8; have HM := Lib.hid hmany; have HFT := Lib.hid hfit; have HIN := Lib.hid (dn_info mok); have HO := Lib.hid (dn_one d); have FAC := Lib.hid hfa; have DOK := Lib.hid dok; have HNT := Lib.hid hnt
              have TIN := Lib.hid (tl_info mok); have NOK := Lib.hid (note_ok dok.t (by have := hd10.2.1; omega)); have HLJ := Lib.hid hlj; have HLL := Lib.hid hLL; have HDL := Lib.hid hDL; have HQF := Lib.hid hqf; have HQC := Lib.hid hqc; have HSML := Lib.hid hsmL; have HD10 := Lib.hid hd10; have TONE := Lib.hid (tl_one d.t)
              clear hrg hmany hfit hfa dok hro hok mok hst h8 hle hlj hnt hLL hDL hqf hqc hsmL hd10 hf0 hc0
              have hkb : (k : Int) < l.length := by omega
              obtain ⟨C, hC⟩ : ∃ C, d.arr = C := ⟨_, rfl⟩
              obtain ⟨T1, hT1⟩ : ∃ T1, d.t.arr = T1 := ⟨_, rfl⟩
              obtain ⟨kd, hkd⟩ : ∃ kd, d.kind = kd := ⟨_, rfl⟩
              rw [hC] at HR HM HFT HIN HO FAC
              rw [hT1, hkd] at FAC
              rw [hT1] at TIN HNT TONE
              have HT1 := Lib.hid hT1
              clear hC hT1 hkd
              go_wp2_with (first | (with_reducible refine wpList_load_mid rfl 73 (.tmp 63) rfl ba (off + k * 43) rfl C.toList _ HR.out Tryd.underlying73 rfl (by rw [Array.length_toList]; exact HIN.out) ?_) | (with_reducible refine wpList_store_st rfl 73 (.tmp 12) (.tmp 64) rfl (g := wr.heap.size) (off := 0) C rfl rfl HFR.out HFT.out HIN.out HO.out ?_; intro w9 h9; refine Hid.out ?_))
              refine Lib.hid ?_
              rw [HM.out] at h9
              obtain ⟨ga, hga⟩ : ∃ ga, wr.heap.size = ga := ⟨_, rfl⟩
              rw [hga] at h9 FAC ⊢
              obtain ⟨f0, frg, f42⟩ := FAC.out _ _ h9 (List.mem_cons_self ..)
              have H9 := Lib.hid h9; have RG9 := Lib.hid frg
              clear HFR HM HFT HR h9 frg hga
              skip
              go_upto_block 2 with fail
              go_cut [] (fun wx => ∃ (Jn : Nat → Option Obj) (qn : LQ) (LLn DLn : List (Nat × Obj)), Le J' Jn ∧ qn.fs.length ≤ 60 + 10 * (k + 1) ∧ qn.cnt ≤ k + 1 ∧ LdL W Jn g gn m es nm ro ri n ni qn LLn ∧ DocL W Jn b r A0 nr c0 nm n qn DLn ∧ St W wx Jn (LLn ++ (DLn ++ [(ga, Obj.cells C 73 (0, 0))])))
              case first =>
                have h9 := H9.out.keep (M := LL ++ (DL ++ [(ga, Obj.cells C 73 (0, 0))])) [] fun _ a => by simp only [List.count_append, List.count_cons, List.count_nil]; omega
                have H9 := Lib.hid h9
                clear h9
                by_cases k1 : kd = 1
                · as_aux_lemma =>
                    subst k1
                    go_wp2_with (first | (with_reducible refine wpList_load_mid rfl 71 (.tmp 75) rfl ga 1 rfl T1.toList _ RG9.out Tryd.underlying71 rfl (by rw [Array.length_toList]; exact TIN.out) ?_) | (go_at_call 21; refine (HNT.out _ _ H9.out).mono ?_; rintro e w10 ⟨rfl, h10⟩; have H10 := Lib.hid h10; clear h10))
                    have kT := lq_tell (HLL.out.st H10.out) (noteOf d.t) NOK.out
                    by_cases hsend : q.inn.length < ni
                    · rw [if_pos hsend, decide_eq_true hsend] at kT
                      have KT := Lib.hid kT
                      clear kT hsend f0 f42 HNT
                      refine KT.out.mono ?_
                      rintro e w11 ⟨rfl, h11⟩
                      obtain ⟨LLa, hLLa, hsa⟩ := h11.opens
                      obtain ⟨d2, LO, LI, A1x, c1x, L1x, hi2, hro2, hri2, hf2, hDL2⟩ := HDL.out
                      have hsb : St W w11 J' (LI ++ (dcB b d2 :: ((r, .cells (rcells A0 nr c0 A1x q.fs.length c1x q.cnt) 90 (0, 0)) :: (L1x ++ (LO ++ (LLa ++ [(ga, Obj.cells C 73 (0, 0))])))))) := by
                        rw [hDL2] at hsa
                        exact hsa.keep [] fun _ a => by simp only [List.count_append, List.count_cons, List.count_nil]; omega
                      obtain ⟨RR, hRR⟩ : ∃ RR, ((r, Obj.cells (rcells A0 nr c0 A1x q.fs.length c1x q.cnt) 90 (0, 0)) :: (L1x ++ (LO ++ (LLa ++ [(ga, Obj.cells C 73 (0, 0))])))) = RR := ⟨_, rfl⟩
                      have hmA : (ga, Obj.cells C 73 (0, 0)) ∈ RR := by rw [← hRR]; simp
                      have htl : d2.ts.length ≤ 16 := by have h := HSML.out.2; rw [hi2.inn, List.length_map] at h; exact h
                      obtain ⟨TS, hTS⟩ : ∃ TS, d2.ts ++ [d.t] = TS := ⟨_, rfl⟩
                      have hpl : d2.ts.length + 1 = TS.length := by rw [← hTS]; simp
                      have hpa : tall d2.ts ++ T1.toList = tall TS := by rw [← hTS, ← HT1.out]; simp [tall, Tl.arr]
                      have hT41 : T1.size = 41 := by rw [← HT1.out]; exact tl_size DOK.out.t.m
                      have hone : ∀ u ∈ T1.toList, u.oneCell' = true := fun u hu => List.all_eq_true.1 (by have h := TONE.out; rw [← Array.all_toList] at h; exact h) u hu
                      have hfin : ∀ (v : World) (A5 : Option Addr) (c5 : Nat) (L5 : List (Nat × Obj)), Row 71 41 (.slice A5 TS.length c5) TS.length (tall TS) L5 → St W v J' (dcB b { d2 with IA := A5, ic := c5, ts := TS } :: (L5 ++ RR)) → ∃ (Jn : Nat → Option Obj) (qn : LQ) (LLn DLn : List (Nat × Obj)), Le J' Jn ∧ qn.fs.length ≤ 60 + 10 * (k + 1) ∧ qn.cnt ≤ k + 1 ∧ LdL W Jn g gn m es nm ro ri n ni qn LLn ∧ DocL W Jn b r A0 nr c0 nm n qn DLn ∧ St W v Jn (LLn ++ (DLn ++ [(ga, Obj.cells C 73 (0, 0))])) := fun v A5 c5 L5 hr5 hv => by
                        refine ⟨J', { q with inn := q.inn ++ [noteOf d.t] }, LLa, _, Le.refl _, by have := HQF.out; show q.fs.length ≤ _; omega, by have := HQC.out; show q.cnt ≤ _; omega, hLLa, ⟨{ d2 with IA := A5, ic := c5, ts := TS }, LO, L5, A1x, c1x, L1x, { hi2 with inn := by show q.inn ++ [noteOf d.t] = TS.map noteOf; rw [← hTS, List.map_append, hi2.inn]; rfl, tok := fun t ht => ?_ }, hro2, hr5, hf2, rfl⟩, ?_⟩
                        · have ht : t ∈ d2.ts ++ [d.t] := by rw [hTS]; exact ht
                          rcases List.mem_append.1 ht with ht | ht
                          · exact hi2.tok t ht
                          · simp only [List.mem_singleton] at ht; subst ht; exact ⟨DOK.out.t.m, by have := HD10.out.2.1; omega⟩
                        · rw [← hRR] at hv
                          exact hv.keep [] fun _ a => by simp only [List.count_append, List.count_cons, List.count_nil]; omega
                      rw [hRR] at hsb
                      have sx : ∀ (v : World) (G : List (Nat × Obj)), St W v J' G → dcB b d2 ∈ G → (ga, Obj.cells C 73 (0, 0)) ∈ G → (v.cell? ⟨b, 5, none⟩ = some (.slice d2.IA d2.ts.length d2.ic) ∧ v.rangeAt ga 1 T1.toList) := fun v G hv m1 m2 => ⟨(hi2.facts hv m1).c5, (FAC.out v G hv m2).2.1⟩
                      have hfold : Array.foldl (fun cs (x : Value × Nat) => cs.setIfInBounds x.snd x.fst) (Value.int .i64 0 :: .int .i64 0 :: .int .i64 0 :: .string ⟨#[]⟩ :: .int .u64 0 :: .int .i64 0 :: .int .i64 0 :: .int .u8 0 :: .int .u8 0 :: .int .u8 0 :: .int .u8 0 :: .int .u8 0 :: .int .u8 0 :: .int .u8 0 :: .int .u8 0 :: .int .u8 0 :: .int .u8 0 :: .int .u8 0 :: .int .u8 0 :: .int .u8 0 :: .int .u8 0 :: .int .u8 0 :: .int .u8 0 :: .int .u8 0 :: .int .u8 0 :: .int .u8 0 :: .int .u8 0 :: .int .u8 0 :: .int .u8 0 :: .int .u8 0 :: .int .u8 0 :: .int .u8 0 :: .int .u8 0 :: .int .u8 0 :: .int .u8 0 :: .int .u8 0 :: .int .u8 0 :: .int .u8 0 :: .int .u8 0 :: .slice none 0 0 :: .slice none 0 0 :: []).toArray T1.zipIdx 0 41 = T1 := fold_fill' T1 _ 41 hT41 rfl
                      have HSB := Lib.hid hsb; have SX := Lib.hid sx; have HFOLD := Lib.hid hfold; have HFIN := Lib.hid hfin; have HRI := Lib.hid hri2; have HPL := Lib.hid hpl; have HPA := Lib.hid hpa; have HO1 := Lib.hid hone; have HT41 := Lib.hid hT41; have HMA := Lib.hid hmA
                      have HTA : Hid ((Tryd.prog.info? 71).map (·.size) = some T1.toList.length) := Lib.hid (by rw [TIN.out, Array.length_toList])
                      have HUT := Lib.hid Tryd.underlying71
                      clear hsa hsb sx hfold hfin hi2 hro2 hri2 hf2 hDL2 hRR hTS hpl hpa hone hmA hLLa h11 KT H9 H10 RG9 HLL HDL
                      go_wp2_with fail
                      generalize w11 = w6 at *
                      refine wp_region_sink (S := fun v => v.cell? ⟨b, 5, none⟩ = some (.slice d2.IA d2.ts.length d2.ic) ∧ v.rangeAt ga 1 T1.toList) 11 (by kernel_rfl) (by kernel_rfl) rfl (SX.out _ _ HSB.out.drew1 (by simp) (by simp [HMA.out])) (fun hHeld => ?_)
                      dsimp only [List.take]
                      refine wpAnyH_take (i := 0) (oi := ?_) (v := ?_) ?_ ?_ ?_ ?_ ?_ ?_ ?_ ?_
                      rotate_left 2
                      · (simp only [List.getElem?_toArray, List.getElem?_cons_succ, List.getElem?_cons_zero]; exact rfl)
                      · kernel_rfl
                      · kernel_rfl
                      · kernel_rfl
                      · exact fun _ _ _ h => h
                      · first | (refine Or.inl ⟨by rfl, ?_⟩; intro w hSw; (try dsimp only at hSw); go_simp; try with_reducible rfl) | (refine Or.inr ⟨by rfl, ?_⟩; rfl)
                      · assumption
                      try simp only [Act.put, List.setIfInBounds_toArray, List.set_cons_zero, List.set_cons_succ]
                      try simp only [Array.toArray_toList, HFOLD.out]
                      refine wpAnyH_take (i := 1) (oi := ?_) (v := ?_) ?_ ?_ ?_ ?_ ?_ ?_ ?_ ?_
                      rotate_left 2
                      · (simp only [List.getElem?_toArray, List.getElem?_cons_succ, List.getElem?_cons_zero]; exact rfl)
                      · kernel_rfl
                      · kernel_rfl
                      · kernel_rfl
                      · exact fun _ _ _ h => h
                      · first | (refine Or.inl ⟨by rfl, ?_⟩; intro w hSw; (try dsimp only at hSw); go_simp; try with_reducible rfl) | (refine Or.inr ⟨by rfl, ?_⟩; rfl)
                      · assumption
                      try simp only [Act.put, List.setIfInBounds_toArray, List.set_cons_zero, List.set_cons_succ]
                      try simp only [Array.toArray_toList, HFOLD.out]
                      refine wpAnyH_take (i := 2) (oi := ?_) (v := ?_) ?_ ?_ ?_ ?_ ?_ ?_ ?_ ?_
                      rotate_left 2
                      · (simp only [List.getElem?_toArray, List.getElem?_cons_succ, List.getElem?_cons_zero]; exact rfl)
                      · kernel_rfl
                      · kernel_rfl
                      · kernel_rfl
                      · exact fun _ _ _ h => h
                      · first | (refine Or.inl ⟨by rfl, ?_⟩; intro w hSw; (try dsimp only at hSw); go_simp; try with_reducible rfl) | (refine Or.inr ⟨by rfl, ?_⟩; rfl)
                      · assumption
                      try simp only [Act.put, List.setIfInBounds_toArray, List.set_cons_zero, List.set_cons_succ]
                      try simp only [Array.toArray_toList, HFOLD.out]
                      refine wpAnyH_take (i := 3) (oi := ?_) (v := ?_) ?_ ?_ ?_ ?_ ?_ ?_ ?_ ?_
                      rotate_left 2
                      · (simp only [List.getElem?_toArray, List.getElem?_cons_succ, List.getElem?_cons_zero]; exact rfl)
                      · kernel_rfl
                      · kernel_rfl
                      · kernel_rfl
                      · exact fun _ _ _ h => h
                      · first | (refine Or.inl ⟨by rfl, ?_⟩; intro w hSw; (try dsimp only at hSw); go_simp; try with_reducible rfl) | (refine Or.inr ⟨by rfl, ?_⟩; rfl)
                      · assumption
                      try simp only [Act.put, List.setIfInBounds_toArray, List.set_cons_zero, List.set_cons_succ]
                      try simp only [Array.toArray_toList, HFOLD.out]
                      refine wpAnyH_take (i := 4) (oi := ?_) (v := ?_) ?_ ?_ ?_ ?_ ?_ ?_ ?_ ?_
                      rotate_left 2
                      · (simp only [List.getElem?_toArray, List.getElem?_cons_succ, List.getElem?_cons_zero]; exact rfl)
                      · kernel_rfl
                      · kernel_rfl
                      · kernel_rfl
                      · exact fun _ _ _ h => h
                      · first | (first | ((refine yieldsIf_load_mid ?_ 71 (.tmp 84) ?_ ga 1 ?_ T1.toList _ ?_ HUT.out ?_ HTA.out) <;> first | rfl | exact fun w h => h.2) | (refine Or.inl ⟨by rfl, ?_⟩; intro w hSw; obtain ⟨hS1, hS2⟩ := hSw; go_simp; try with_reducible rfl)) | (refine Or.inr ⟨by rfl, ?_⟩; rfl)
                      · assumption
                      try simp only [Act.put, List.setIfInBounds_toArray, List.set_cons_zero, List.set_cons_succ]
                      try simp only [Array.toArray_toList, HFOLD.out]
                      refine wpAnyH_take (i := 5) (oi := ?_) (v := ?_) ?_ ?_ ?_ ?_ ?_ ?_ ?_ ?_
                      rotate_left 2
                      · (simp only [List.getElem?_toArray, List.getElem?_cons_succ, List.getElem?_cons_zero]; exact rfl)
                      · kernel_rfl
                      · kernel_rfl
                      · kernel_rfl
                      · exact fun _ _ _ h => h
                      · first | (refine Or.inl ⟨by rfl, ?_⟩; intro w hSw; (try dsimp only at hSw); go_simp; try with_reducible rfl) | (refine Or.inr ⟨by rfl, ?_⟩; rfl)
                      · assumption
                      try simp only [Act.put, List.setIfInBounds_toArray, List.set_cons_zero, List.set_cons_succ]
                      try simp only [Array.toArray_toList, HFOLD.out]
                      refine wpAnyH_take (i := 6) (oi := ?_) (v := ?_) ?_ ?_ ?_ ?_ ?_ ?_ ?_ ?_
                      rotate_left 2
                      · (simp only [List.getElem?_toArray, List.getElem?_cons_succ, List.getElem?_cons_zero]; exact rfl)
                      · kernel_rfl
                      · kernel_rfl
                      · kernel_rfl
                      · exact fun _ _ _ h => h
                      · first | (first | ((refine yieldsIf_load_mid ?_ 71 (.tmp 84) ?_ ga 1 ?_ T1.toList _ ?_ HUT.out ?_ HTA.out) <;> first | rfl | exact fun w h => h.2) | (refine Or.inl ⟨by rfl, ?_⟩; intro w hSw; obtain ⟨hS1, hS2⟩ := hSw; go_simp; try with_reducible rfl)) | (refine Or.inr ⟨by rfl, ?_⟩; rfl)
                      · assumption
                      try simp only [Act.put, List.setIfInBounds_toArray, List.set_cons_zero, List.set_cons_succ]
                      try simp only [Array.toArray_toList, HFOLD.out]
                      refine wpAnyH_ready (rs := [7]) (by kernel_rfl) (by simp) ?_
                      refine AllReadyH.cons (o := ?_) ?_ (fun K hK => ?_) ?_
                      rotate_left 1
                      · (simp only [List.getElem?_toArray, List.getElem?_cons_succ, List.getElem?_cons_zero]; exact rfl)
                      · go_simp
                        refine hK.out _ _ ?_ (fun hHeld => ?_)
                        · (try dsimp only) <;> (first | exact SX.out _ _ h5 (by simp) (by simp [HMA.out]) | exact SX.out _ _ (HSB.out.alloc _).drew1 (by simp) (by simp [HMA.out]))
                        clear hK K
                        try simp only [Act.put, List.setIfInBounds_toArray, List.set_cons_zero, List.set_cons_succ]
                        try simp only [Array.toArray_toList, HFOLD.out]
                        refine wpAnyH_ready (rs := [8]) (by kernel_rfl) (by simp) ?_
                        refine AllReadyH.cons (o := ?_) ?_ (fun K hK => ?_) ?_
                        rotate_left 1
                        · (simp only [List.getElem?_toArray, List.getElem?_cons_succ, List.getElem?_cons_zero]; exact rfl)
                        · ((refine step_append_row (F := dcB b d2 :: RR) (L := LI) rfl (.tmp 83) (.tmp 86) 84 rfl 71 (.agg ztl.arr) 41 144 Tryd.underlying84 told_sized (by kernel_rfl) (by omega) rfl HRI.out ((St.alloc_ HSB.out _).drew1) rfl (St.srcT HT41.out ((HSB.out.alloc (.cells T1 71)).drew1) (List.mem_cons_self ..)) HO1.out TS.length HPL.out (tall TS) HPA.out (by rw [← HPL.out]; unfold maxLen; omega) (by rw [← HPL.out]; omega) ?_; intro A5 c5 w5 L5 hr5 h5; dsimp only))
                          refine hK.out _ _ ?_ (fun hHeld => ?_)
                          · (try dsimp only) <;> (first | exact SX.out _ _ h5 (by simp) (by simp [HMA.out]) | exact SX.out _ _ (HSB.out.alloc _).drew1 (by simp) (by simp [HMA.out]))
                          clear hK K
                          try simp only [Act.put, List.setIfInBounds_toArray, List.set_cons_zero, List.set_cons_succ]
                          try simp only [Array.toArray_toList, HFOLD.out]
                          refine wpAnyH_take (i := 9) (oi := ?_) (v := ?_) ?_ ?_ ?_ ?_ ?_ ?_ ?_ ?_
                          rotate_left 2
                          · (simp only [List.getElem?_toArray, List.getElem?_cons_succ, List.getElem?_cons_zero]; exact rfl)
                          · kernel_rfl
                          · kernel_rfl
                          · kernel_rfl
                          · exact fun _ _ _ h => h
                          · first | (refine Or.inl ⟨by rfl, ?_⟩; intro w hSw; (try dsimp only at hSw); go_simp; try with_reducible rfl) | (refine Or.inr ⟨by rfl, ?_⟩; rfl)
                          · assumption
                          try simp only [Act.put, List.setIfInBounds_toArray, List.set_cons_zero, List.set_cons_succ]
                          try simp only [Array.toArray_toList, HFOLD.out]
                          refine wpAnyH_take (i := 10) (oi := ?_) (v := ?_) ?_ ?_ ?_ ?_ ?_ ?_ ?_ ?_
                          rotate_left 2
                          · (simp only [List.getElem?_toArray, List.getElem?_cons_succ, List.getElem?_cons_zero]; exact rfl)
                          · kernel_rfl
                          · kernel_rfl
                          · kernel_rfl
                          · exact fun _ _ _ h => h
                          · first | (refine Or.inl ⟨by rfl, ?_⟩; intro w hSw; (try dsimp only at hSw); go_simp; try with_reducible rfl) | (refine Or.inr ⟨by rfl, ?_⟩; rfl)
                          · assumption
                          try simp only [Act.put, List.setIfInBounds_toArray, List.set_cons_zero, List.set_cons_succ]
                          try simp only [Array.toArray_toList, HFOLD.out]
                          refine wpAnyH_done (by kernel_rfl) ?_ _
                          obtain ⟨e5, f5⟩ : w5.cell? ⟨b, 5, none⟩ = some (.slice d2.IA d2.ts.length d2.ic) ∧ w5.frozen? ⟨b, 5, none⟩ = false := ⟨(SX.out _ _ h5 (by simp) (by simp [HMA.out])).1, h5.frozen (g := b) (t := 87) (cs := d2.cells) (by simp) 5⟩
                          have h7 := St.set (A := L5) h5 5 (.slice A5 TS.length c5)
                          rw [Dc.s5] at h7
                          have HE := Lib.hid (HFIN.out _ A5 c5 L5 hr5 (h7.perm List.perm_middle))
                          clear h5 h7 hr5 SX HSB HFIN HRI HPL HPA HO1
                          show wpList _ _ _ [_] _ _
                          go_wp2_with fail
                          go_meet
                          exact HE.out
                        exact AllReadyH.nil
                      exact AllReadyH.nil
                    · rw [if_neg hsend, decide_eq_false hsend] at kT
                      have KT := Lib.hid kT
                      clear kT hsend f0 f42 HNT
                      refine KT.out.mono ?_
                      rintro e w11 ⟨rfl, h11⟩
                      obtain ⟨LLa, hLLa, hsa⟩ := h11.opens
                      have hend : ∃ (Jn : Nat → Option Obj) (qn : LQ) (LLn DLn : List (Nat × Obj)), Le J' Jn ∧ qn.fs.length ≤ 60 + 10 * (k + 1) ∧ qn.cnt ≤ k + 1 ∧ LdL W Jn g gn m es nm ro ri n ni qn LLn ∧ DocL W Jn b r A0 nr c0 nm n qn DLn ∧ St W w11 Jn (LLn ++ (DLn ++ [(ga, Obj.cells C 73 (0, 0))])) := ⟨J', q, LLa, DL, Le.refl _, by have := HQF.out; omega, by have := HQC.out; omega, hLLa, HDL.out, hsa⟩
                      have HE := Lib.hid hend
                      clear hend hLLa hsa h11 KT H10
                      go_wp2_with fail
                      go_meet
                      exact HE.out
                · by_cases k2 : kd = 2
                  · as_aux_lemma =>
                      subst k2
                      clear k1 f0 f42 HNT
                      have kT := lq_take (HLL.out.st H9.out)
                      have KT := Lib.hid kT
                      clear kT
                      go_wp2_with fail
                      refine KT.out.mono ?_
                      rintro e w10 ⟨a, p, rfl, hp, hx0, hx, h10⟩
                      obtain ⟨d2, LO, LI, A1x, c1x, L1x, hi2, hro2, hri2, hf2, hDL2⟩ := HDL.out
                      have h11 := h10.alloc (.cells #[.int .i64 a, .slice p.A p.bs.length p.c] 37)
                      obtain ⟨LLa, hLLa, hsa⟩ := h11.opens
                      have hmd : dcB b d2 ∈ LLa ++ ((w10.heap.size, Obj.cells #[.int .i64 a, .slice p.A p.bs.length p.c] 37 (0, 0)) :: (DL ++ [(ga, Obj.cells C 73 (0, 0))])) := by rw [hDL2]; simp
                      obtain ⟨_, _, _, p3, _, _, _, _, _, _, _⟩ := dc_cells hi2.mok hsa hmd
                      cases hqo : q.out with
                      | nil =>
                        have hps : d2.ps = [] := by have h := hi2.out; rw [hqo] at h; exact List.map_eq_nil_iff.1 h.symm
                        rw [hps, List.length_nil] at p3
                        have hend : ∃ (Jn : Nat → Option Obj) (qn : LQ) (LLn DLn : List (Nat × Obj)), Le J' Jn ∧ qn.fs.length ≤ 60 + 10 * (k + 1) ∧ qn.cnt ≤ k + 1 ∧ LdL W Jn g gn m es nm ro ri n ni qn LLn ∧ DocL W Jn b r A0 nr c0 nm n qn DLn ∧ St W (w10.alloc (.cells #[.int .i64 a, .slice p.A p.bs.length p.c] 37)) Jn (LLn ++ (DLn ++ [(ga, Obj.cells C 73 (0, 0))])) := ⟨J', { q with out := q.out.tail }, LLa, DL, Le.refl _, by have := HQF.out; show q.fs.length ≤ _; omega, by have := HQC.out; show q.cnt ≤ _; omega, hLLa, ⟨d2, LO, LI, A1x, c1x, L1x, { hi2 with out := by show q.out.tail = _; rw [hqo, hps]; rfl }, hro2, hri2, hf2, hDL2⟩, hsa.keep [(w10.heap.size, Obj.cells #[.int .i64 a, .slice p.A p.bs.length p.c] 37 (0, 0))] fun _ a => by simp only [List.count_append, List.count_cons, List.count_nil]; omega⟩
                        have HE := Lib.hid hend
                        clear hend hsa hLLa h11 h10 hx hx0 hp hi2 hro2 hri2 hf2 hDL2 hmd hps KT H9 HLL HDL RG9
                        dsimp only [List.isEmpty_nil, Bool.not_true]
                        go_wp2_with fail
                        go_meet
                        exact HE.out
                      | cons x1 rest =>
                        obtain ⟨p0, ps, hps, hp0, hrest⟩ : ∃ p0 ps, d2.ps = p0 :: ps ∧ (p0.1, p0.2.bs) = x1 ∧ ps.map (fun x => (x.1, x.2.bs)) = rest := by
                          have h := hi2.out
                          rw [hqo] at h
                          cases hd : d2.ps with
                          | nil => rw [hd] at h; cases h
                          | cons p0 ps => rw [hd] at h; simp only [List.map_cons, List.cons.injEq] at h; exact ⟨p0, ps, rfl, h.1.symm, h.2.symm⟩
                        have hxa := hx x1 rest hqo
                        rw [← hp0] at hxa
                        simp only [Prod.mk.injEq] at hxa
                        obtain ⟨ha, hbs⟩ := hxa
                        subst ha
                        obtain ⟨pA, pc, pb⟩ := p
                        obtain ⟨a0, ⟨qA, qc, qb⟩⟩ := p0
                        simp only at hbs
                        obtain rfl : pb = qb := hbs.symm
                        have hp2 : POk ⟨qA, qc, pb⟩ W J' := hi2.pok (a0, ⟨qA, qc, pb⟩) (by rw [hps]; exact List.mem_cons_self ..)
                        rw [hps] at hro2
                        obtain ⟨gO, oO, ocap, ocur, hv, hLO, _⟩ := hro2.cells (j := 0) (u := .int .i64 a0) rfl
                        injection hv with hOA _ hic
                        subst hic
                        have hnc : ps.length + 1 ≤ d2.oc := by
                          obtain ⟨_, ⟨hv3, h0, _⟩ | ⟨_, _, _, _, hv3, _, hnc, _⟩⟩ := id hro2
                          · simp at h0
                          · injection hv3 with _ _ h3; rw [h3]; simpa using hnc
                        rw [hOA] at hro2
                        have hpl : ps.length ≤ 16 := by have h := HSML.out.1; rw [hi2.out, List.length_map, hps] at h; simp at h; omega
                        have fO : ∀ (v : World) (G : List (Nat × Obj)), St W v J' G → (∀ p ∈ LO, p ∈ G) → v.cell? ⟨gO, oO, none⟩ = some (.int .i64 a0) ∧ v.cell? ⟨gO, oO + 1, none⟩ = some (.slice qA pb.length qc) := fun v G hv hm => by
                          have h := row_range hro2 hv hm #[.int .i64 a0, .slice qA pb.length qc] (fun j u hj => by
                            match j, hj with
                            | 0, hj => simpa [pall, pcell] using hj
                            | 1, hj => simpa [pall, pcell] using hj
                            | j + 2, hj => simp at hj)
                          exact ⟨h 0 _ rfl, h 1 _ rfl⟩
                        have hmO : ∀ p ∈ LO, p ∈ LLa ++ ((w10.heap.size, Obj.cells #[.int .i64 a0, .slice pA pb.length pc] 37 (0, 0)) :: (DL ++ [(ga, Obj.cells C 73 (0, 0))])) := fun p hp => by rw [hDL2]; simp [hp]
                        obtain ⟨o0, o1⟩ := fO _ _ hsa hmO
                        have q0 := hsa.cell (g := w10.heap.size) (cs := #[.int .i64 a0, .slice pA pb.length pc]) (t := 37) (fr := (0, 0)) (by simp) 0
                        have q1 := hsa.cell (g := w10.heap.size) (cs := #[.int .i64 a0, .slice pA pb.length pc]) (t := 37) (fr := (0, 0)) (by simp) 1
                        have s1 := fun k => conv_str (P := Tryd.prog) (c := pc) Tryd.underlying27 Tryd.underlying5 Tryd.underlying9 (hp.in_ _ _ (hsa.drew k))
                        have s2 := fun k => conv_str (P := Tryd.prog) (c := qc) Tryd.underlying27 Tryd.underlying5 Tryd.underlying9 (hp2.in_ _ _ (hsa.drew k))
                        simp only at s1 s2
                        rw [hps, hOA] at p3
                        simp only [List.length_cons] at p3
                        have g0 : (a0 != a0) = false := by simp
                        have g1 : (0 : Int) < (ps.length : Int) + 1 := by omega
                        have hsl := fun w => run_slice_fromS (P := Tryd.prog) (s := 2) Tryd.underlying85 (fun w => by simp [Tryd.sizeOf37 w]) (some ⟨gO, oO, none⟩) (ps.length + 1) d2.oc 1 (by omega) hnc w
                        simp only [Nat.add_sub_cancel] at hsl
                        have hsrc : ∀ (v : World) (Y : List (Nat × Obj)), St W v J' Y → (∀ p ∈ LO, p ∈ Y) → Src v 2 (subS (some ⟨gO, oO, none⟩) d2.oc 1 2) ps.length (pall ps) := fun v Y hv hm => by
                          have h := (Row.src hro2 (fun p hp => hv.own p (hm p hp))).dropS d2.oc 1 (by simp) (by simpa using hnc)
                          simpa [pall, pcell] using h
                        obtain ⟨AX, hAX⟩ : ∃ AX, AX = some (⟨gO, oO, none⟩ : Addr) := ⟨_, rfl⟩
                        rw [← hAX] at hsl hsrc
                        have HAX := Lib.hid hAX
                        obtain ⟨SB, hSB⟩ : ∃ SB, subS AX d2.oc 1 2 = SB := ⟨_, rfl⟩
                        rw [hSB] at hsl hsrc
                        have hsl1 : ∀ w, (Instr.slice 85 (.slice AX (ps.length + 1) d2.oc) (some (.int .i64 1)) none none).run Tryd.prog w = .ok (.slice SB ps.length (d2.oc - 1)) w := hsl
                        clear hsl
                        have hb : St W (w10.alloc (.cells #[.int .i64 a0, .slice pA pb.length pc] 37)) J' (dcB b d2 :: (LO ++ ((r, .cells (rcells A0 nr c0 A1x q.fs.length c1x q.cnt) 90 (0, 0)) :: (L1x ++ (LI ++ (LLa ++ [(w10.heap.size, .cells #[.int .i64 a0, .slice pA pb.length pc] 37 (0, 0)), (ga, Obj.cells C 73 (0, 0))])))))) := by
                          rw [hDL2] at hsa
                          exact hsa.keep [] fun _ a => by simp only [List.count_append, List.count_cons, List.count_nil]; omega
                        obtain ⟨RR, hRR⟩ : ∃ RR, (LO ++ ((r, .cells (rcells A0 nr c0 A1x q.fs.length c1x q.cnt) 90 (0, 0)) :: (L1x ++ (LI ++ (LLa ++ [(w10.heap.size, .cells #[.int .i64 a0, .slice pA pb.length pc] 37 (0, 0)), (ga, Obj.cells C 73 (0, 0))]))))) = RR := ⟨_, rfl⟩
                        have hmR : ∀ p ∈ LO, p ∈ RR := fun p hp => by rw [← hRR]; simp [hp]
                        have hfin : ∀ (v : World) (A5 : Option Addr) (c5 : Nat) (L5 : List (Nat × Obj)), Row 37 2 (.slice A5 ps.length c5) ps.length (pall ps) L5 → St W v J' (dcB b { d2 with OA := A5, oc := c5, ps := ps } :: (L5 ++ RR)) → ∃ (Jn : Nat → Option Obj) (qn : LQ) (LLn DLn : List (Nat × Obj)), Le J' Jn ∧ qn.fs.length ≤ 60 + 10 * (k + 1) ∧ qn.cnt ≤ k + 1 ∧ LdL W Jn g gn m es nm ro ri n ni qn LLn ∧ DocL W Jn b r A0 nr c0 nm n qn DLn ∧ St W v Jn (LLn ++ (DLn ++ [(ga, Obj.cells C 73 (0, 0))])) := fun v A5 c5 L5 hr5 hv => by
                          refine ⟨J', { q with out := q.out.tail }, LLa, _, Le.refl _, by have := HQF.out; show q.fs.length ≤ _; omega, by have := HQC.out; show q.cnt ≤ _; omega, hLLa, ⟨{ d2 with OA := A5, oc := c5, ps := ps }, L5, LI, A1x, c1x, L1x, { hi2 with out := by show q.out.tail = _; rw [hqo, ← hrest]; rfl, pok := fun x hx => hi2.pok x (by rw [hps]; exact List.mem_cons_of_mem _ hx) }, hr5, hri2, hf2, rfl⟩, ?_⟩
                          rw [← hRR] at hv
                          exact hv.keep (LO ++ [(w10.heap.size, .cells #[.int .i64 a0, .slice pA pb.length pc] 37 (0, 0))]) fun _ a => by simp only [List.count_append, List.count_cons, List.count_nil]; omega
                        rw [hRR] at hb
                        have hmok := hi2.mok
                        have HB := Lib.hid hb; have HFIN := Lib.hid hfin; have HSRC := Lib.hid hsrc; have HMR := Lib.hid hmR; have HOA := Lib.hid hOA; have HPS := Lib.hid hps
                        clear hb hfin hsrc hmR hRR hsa hLLa h11 h10 hx hx0 hp hp2 hi2 hro2 hri2 hf2 hDL2 hmd hps KT H9 HLL HDL RG9 hOA hAX hSB fO hmO hLO hrest hp0 hqo HQF HQC
                        dsimp only [List.isEmpty_cons, Bool.not_false]
                        go_wp2_with fail
                        go_quiet (fail)
                        clear q0 q1 o0 o1 s1 s2 p3 g1
                        generalize hw13 : World.drewN _ _ = w13
                        have h14 : St W w13 J' (dcB b d2 :: RR) := by rw [← hw13]; exact HB.out.drew _
                        clear hw13 HB
                        obtain ⟨_, _, _, p3, _, _, _, _, _, _, _⟩ := dc_cells hmok h14 (List.mem_cons_self ..)
                        rw [HPS.out, HOA.out] at p3
                        simp only [List.length_cons] at p3
                        have p3a : ∀ o, (w13.alloc o).cell? ⟨b, 3, none⟩ = some (.slice AX (ps.length + 1) d2.oc) := fun o => by rw [HAX.out]; exact cell_old p3
                        clear p3
                        have h15 := h14.alloc (.cells #[] 37)
                        have hs15 := HSRC.out _ _ h15 (fun p hp => by simp [HMR.out p hp])
                        have H15 := Lib.hid h15; have HS15 := Lib.hid hs15
                        clear h14 h15 hs15
                        go_wp2_with (at_builtin; refine Hid.out ?_)
                        refine Lib.hid ?_
                        refine wpList_append_row (F := dcB b d2 :: RR) (L := [(w13.heap.size, .cells #[] 37 (0, 0))]) rfl (.tmp 131) (.tmp 136) 85 rfl 37 (.agg #[.int .i64 0, .slice none 0 0]) 2 32 Tryd.underlying85 piece_sized rfl (by omega) rfl (Row.empty 37 2 w13.heap.size) H15.out rfl HS15.out (pall_one ps) ps.length (by omega) (pall ps) rfl (by unfold maxLen; omega) (by omega) ?_
                        intro A5 c5 w14 L5 hr5 h16
                        clear p3a
                        have h17 : St W w14 J' (dcB b d2 :: (L5 ++ RR)) := h16.perm List.perm_middle
                        obtain ⟨_, _, _, p3, _, _, _, _, _, _, _⟩ := dc_cells hmok h17 (List.mem_cons_self ..)
                        have f3 := dc_frozen h17 (List.mem_cons_self ..) 3
                        have h18 := St.set (A := []) h17 3 (.slice A5 ps.length c5)
                        rw [Dc.s3] at h18
                        have HE := Lib.hid (HFIN.out _ A5 c5 L5 hr5 h18)
                        clear h16 h17 h18 hr5 H15 HS15 HFIN HSRC
                        go_wp2_with fail
                        go_meet
                        exact HE.out
            
                  · by_cases k3 : kd = 3
                    · as_aux_lemma =>
                        subst k3
                        have b1 : ((3 : Int) == 1) = false := rfl
                        clear k1 k2 f0 HNT
                        have kM := lq_more (HLL.out.st H9.out) d.A d.c d.fs (fun v L hv => DOK.out.f v L (hv.less (LE0.out.trans (HJ2.out.trans HLJ.out)))) (by have := HQF.out; have := HD10.out.2.2; omega)
                        have KM := Lib.hid kM
                        clear kM
                        go_wp2_with fail
                        refine KM.out.mono ?_
                        rintro e w10 ⟨rfl, h10⟩
                        obtain ⟨LLa, hLLa, hsa⟩ := h10.opens
                        obtain ⟨d2, LO, LI, A1x, c1x, L1x, hi2, hro2, hri2, hf2, hDL2⟩ := HDL.out
                        have hsb : St W w10 J' (L1x ++ ((r, .cells (rcells A0 nr c0 A1x q.fs.length c1x q.cnt) 90 (0, 0)) :: (dcB b d2 :: (LO ++ (LI ++ (LLa ++ [(ga, Obj.cells C 73 (0, 0))])))))) := by
                          rw [hDL2] at hsa
                          exact hsa.keep [] fun _ a => by simp only [List.count_append, List.count_cons, List.count_nil]; omega
                        obtain ⟨RR, hRR⟩ : ∃ RR, (dcB b d2 :: (LO ++ (LI ++ (LLa ++ [(ga, Obj.cells C 73 (0, 0))])))) = RR := ⟨_, rfl⟩
                        have hmA : (ga, Obj.cells C 73 (0, 0)) ∈ RR := by rw [← hRR]; simp
                        have hqf := HQF.out
                        have hd10 := HD10.out.2.2
                        obtain ⟨FQ, hFQ⟩ : ∃ FQ, q.fs ++ d.fs = FQ := ⟨_, rfl⟩
                        have hpl : q.fs.length + d.fs.length = FQ.length := by rw [← hFQ]; simp
                        have hpa : fall q.fs ++ fall d.fs = fall FQ := by rw [← hFQ]; simp [fall]
                        have hfin : ∀ (v : World) (A5 : Option Addr) (c5 : Nat) (L5 : List (Nat × Obj)), Row 102 3 (.slice A5 FQ.length c5) FQ.length (fall FQ) L5 → St W v J' ((r, .cells (rcells A0 nr c0 A5 FQ.length c5 q.cnt) 90 (0, 0)) :: (L5 ++ RR)) → ∃ (Jn : Nat → Option Obj) (qn : LQ) (LLn DLn : List (Nat × Obj)), Le J' Jn ∧ qn.fs.length ≤ 60 + 10 * (k + 1) ∧ qn.cnt ≤ k + 1 ∧ LdL W Jn g gn m es nm ro ri n ni qn LLn ∧ DocL W Jn b r A0 nr c0 nm n qn DLn ∧ St W v Jn (LLn ++ (DLn ++ [(ga, Obj.cells C 73 (0, 0))])) := fun v A5 c5 L5 hr5 hv => by
                          refine ⟨J', { q with fs := q.fs ++ d.fs }, LLa, _, Le.refl _, by show (q.fs ++ d.fs).length ≤ _; rw [List.length_append]; omega, by have := HQC.out; show q.cnt ≤ _; omega, hLLa, ⟨d2, LO, LI, A5, c5, L5, { hi2 with }, hro2, hri2, by rw [hFQ]; exact hr5, rfl⟩, ?_⟩
                          rw [← hRR] at hv
                          rw [hFQ]
                          exact hv.keep [] fun _ a => by simp only [List.count_append, List.count_cons, List.count_nil]; omega
                        rw [hRR] at hsb
                        have sx : ∀ (v : World) (G : List (Nat × Obj)), St W v J' G → (r, Obj.cells (rcells A0 nr c0 A1x q.fs.length c1x q.cnt) 90 (0, 0)) ∈ G → (ga, Obj.cells C 73 (0, 0)) ∈ G → (v.cell? ⟨r, 1, none⟩ = some (.slice A1x q.fs.length c1x) ∧ v.cell? ⟨ga, 42, none⟩ = some (.slice d.A d.fs.length d.c)) := fun v G hv m1 m2 => ⟨hv.cell m1 1, (FAC.out v G hv m2).2.2⟩
                        have hsrc : ∀ (v : World) (G : List (Nat × Obj)), St W v J' G → Src v 3 d.A d.fs.length (fall d.fs) := fun v G hv => DOK.out.f v G (hv.less (LE0.out.trans (HJ2.out.trans HLJ.out)))
                        have HSB := Lib.hid hsb; have SX := Lib.hid sx; have HFIN := Lib.hid hfin; have HRF := Lib.hid hf2; have HPL := Lib.hid hpl; have HPA := Lib.hid hpa; have HMA := Lib.hid hmA; have HSRC := Lib.hid hsrc
                        clear hsa hsb sx hfin hi2 hro2 hri2 hf2 hDL2 hRR hFQ hpl hpa hmA hLLa h10 KM H9 RG9 HLL HDL f42 hsrc
                        go_wp2_with fail
                        generalize w10 = w6 at *
                        refine wp_region_sink (S := fun v => v.cell? ⟨r, 1, none⟩ = some (.slice A1x q.fs.length c1x) ∧ v.cell? ⟨ga, 42, none⟩ = some (.slice d.A d.fs.length d.c)) 10 (by kernel_rfl) (by kernel_rfl) rfl (SX.out _ _ HSB.out.drew1 (by simp) (by simp [HMA.out])) (fun hHeld => ?_)
                        dsimp only [List.take]
                        refine wpAnyH_take (i := 0) (oi := ?_) (v := ?_) ?_ ?_ ?_ ?_ ?_ ?_ ?_ ?_
                        rotate_left 2
                        · (simp only [List.getElem?_toArray, List.getElem?_cons_succ, List.getElem?_cons_zero]; exact rfl)
                        · kernel_rfl
                        · kernel_rfl
                        · kernel_rfl
                        · exact fun _ _ _ h => h
                        · first | (refine Or.inl ⟨by rfl, ?_⟩; intro w hSw; (try dsimp only at hSw); go_simp; try with_reducible rfl) | (refine Or.inr ⟨by rfl, ?_⟩; rfl)
                        · assumption
                        try simp only [Act.put, List.setIfInBounds_toArray, List.set_cons_zero, List.set_cons_succ]
                        refine wpAnyH_take (i := 1) (oi := ?_) (v := ?_) ?_ ?_ ?_ ?_ ?_ ?_ ?_ ?_
                        rotate_left 2
                        · (simp only [List.getElem?_toArray, List.getElem?_cons_succ, List.getElem?_cons_zero]; exact rfl)
                        · kernel_rfl
                        · kernel_rfl
                        · kernel_rfl
                        · exact fun _ _ _ h => h
                        · first | (refine Or.inl ⟨by rfl, ?_⟩; intro w hSw; (try dsimp only at hSw); go_simp; try with_reducible rfl) | (refine Or.inr ⟨by rfl, ?_⟩; rfl)
                        · assumption
                        try simp only [Act.put, List.setIfInBounds_toArray, List.set_cons_zero, List.set_cons_succ]
                        refine wpAnyH_take (i := 2) (oi := ?_) (v := ?_) ?_ ?_ ?_ ?_ ?_ ?_ ?_ ?_
                        rotate_left 2
                        · (simp only [List.getElem?_toArray, List.getElem?_cons_succ, List.getElem?_cons_zero]; exact rfl)
                        · kernel_rfl
                        · kernel_rfl
                        · kernel_rfl
                        · exact fun _ _ _ h => h
                        · first | (refine Or.inl ⟨by rfl, ?_⟩; intro w hSw; (try dsimp only at hSw); go_simp; try with_reducible rfl) | (refine Or.inr ⟨by rfl, ?_⟩; rfl)
                        · assumption
                        try simp only [Act.put, List.setIfInBounds_toArray, List.set_cons_zero, List.set_cons_succ]
                        refine wpAnyH_take (i := 3) (oi := ?_) (v := ?_) ?_ ?_ ?_ ?_ ?_ ?_ ?_ ?_
                        rotate_left 2
                        · (simp only [List.getElem?_toArray, List.getElem?_cons_succ, List.getElem?_cons_zero]; exact rfl)
                        · kernel_rfl
                        · kernel_rfl
                        · kernel_rfl
                        · exact fun _ _ _ h => h
                        · first | (refine Or.inl ⟨by rfl, ?_⟩; intro w hSw; (try dsimp only at hSw); go_simp; try with_reducible rfl) | (refine Or.inr ⟨by rfl, ?_⟩; rfl)
                        · assumption
                        try simp only [Act.put, List.setIfInBounds_toArray, List.set_cons_zero, List.set_cons_succ]
                        refine wpAnyH_take (i := 4) (oi := ?_) (v := ?_) ?_ ?_ ?_ ?_ ?_ ?_ ?_ ?_
                        rotate_left 2
                        · (simp only [List.getElem?_toArray, List.getElem?_cons_succ, List.getElem?_cons_zero]; exact rfl)
                        · kernel_rfl
                        · kernel_rfl
                        · kernel_rfl
                        · exact fun _ _ _ h => h
                        · first | ((refine Or.inl ⟨by rfl, ?_⟩; intro w hSw; obtain ⟨hS1, hS2⟩ := hSw; go_simp; try with_reducible rfl)) | (refine Or.inr ⟨by rfl, ?_⟩; rfl)
                        · assumption
                        try simp only [Act.put, List.setIfInBounds_toArray, List.set_cons_zero, List.set_cons_succ]
                        refine wpAnyH_take (i := 5) (oi := ?_) (v := ?_) ?_ ?_ ?_ ?_ ?_ ?_ ?_ ?_
                        rotate_left 2
                        · (simp only [List.getElem?_toArray, List.getElem?_cons_succ, List.getElem?_cons_zero]; exact rfl)
                        · kernel_rfl
                        · kernel_rfl
                        · kernel_rfl
                        · exact fun _ _ _ h => h
                        · first | (refine Or.inl ⟨by rfl, ?_⟩; intro w hSw; (try dsimp only at hSw); go_simp; try with_reducible rfl) | (refine Or.inr ⟨by rfl, ?_⟩; rfl)
                        · assumption
                        try simp only [Act.put, List.setIfInBounds_toArray, List.set_cons_zero, List.set_cons_succ]
                        refine wpAnyH_take (i := 6) (oi := ?_) (v := ?_) ?_ ?_ ?_ ?_ ?_ ?_ ?_ ?_
                        rotate_left 2
                        · (simp only [List.getElem?_toArray, List.getElem?_cons_succ, List.getElem?_cons_zero]; exact rfl)
                        · kernel_rfl
                        · kernel_rfl
                        · kernel_rfl
                        · exact fun _ _ _ h => h
                        · first | ((refine Or.inl ⟨by rfl, ?_⟩; intro w hSw; obtain ⟨hS1, hS2⟩ := hSw; go_simp; try with_reducible rfl)) | (refine Or.inr ⟨by rfl, ?_⟩; rfl)
                        · assumption
                        try simp only [Act.put, List.setIfInBounds_toArray, List.set_cons_zero, List.set_cons_succ]
                        refine wpAnyH_ready (rs := [7]) (by kernel_rfl) (by simp) ?_
                        refine AllReadyH.cons (o := ?_) ?_ (fun K hK => ?_) ?_
                        rotate_left 1
                        · (simp only [List.getElem?_toArray, List.getElem?_cons_succ, List.getElem?_cons_zero]; exact rfl)
                        · ((refine step_append_row (F := (r, .cells (rcells A0 nr c0 A1x q.fs.length c1x q.cnt) 90 (0, 0)) :: RR) (L := L1x) rfl (.tmp 150) (.tmp 152) 64 rfl 102 (.agg #[.int .i64 0, .int .i64 0, .int .u8 0]) 3 24 Tryd.underlying64 (by kernel_rfl) rfl (by omega) rfl HRF.out HSB.out.drew1 rfl (HSRC.out _ _ HSB.out.drew1) (fall_one d.fs) FQ.length HPL.out (fall FQ) HPA.out (by rw [← HPL.out]; unfold maxLen; omega) (by rw [← HPL.out]; omega) ?_; intro A5 c5 w5 L5 hr5 h5; dsimp only))
                          refine hK.out _ _ ?_ (fun hHeld => ?_)
                          · (try dsimp only) <;> (first | exact SX.out _ _ h5 (by simp) (by simp [HMA.out]))
                          clear hK K
                          try simp only [Act.put, List.setIfInBounds_toArray, List.set_cons_zero, List.set_cons_succ]
                          refine wpAnyH_take (i := 8) (oi := ?_) (v := ?_) ?_ ?_ ?_ ?_ ?_ ?_ ?_ ?_
                          rotate_left 2
                          · (simp only [List.getElem?_toArray, List.getElem?_cons_succ, List.getElem?_cons_zero]; exact rfl)
                          · kernel_rfl
                          · kernel_rfl
                          · kernel_rfl
                          · exact fun _ _ _ h => h
                          · first | (refine Or.inl ⟨by rfl, ?_⟩; intro w hSw; (try dsimp only at hSw); go_simp; try with_reducible rfl) | (refine Or.inr ⟨by rfl, ?_⟩; rfl)
                          · assumption
                          try simp only [Act.put, List.setIfInBounds_toArray, List.set_cons_zero, List.set_cons_succ]
                          refine wpAnyH_take (i := 9) (oi := ?_) (v := ?_) ?_ ?_ ?_ ?_ ?_ ?_ ?_ ?_
                          rotate_left 2
                          · (simp only [List.getElem?_toArray, List.getElem?_cons_succ, List.getElem?_cons_zero]; exact rfl)
                          · kernel_rfl
                          · kernel_rfl
                          · kernel_rfl
                          · exact fun _ _ _ h => h
                          · first | (refine Or.inl ⟨by rfl, ?_⟩; intro w hSw; (try dsimp only at hSw); go_simp; try with_reducible rfl) | (refine Or.inr ⟨by rfl, ?_⟩; rfl)
                          · assumption
                          try simp only [Act.put, List.setIfInBounds_toArray, List.set_cons_zero, List.set_cons_succ]
                          refine wpAnyH_done (by kernel_rfl) ?_ _
                          obtain ⟨e5, f5⟩ : w5.cell? ⟨r, 1, none⟩ = some (.slice A1x q.fs.length c1x) ∧ w5.frozen? ⟨r, 1, none⟩ = false := ⟨(SX.out _ _ h5 (by simp) (by simp [HMA.out])).1, h5.frozen (g := r) (t := 90) (cs := rcells A0 nr c0 A1x q.fs.length c1x q.cnt) (by simp) 1⟩
                          have h7 := St.set (A := L5) h5 1 (.slice A5 FQ.length c5)
                          have h8 : St W (w5.setCell ⟨r, 1, none⟩ (.slice A5 FQ.length c5)) J' ((r, .cells (rcells A0 nr c0 A5 FQ.length c5 q.cnt) 90 (0, 0)) :: (L5 ++ RR)) := h7.perm List.perm_middle
                          have HE := Lib.hid (HFIN.out _ A5 c5 L5 hr5 h8)
                          clear h5 h7 h8 hr5 SX HSB HFIN HRF HPL HPA HSRC
                          show wpList _ _ _ [_] _ _
                          go_wp2_with fail
                          go_meet
                          exact HE.out
                        exact AllReadyH.nil
                    · as_aux_lemma =>
                        have b1 : (kd == 1) = false := by simpa using k1
                        have b2 : (kd == 2) = false := by simpa using k2
                        have b3 : (kd == 3) = false := by simpa using k3
                        clear k1 k2 k3 f0 f42 HNT
                        obtain ⟨sb, sq, hsq⟩ : ∃ sb sq, q.stepQ ((offOf es nm).map (·.bs)) n = (sb, sq) := ⟨_, _, rfl⟩
                        have hbd := step_bounds q ((offOf es nm).map (·.bs)) n
                        have kS := ld_step (HLL.out.st H9.out) (by omega) (by have := HQF.out; omega) (by have := HQC.out; omega)
                        rw [hsq] at kS hbd
                        have KS := Lib.hid kS; have HSQ := Lib.hid hsq; have HBD := Lib.hid hbd
                        clear kS hsq hbd
                        go_wp2_with fail
                        refine KS.out.mono ?_
                        rintro e w10 ⟨Ja, lea, rfl, h10⟩
                        obtain ⟨LLa, hLLa, hsa⟩ := h10.opens
                        have kD := rl_step (T2.out.more (HLJ.out.trans lea)) ((HDL.out.more lea).st hsa.swap) (HFA.out.more (HLJ.out.trans lea)) (by have := HQF.out; omega) (by have := HQC.out; omega) (by have := HSML.out.2; omega) (by have := HSML.out.1; omega) HBL.out
                        rw [HSQ.out] at kD
                        have KD := Lib.hid kD; have HLA := Lib.hid hLLa; have LEA := Lib.hid lea
                        clear kD hLLa h10 hsa lea KS
                        go_wp2_with fail
                        refine KD.out.mono ?_
                        rintro e w11 ⟨Jb, leb, rfl, h11⟩
                        obtain ⟨DLb, hDLb, hsb⟩ := h11.opens
                        have hend : ∃ (Jn : Nat → Option Obj) (qn : LQ) (LLn DLn : List (Nat × Obj)), Le J' Jn ∧ qn.fs.length ≤ 60 + 10 * (k + 1) ∧ qn.cnt ≤ k + 1 ∧ LdL W Jn g gn m es nm ro ri n ni qn LLn ∧ DocL W Jn b r A0 nr c0 nm n qn DLn ∧ St W w11 Jn (LLn ++ (DLn ++ [(ga, Obj.cells C 73 (0, 0))])) := ⟨Jb, sq, LLa, DLb, LEA.out.trans leb, by have := HBD.out; have := HQF.out; omega, by have := HBD.out; have := HQC.out; omega, HLA.out.more leb, hDLb, hsb.swap⟩
                        have HE := Lib.hid hend
                        clear hend h11 hDLb hsb leb KD
                        go_wp2_with fail
                        go_meet
                        exact HE.out
              case rest =>
                as_aux_lemma =>
                  obtain ⟨Jn, qn, LLn, DLn, hln, hqfn, hqcn, hLn, hDn, hsn⟩ := hcut
                  clear f0 f42
                  have HL := Lib.hid (hLn.st hsn)
                  obtain ⟨d2, LO, LI, A1x, c1x, L1x, hi2, hro2, hri2, hf2, hDL2⟩ := hDn
                  have hmd : dcB b d2 ∈ LLn ++ (DLn ++ [(ga, Obj.cells C 73 (0, 0))]) := by rw [hDL2]; simp
                  have hmr : (r, Obj.cells (rcells A0 nr c0 A1x qn.fs.length c1x qn.cnt) 90 (0, 0)) ∈ LLn ++ (DLn ++ [(ga, Obj.cells C 73 (0, 0))]) := by rw [hDL2]; simp
                  obtain ⟨_, _, p2, p3, _, p5, _, _, _, p45, p46⟩ := dc_cells hi2.mok hsn hmd
                  have r1 : wc.cell? ⟨r, 1, none⟩ = some (.slice A1x qn.fs.length c1x) := hsn.cell hmr 1
                  have r2 : wc.cell? ⟨r, 2, none⟩ = some (.int .i64 qn.cnt) := hsn.cell hmr 2
                  rw [hi2.left] at p2
                  rw [hi2.wants] at p45
                  rw [hi2.err] at p46
                  rw [show d2.ps.length = qn.out.length by rw [hi2.out, List.length_map]] at p3
                  rw [show d2.ts.length = qn.inn.length by rw [hi2.inn, List.length_map]] at p5
                  have hD2 : DocL W Jn b r A0 nr c0 nm n qn DLn := ⟨d2, LO, LI, A1x, c1x, L1x, hi2, hro2, hri2, hf2, hDL2⟩
                  have hsn2 := hsn.keep (M := LLn ++ (DLn ++ [])) [(ga, Obj.cells C 73 (0, 0))] fun _ a => by simp only [List.count_append, List.count_cons, List.count_nil]; omega
                  have HSN := Lib.hid hsn2; have HD2 := Lib.hid hD2; have HLN := Lib.hid hLn; have HLE := Lib.hid (HLJ.out.trans hln); have HF := Lib.hid hqfn; have HC := Lib.hid hqcn
                  clear hln hLn hsn hsn2 hi2 hro2 hri2 hf2 hDL2 hmd hmr hD2 hqfn hqcn H9 RG9 HLL HDL HLJ HQF HQC HSML
                  go_wp2_with fail
                  go_quiet (first | (go_at_call 18; (with_reducible exact quiet_left (lq_wants (HL.out.drewN _)))) | (go_at_call 15; (with_reducible exact quiet_left (lq_left (HL.out.drewN _)))) | (go_at_call 14; (with_reducible exact quiet_left (lq_err (HL.out.drewN _)))) | (go_at_call 19; (with_reducible exact quiet_left (lq_olen (HL.out.drewN _)))) | (go_at_call 23; (with_reducible exact quiet_left (lq_ilen (HL.out.drewN _)))) | (go_at_call 22; (with_reducible exact quiet_left (lq_fetches (HL.out.drewN _)))) | (go_at_call 29; (with_reducible exact quiet_left (lq_faults (HL.out.drewN _)))))
                  go_wp2_with fail
                  go_roundw
                  case rel => exact ⟨k + 1, Jn, qn, LLn, DLn, by go_num, by omega, HLE.out, HF.out, HC.out, HLN.out, HD2.out, HSN.out.drew _⟩
                  case measure => simp [intOf]; omega
            · obtain rfl : k = l.length := by omega
              have HST := Lib.hid hst; have HLJ := Lib.hid hlj
              clear hst hlj hLL hDL
              go_wp2_with fail
              go_ret
              exact ⟨rfl, HEND.out _ _ (Le.refl _) ((St.weaken (A := LL ++ DL) (by simpa using HST.out)).less (HJ2.out.trans HLJ.out))⟩
        exact AllReadyH.nil
      exact AllReadyH.nil
    exact AllReadyH.nil

end
end Go.Proofs.YtnhlpiomfljlcaaDoor
