/- order: is there an order of what is left: the walk. -/
import Derived.Test.YtnjnooeldkideaaDoorMOrP4
import Derived.OwnWalk
import Derived.Deep.DeepCutAuto
import Derived.Test.YtnjnooeldkideaaDoorMOrT
namespace Go.Proofs.YtnjnooeldkideaaDoor
set_option linter.unusedVariables false
set_option linter.unusedSimpArgs false
open Go.RowKit Go.Lib Go.Deep
section
variable {W w : World} {J : Nat → Option Obj} {t : Tb} {F : List (Nat × Obj)}
variable {n : Nat} {ns : List ByteArray}
def FnAt (W : World) (J : Nat → Option Obj) (ns : List ByteArray) (n f : Nat) : Prop := ∀ (ss : List Sp) (es : List En) (A : Option Addr) (N c : Nat) (B : Option Addr) (K d : Nat) (m : Md) (gm : Nat) (F : List (Nat × Obj)) (w : World), ss.length = N → es.length = K → K ≤ d → FnOk W J F A ss B es f → MdIn J F gm m ns n f → St W w J F →
 Calls Tryd.prog 23 #[.agg #[.slice A N c, .slice B K d], .pointer (some ⟨gm, 0, none⟩)] w (FndPost W J F (foundM ns f ss es m))
theorem spTry_of {f : Nat} {es : List En} {ss : List Sp} {m : Md} {k : Nat} {x : Sp} (hx : ss[k]? = some x) (hm : mayB ss k = true) (m' : Md) (hp : placeM m ns x = some m') (g : List Sp → Md → Bool) : spTry g ns ss m k = g (ss.eraseIdx k) m' := by
 unfold spTry
 rw [hm, Bool.true_and, hx]
 simp only [hp]
theorem spTry_no {ss : List Sp} {m : Md} {k : Nat} {x : Sp} (hx : ss[k]? = some x) (hm : mayB ss k = false ∨ placeM m ns x = none) (g : List Sp → Md → Bool) : spTry g ns ss m k = false := by
 unfold spTry
 rw [hx]
 rcases hm with h | h
 ·rw [h, Bool.false_and]
 ·simp only [h, Bool.and_false]
theorem any_succ (p : Nat → Bool) (k : Nat) : (List.range (k + 1)).any p = ((List.range k).any p || p k) := by
 rw [List.range_succ, List.any_append]
 simp
theorem any_true (p : Nat → Bool) {k N : Nat} (hk : k < N) (h : p k = true) : (List.range N).any p = true := List.any_eq_true.2 ⟨k, List.mem_range.2 hk, h⟩
set_option maxRecDepth 100000 in
set_option maxHeartbeats 16000000 in
theorem o_found_step (tb : Go.Proofs.YtnjnooeldkideaaDoor.TB W J) (f : Nat) (ih : FnAt W J ns n f) : FnAt W J ns n (f + 1) := by
 intro ss es A N c B K d m gm F w hN hK hKd ho hmd h
 have hmany := ho.many
 have hfew := ho.few
 have hN1000 : N ≤ 1000 := by omega
 have h1 := h.alloc (.cells #[.slice A N c, .slice B K d] 66)
 obtain ⟨g, hg⟩ : ∃ g, w.heap.size = g := ⟨_, rfl⟩
 rw [hg] at h1
 have sub1 : ∀ p ∈ F, p ∈ (g, .cells #[.slice A N c, .slice B K d] 66 (0, 0)) :: F := fun p hp => List.mem_cons_of_mem _ hp
 have hov : Calls Tryd.prog 33 #[.agg #[.slice A N c, .slice B K d]] (w.alloc (.cells #[.slice A N c, .slice B K d] 66)) fun e w' => e = .returned (.bool (overB ss es)) ∧ St W w' J ((g, .cells #[.slice A N c, .slice B K d] 66 (0, 0)) :: F) := by
  obtain ⟨Lx, hr, hl⟩ := ho.sp
  have q := o_over (c := c) (B := B) (k := K) (d := d) hr ho.sok (by omega) hK (fun p hp => sub1 p (hl p hp)) h1
  rw [hN] at q
  exact q
 have fcs := fun (v : World) (X : List (Nat × Obj)) (hv : St W v J X) (hx : (g, .cells #[.slice A N c, .slice B K d] 66 (0, 0)) ∈ X) => (⟨hv.cell hx 0, hv.cell hx 1⟩ : v.cell? ⟨g, 0, none⟩ = some (.slice A N c) ∧ v.cell? ⟨g, 1, none⟩ = some (.slice B K d))
 have hR : foundM ns (f + 1) ss es m = (overB ss es || (enTry (fun es' m' => foundM ns f ss es' m') ns es m || (List.range ss.length).any (fun k => spTry (fun ss' m' => foundM ns f ss' es m') ns ss m k))) := rfl
 rw [hN] at hR
 generalize foundM ns (f + 1) ss es m = R at *
 obtain ⟨c0, c1⟩ := fcs _ _ h1 (List.mem_cons_self ..)
 have fin : ∀ (b : Bool) (v : World) (D : List (Nat × Obj)), R = b → St W v J (D ++ ((g, .cells #[.slice A N c, .slice B K d] 66 (0, 0)) :: F)) → FndPost W J F R (.returned (.bool b)) v := fun b v D hb hv => ⟨by rw [hb], hv.keep (D ++ [(g, .cells #[.slice A N c, .slice B K d] 66 (0, 0))]) (fun i a => by simp only [List.count_append, List.count_cons, List.count_nil]; omega)⟩
 obtain ⟨OV, hOV⟩ : ∃ y, overB ss es = y := ⟨_, rfl⟩
 obtain ⟨TE, hTE⟩ : ∃ y, enTry (fun es' m' => foundM ns f ss es' m') ns es m = y := ⟨_, rfl⟩
 rw [hOV] at hov hR
 rw [hTE] at hR
 have HOV := Lib.hid hov; have H1 := Lib.hid h1; have HR := Lib.hid hR; have FIN := Lib.hid fin; have FCS := Lib.hid fcs; have HO := Lib.hid ho; have HMD := Lib.hid hmd; have IH := Lib.hid ih; have HTE := Lib.hid hTE; have HN := Lib.hid hN; have HK := Lib.hid hK
 clear hov h1 h hR fin fcs ho hmd ih hTE hOV sub1 hN hK
 go_enter Tryd.func23, Tryd.ntmps23
 go_wp2_with fail
 refine HOV.out.mono ?_
 rintro e w2 ⟨rfl, h2⟩
 have H2 := Lib.hid h2
 obtain ⟨d0, d1⟩ := FCS.out _ _ h2 (List.mem_cons_self ..)
 clear h2 H1 c0 c1 HOV
 cases OV with
 | true =>
  go_wp2_with fail
  go_ret
  exact FIN.out true _ [] (by rw [HR.out]; rfl) H2.out
 | false =>
  have HR2 : Hid (R = (TE || (List.range N).any (fun k => spTry (fun ss' m' => foundM ns f ss' es m') ns ss m k))) := Lib.hid (by rw [HR.out]; rfl)
  clear HR
  go_upto_if 15 with fail
  go_cut [] (fun wx => TE = false ∧ St W wx J ((g, .cells #[.slice A N c, .slice B K d] 66 (0, 0)) :: F))
  case first =>
   cases es with
   | nil =>
    have hk0 : K = 0 := by rw [← HK.out]; rfl
    have hte : TE = false := by rw [← HTE.out]; rfl
    subst hk0
    have HT := Lib.hid hte
    clear hte
    go_wp2_with fail
    go_meet
    exact ⟨HT.out, H2.out⟩
   | cons e es' =>
    have hk1 : K = es'.length + 1 := by rw [← HK.out]; rfl
    obtain ⟨Ly, hre, hle⟩ := HO.out.en
    have hleX : ∀ p ∈ Ly, p ∈ (g, .cells #[.slice A N c, .slice B K d] 66 (0, 0)) :: F := fun p hp => List.mem_cons_of_mem _ (hle p hp)
    obtain ⟨b, off, rfl, hr0⟩ := hre.en w2 _ H2.out hleX 0 e rfl
    have eok := HO.out.eok e (List.mem_cons_self ..)
    have enm := HO.out.enm e (List.mem_cons_self ..)
    obtain ⟨An, cn, Ln, mo, hLn, hmm⟩ := HMD.out.ex
    have kc := o_copy mo (fun p hp => List.mem_cons_of_mem _ (hLn p hp)) H2.out (List.mem_cons_of_mem _ hmm)
    have hend := HO.out.ends (d := d) K hKd hk1
    have fs := fun (v : World) (X : List (Nat × Obj)) (hv : St W v J X) (hx : (g, .cells #[.slice A N c, .slice (some ⟨b, off, none⟩) K d] 66 (0, 0)) ∈ X) (hl : ∀ p ∈ Ly, p ∈ X) => (⟨(FCS.out v X hv hx).1, (FCS.out v X hv hx).2, (by
     obtain ⟨b', off', q, hc⟩ := hre.en v X hv hl 0 e rfl
     injection q with q
     injection q with q1 q2
     subst q1 q2
     simpa using hc)⟩ : v.cell? ⟨g, 0, none⟩ = some (.slice A N c) ∧ v.cell? ⟨g, 1, none⟩ = some (.slice (some ⟨b, off, none⟩) K d) ∧ v.rangeAt b off e.cells.toList)
    have kd := fun (g5 : Nat) (A5 : Option Addr) (c5 : Nat) (L5 : List (Nat × Obj)) (mo5 : MOk J m ns A5 n c5 L5) (v : World) (X : List (Nat × Obj)) (hL : ∀ p ∈ L5, p ∈ X) (hv : St W v J ((g5, .cells (m.cells (.slice A5 n c5)) 71 (0, 0)) :: X)) => o_do tb mo5 e eok enm hL hv
    have ei := en_info eok
    have hdid := fun (g5 : Nat) (A5 : Option Addr) (c5 : Nat) (L5 : List (Nat × Obj)) (mo5 : MOk J m ns A5 n c5 L5) (m' : Md) (hd : doM m ns e = some m') => MdIn.did (g5 := g5) (F := (g, .cells #[.slice A N c, .slice (some ⟨b, off, none⟩) K d] 66 (0, 0)) :: F) (HMD.out.more (fun p hp => List.mem_cons_of_mem _ hp)) mo5 (doM_well HMD.out.well ns e eok m' hd)
    have hfo := fun (G : List (Nat × Obj)) (hG : ∀ p ∈ F, p ∈ G) => hend.more hG
    have hte := HTE.out
    unfold enTry at hte
    simp only at hte
    unfold En.val at kd
    obtain ⟨EX, hEX⟩ : ∃ y, e.cells = y := ⟨_, rfl⟩
    rw [hEX] at fs kd ei
    have hkp : (1 : Int) ≤ K := by omega
    have hk2 : es'.length = K - 1 := by omega
    have KC := Lib.hid kc; have FSx := Lib.hid fs; have KD := Lib.hid kd; have EI : Hid ((Tryd.prog.info? 38).map (·.size) = some EX.toList.length) := Lib.hid (by rw [Array.length_toList]; exact ei)
    have HDID := Lib.hid hdid; have HFO := Lib.hid hfo; have HT := Lib.hid hte; have HLE := Lib.hid hle; have HK2 := Lib.hid hk2
    have HUE := Lib.hid Tryd.underlying38
    clear kc fs kd ei hdid hfo hte hle hleX hre hr0 eok enm mo hLn hmm hend hEX hk2 HK hk1
    go_wp2_with fail
    refine KC.out.mono ?_
    rintro e1 w3 ⟨g5, A5, c5, L5, rfl, mo5, h3⟩
    have HDW := Lib.hid h3.drew1
    have hl5 : ∀ p ∈ Ly, p ∈ (g5, Obj.cells (m.cells (.slice A5 n c5)) 71 (0, 0)) :: (L5 ++ ((g, .cells #[.slice A N c, .slice (some ⟨b, off, none⟩) K d] 66 (0, 0)) :: F)) := fun p hp => by simp [HLE.out p hp]
    have hl6 : ∀ (q : Nat × Obj), ∀ p ∈ Ly, p ∈ q :: (L5 ++ ((g, .cells #[.slice A N c, .slice (some ⟨b, off, none⟩) K d] 66 (0, 0)) :: F)) := fun q p hp => by simp [HLE.out p hp]
    have HL6 := Lib.hid hl6
    have s1 := FSx.out _ _ HDW.out (by simp) hl5
    have KD2 := Lib.hid (KD.out g5 A5 c5 L5 mo5 _ _ (fun p hp => by simp [hp]) HDW.out)
    clear KC h3 hl5 hl6 KD d0 d1 H2
    cases hdo : doM m ns e with
    | none =>
     rw [hdo] at HT KD2
     have hte : TE = false := HT.out.symm
     have HT2 := Lib.hid hte
     clear hte HT hdo HDID
     rw [Option.isSome_none, Option.getD_none] at KD2
     go_wp2_with fail
     refine wp_region_held_drew (S := fun v => v.cell? ⟨g, 0, none⟩ = some (.slice A N c) ∧ v.cell? ⟨g, 1, none⟩ = some (.slice (some ⟨b, off, none⟩) K d) ∧ v.rangeAt b off EX.toList) (by kernel_rfl) s1 (fun hHeld => ?_)
     refine tk op0 (v := ?_) (by kernel_rfl) ?_ (by assumption) ?_ fun _ _ _ h => h
     rotate_left
     ·(refine ya rfl fun w hSw => ?_; go_simp; rfl)
     try simp only [Act.put, pu1, pu2, pu3]
     refine tk op1 (v := ?_) (by kernel_rfl) ?_ (by assumption) ?_ fun _ _ _ h => h
     rotate_left
     ·(refine ya rfl fun w hSw => ?_; go_simp; rfl)
     try simp only [Act.put, pu1, pu2, pu3]
     refine tk op2 (v := ?_) (by kernel_rfl) ?_ (by assumption) ?_ fun _ _ _ h => h
     rotate_left
     ·((refine Or.inl ⟨by rfl, ?_⟩; intro w hSw; obtain ⟨hS1, hS2, hS3⟩ := hSw; go_simp; try with_reducible rfl))
     try simp only [Act.put, pu1, pu2, pu3]
     refine tk op3 (v := ?_) (by kernel_rfl) ?_ (by assumption) ?_ fun _ _ _ h => h
     rotate_left
     ·(refine ya rfl fun w hSw => ?_; go_simp; rfl)
     try simp only [Act.put, pu1, pu2, pu3]
     refine tk op4 (v := ?_) (by kernel_rfl) ?_ (by assumption) ?_ fun _ _ _ h => h
     rotate_left
     ·(((refine yieldsIf_load_mid ?_ 38 (.tmp 21) ?_ b off ?_ EX.toList _ ?_ HUE.out ?_ EI.out) <;> first | rfl | exact fun w h => h.2.2))
     try simp only [Act.put, pu1, pu2, pu3]
     refine rd1 op5 (by kernel_rfl) fun K hK => ?_
     go_simp
     ((go_at_call 16; (with_reducible refine KD2.out.mono ?_); rintro e2 wx ⟨rfl, hx⟩; dsimp only))
     refine hK.out _ _ ?_ fun hHeld => ?_
     ·(try dsimp only) <;> ((exact FSx.out _ _ hx (by simp) (HL6.out _)))
     clear hK K
     try simp only [Act.put, pu1, pu2, pu3]
     refine tk op6 (v := ?_) (by kernel_rfl) ?_ (by assumption) ?_ fun _ _ _ h => h
     rotate_left
     ·(refine ya rfl fun w hSw => ?_; go_simp; rfl)
     try simp only [Act.put, pu1, pu2, pu3]
     refine tk op7 (v := ?_) (by kernel_rfl) ?_ (by assumption) ?_ fun _ _ _ h => h
     rotate_left
     ·(refine Or.inr ⟨by rfl, ?_⟩; rfl)
     try simp only [Act.put, pu1, pu2, pu3]
     refine tk op8 (v := ?_) (by kernel_rfl) ?_ (by assumption) ?_ fun _ _ _ h => h
     rotate_left
     ·(refine Or.inr ⟨by rfl, ?_⟩; rfl)
     try simp only [Act.put, pu1, pu2, pu3]
     refine tk op9 (v := ?_) (by kernel_rfl) ?_ (by assumption) ?_ fun _ _ _ h => h
     rotate_left
     ·(refine Or.inr ⟨by rfl, ?_⟩; rfl)
     try simp only [Act.put, pu1, pu2, pu3]
     refine tk (oq op0) (v := ?_) (by kernel_rfl) ?_ (by assumption) ?_ fun _ _ _ h => h
     rotate_left
     ·(refine Or.inr ⟨by rfl, ?_⟩; rfl)
     try simp only [Act.put, pu1, pu2, pu3]
     refine tk (oq op1) (v := ?_) (by kernel_rfl) ?_ (by assumption) ?_ fun _ _ _ h => h
     rotate_left
     ·(refine Or.inr ⟨by rfl, ?_⟩; rfl)
     try simp only [Act.put, pu1, pu2, pu3]
     refine tk (oq op2) (v := ?_) (by kernel_rfl) ?_ (by assumption) ?_ fun _ _ _ h => h
     rotate_left
     ·(refine Or.inr ⟨by rfl, ?_⟩; rfl)
     try simp only [Act.put, pu1, pu2, pu3]
     refine tk (oq op3) (v := ?_) (by kernel_rfl) ?_ (by assumption) ?_ fun _ _ _ h => h
     rotate_left
     ·(refine Or.inr ⟨by rfl, ?_⟩; rfl)
     try simp only [Act.put, pu1, pu2, pu3]
     refine tk (oq op4) (v := ?_) (by kernel_rfl) ?_ (by assumption) ?_ fun _ _ _ h => h
     rotate_left
     ·(refine Or.inr ⟨by rfl, ?_⟩; rfl)
     try simp only [Act.put, pu1, pu2, pu3]
     refine tk (oq op5) (v := ?_) (by kernel_rfl) ?_ (by assumption) ?_ fun _ _ _ h => h
     rotate_left
     ·(refine ya rfl fun w hSw => ?_; go_simp; rfl)
     try simp only [Act.put, pu1, pu2, pu3]
     refine wpAnyH_done (by kernel_rfl) ?_ _
     have HX := Lib.hid hx
     clear hx s1 HDW KD2
     go_wp2_with fail
     go_meet
     exact ⟨HT2.out, HX.out.keep ((g5, .cells (m.cells (.slice A5 n c5)) 71 (0, 0)) :: L5) (fun i a => by simp only [List.count_append, List.count_cons, List.count_nil]; omega)⟩
    | some m' =>
     rw [hdo] at HT KD2
     rw [Option.isSome_some, Option.getD_some] at KD2
     have hmd' := HDID.out g5 A5 c5 L5 mo5 m' hdo
     have kf := fun (v : World) (hv : St W v J ((g5, .cells (m'.cells (.slice A5 n c5)) 71 (0, 0)) :: (L5 ++ ((g, .cells #[.slice A N c, .slice (some ⟨b, off, none⟩) K d] 66 (0, 0)) :: F)))) => IH.out ss es' A N c _ (K - 1) (d - 1) m' g5 _ v HN.out HK2.out (by omega) (HFO.out _ (fun p hp => by simp [hp])) hmd' hv
     unfold FndPost at kf
     have ht2 := HT.out
     simp only at ht2
     rw [ht2] at kf
     have KF := Lib.hid kf
     clear kf ht2 HT hdo HDID hmd' HFO
     go_wp2_with fail
     refine wp_region_held_drew (S := fun v => v.cell? ⟨g, 0, none⟩ = some (.slice A N c) ∧ v.cell? ⟨g, 1, none⟩ = some (.slice (some ⟨b, off, none⟩) K d) ∧ v.rangeAt b off EX.toList) (by kernel_rfl) s1 (fun hHeld => ?_)
     refine tk op0 (v := ?_) (by kernel_rfl) ?_ (by assumption) ?_ fun _ _ _ h => h
     rotate_left
     ·(refine ya rfl fun w hSw => ?_; go_simp; rfl)
     try simp only [Act.put, pu1, pu2, pu3]
     refine tk op1 (v := ?_) (by kernel_rfl) ?_ (by assumption) ?_ fun _ _ _ h => h
     rotate_left
     ·(refine ya rfl fun w hSw => ?_; go_simp; rfl)
     try simp only [Act.put, pu1, pu2, pu3]
     refine tk op2 (v := ?_) (by kernel_rfl) ?_ (by assumption) ?_ fun _ _ _ h => h
     rotate_left
     ·((refine Or.inl ⟨by rfl, ?_⟩; intro w hSw; obtain ⟨hS1, hS2, hS3⟩ := hSw; go_simp; try with_reducible rfl))
     try simp only [Act.put, pu1, pu2, pu3]
     refine tk op3 (v := ?_) (by kernel_rfl) ?_ (by assumption) ?_ fun _ _ _ h => h
     rotate_left
     ·(refine ya rfl fun w hSw => ?_; go_simp; rfl)
     try simp only [Act.put, pu1, pu2, pu3]
     refine tk op4 (v := ?_) (by kernel_rfl) ?_ (by assumption) ?_ fun _ _ _ h => h
     rotate_left
     ·(((refine yieldsIf_load_mid ?_ 38 (.tmp 21) ?_ b off ?_ EX.toList _ ?_ HUE.out ?_ EI.out) <;> first | rfl | exact fun w h => h.2.2))
     try simp only [Act.put, pu1, pu2, pu3]
     refine rd1 op5 (by kernel_rfl) fun K hK => ?_
     go_simp
     ((go_at_call 16; (with_reducible refine KD2.out.mono ?_); rintro e2 wx ⟨rfl, hx⟩; dsimp only))
     refine hK.out _ _ ?_ fun hHeld => ?_
     ·(try dsimp only) <;> ((exact FSx.out _ _ hx (by simp) (HL6.out _)))
     clear hK K
     try simp only [Act.put, pu1, pu2, pu3]
     refine tk op6 (v := ?_) (by kernel_rfl) ?_ (by assumption) ?_ fun _ _ _ h => h
     rotate_left
     ·(refine ya rfl fun w hSw => ?_; go_simp; rfl)
     try simp only [Act.put, pu1, pu2, pu3]
     refine tk op7 (v := ?_) (by kernel_rfl) ?_ (by assumption) ?_ fun _ _ _ h => h
     rotate_left
     ·(refine ya rfl fun w hSw => ?_; go_simp; rfl)
     try simp only [Act.put, pu1, pu2, pu3]
     refine tk op8 (v := ?_) (by kernel_rfl) ?_ (by assumption) ?_ fun _ _ _ h => h
     rotate_left
     ·((refine Or.inl ⟨by rfl, ?_⟩; intro w hSw; obtain ⟨hS1, hS2, hS3⟩ := hSw; go_simp; try with_reducible rfl))
     try simp only [Act.put, pu1, pu2, pu3]
     refine tk op9 (v := ?_) (by kernel_rfl) ?_ (by assumption) ?_ fun _ _ _ h => h
     rotate_left
     ·(refine ya rfl fun w hSw => ?_; go_simp; rfl)
     try simp only [Act.put, pu1, pu2, pu3]
     refine tk (oq op0) (v := ?_) (by kernel_rfl) ?_ (by assumption) ?_ fun _ _ _ h => h
     rotate_left
     ·((refine Or.inl ⟨by rfl, ?_⟩; intro w hSw; obtain ⟨hS1, hS2, hS3⟩ := hSw; go_simp; try with_reducible rfl))
     try simp only [Act.put, pu1, pu2, pu3]
     refine tk (oq op1) (v := ?_) (by kernel_rfl) ?_ (by assumption) ?_ fun _ _ _ h => h
     rotate_left
     ·(refine ya rfl fun w hSw => ?_; go_simp; rfl)
     try simp only [Act.put, pu1, pu2, pu3]
     refine tk (oq op2) (v := ?_) (by kernel_rfl) ?_ (by assumption) ?_ fun _ _ _ h => h
     rotate_left
     ·(refine ya rfl fun w hSw => ?_; go_simp; rfl)
     try simp only [Act.put, pu1, pu2, pu3]
     refine tk (oq op3) (v := ?_) (by kernel_rfl) ?_ (by assumption) ?_ fun _ _ _ h => h
     rotate_left
     ·(refine ya rfl fun w hSw => ?_; go_simp; rfl)
     try simp only [Act.put, pu1, pu2, pu3]
     refine rd1 (oq op4) (by kernel_rfl) fun K hK => ?_
     go_simp
     ((go_at_call 23; (with_reducible refine (KF.out _ hx).mono ?_); rintro e3 wy ⟨rfl, hy⟩; dsimp only))
     refine hK.out _ _ ?_ fun hHeld => ?_
     ·(try dsimp only) <;> ((exact FSx.out _ _ hy (by simp) (HL6.out _)))
     clear hK K
     try simp only [Act.put, pu1, pu2, pu3]
     refine tk (oq op5) (v := ?_) (by kernel_rfl) ?_ (by assumption) ?_ fun _ _ _ h => h
     rotate_left
     ·(refine ya rfl fun w hSw => ?_; go_simp; rfl)
     try simp only [Act.put, pu1, pu2, pu3]
     refine wpAnyH_done (by kernel_rfl) ?_ _
     have HX := Lib.hid hy
     clear hx hy s1 HDW KD2 KF
     generalize (if d = 1 then (some ⟨b, off, none⟩ : Option Addr) else some ⟨b, off + 126, none⟩) = BB
     cases TE with
     | true =>
      go_wp2_with fail
      go_ret
      exact FIN.out true _ ((g5, .cells (m'.cells (.slice A5 n c5)) 71 (0, 0)) :: L5) (by rw [HR2.out]; rfl) HX.out
     | false =>
      go_wp2_with fail
      go_meet
      exact ⟨(by (trivial)), HX.out.keep ((g5, .cells (m'.cells (.slice A5 n c5)) 71 (0, 0)) :: L5) (fun i a => by simp only [List.count_append, List.count_cons, List.count_nil]; omega)⟩
  case rest =>
   obtain ⟨hte, h3⟩ := hcut
   obtain ⟨P, hP⟩ : ∃ P : Nat → Bool, (fun k => spTry (fun ss' m' => foundM ns f ss' es m') ns ss m k) = P := ⟨_, rfl⟩
   have hRP : R = (List.range N).any P := by rw [HR2.out, hte, hP]; rfl
   have hPk : ∀ k, P k = spTry (fun ss' m' => foundM ns f ss' es m') ns ss m k := fun k => by rw [← hP]
   have HRP := Lib.hid hRP; have HPK := Lib.hid hPk
   have d0' := (FCS.out _ _ h3 (List.mem_cons_self ..)).1
   have H3 := Lib.hid h3
   clear h3 hRP hPk hP hte HR2 HTE d0 d1 H2
   go_wp2_with fail
   clear d0'
   go_loopw [37] (fun v wr => ∃ k : Nat, v = .int .i64 (k : Int) ∧ k ≤ N ∧ (List.range k).any P = false ∧ St W wr J ((g, .cells #[.slice A N c, .slice B K d] 66 (0, 0)) :: F)) (fun v _ => N - (intOf v).toNat)
   case atStart => exact ⟨0, rfl, by omega, rfl, H3.out⟩
   case round =>
    obtain ⟨k, rfl, hk, hpk, hst⟩ := hrel
    clear H3
    by_cases hkl : k < N
    ·obtain ⟨x, hx⟩ : ∃ o, ss[k]? = some o := ⟨_, List.getElem?_eq_getElem (by rw [HN.out]; exact hkl)⟩
     obtain ⟨Lx, hrd, hlx⟩ := HO.out.sp
     have hlX : ∀ p ∈ Lx, p ∈ (g, .cells #[.slice A N c, .slice B K d] 66 (0, 0)) :: F := fun p hp => List.mem_cons_of_mem _ (hlx p hp)
     obtain ⟨b, off, rfl, hr⟩ := hrd.sp wr _ hst hlX k x hx
     have xm := List.mem_of_getElem? hx
     have xok := HO.out.sok x xm
     have xnm := HO.out.snm x xm
     have xi := sp_info xok
     have xsz := Sp.size xok
     have xo : x.cells.all (·.oneCell') = true := Sp.one x
     have h2 := hst.alloc (.cells Tryd.zeroCells40 40)
     have km := fun (v : World) (X : List (Nat × Obj)) (hv : St W v J X) (hl : ∀ p ∈ Lx, p ∈ X) => o_may (c := c) (B := B) (kk := K) (d := d) k x hx hrd HO.out.sok (by rw [HN.out]; omega) hl hv
     obtain ⟨An, cn, Ln, mo, hLn, hmm⟩ := HMD.out.ex
     have kp := fun (v : World) (X : List (Nat × Obj)) (hv : St W v J X) (hF : ∀ p ∈ F, p ∈ X) => o_place tb mo x xok xnm (fun p hp => hF p (hLn p hp)) hv (hF _ hmm)
     have kc := fun (v : World) (X : List (Nat × Obj)) (hv : St W v J X) (hl : ∀ p ∈ Lx, p ∈ X) => clone_spans (w := v) (F := X) (some ⟨b, off, none⟩) N c (spRows ss).flatten Lx (fun u Y hu hY => by have q := hrd.src (by omega) u Y hu hY; rw [show (spRows ss).length = N by unfold spRows; rw [List.length_map]; exact HN.out] at q; exact q) (fun u hu => by
      obtain ⟨r, hr, hur⟩ := List.mem_flatten.1 hu
      obtain ⟨y, _, rfl⟩ := List.mem_map.1 hr
      have q := y.one
      rw [← Array.all_toList] at q
      exact List.all_eq_true.1 q u hur) (by omega) hv hl
     have hone : ∀ u ∈ (spRows ss).flatten, u.oneCell' = true := fun u hu => by
      obtain ⟨r, hr, hur⟩ := List.mem_flatten.1 hu
      obtain ⟨y, _, rfl⟩ := List.mem_map.1 hr
      have q := y.one
      rw [← Array.all_toList] at q
      exact List.all_eq_true.1 q u hur
     have kdel := fun (A' : Option Addr) (c' : Nat) (L' : List (Nat × Obj)) (hr' : Row 40 88 (.slice A' N c') N (spRows ss).flatten L') (v : World) (X : List (Nat × Obj)) (hv : St W v J (L' ++ X)) => o_delete hr' hone hkl (by omega) hv
     have hrest := fun (A' : Option Addr) (c' : Nat) (L' : List (Nat × Obj)) (hr' : Row 40 88 (.slice A' (N - 1) c') (N - 1) ((spRows ss).flatten.take (k * 88) ++ (spRows ss).flatten.drop ((k + 1) * 88)) L') => HO.out.rest (by rw [HN.out]; exact hkl) hr'
     have hdid := fun (g5 : Nat) (A5 : Option Addr) (c5 : Nat) (L5 : List (Nat × Obj)) (mo5 : MOk J m ns A5 n c5 L5) (m' : Md) (hd : placeM m ns x = some m') => MdIn.did (g5 := g5) HMD.out mo5 (placeM_well HMD.out.well ns x xok m' hd)
     have hlen : (ss.eraseIdx k).length = N - 1 := by rw [List.length_eraseIdx_of_lt (by rw [HN.out]; exact hkl), HN.out]
     have hno := fun (hm : mayB ss k = false ∨ placeM m ns x = none) => (HPK.out k).trans (spTry_no hx hm _)
     have hyes := fun (hm : mayB ss k = true) (m' : Md) (hp : placeM m ns x = some m') => (HPK.out k).trans (spTry_of (f := f) (es := es) hx hm m' hp (fun ss' m' => foundM ns f ss' es m'))
     have hnx := any_succ P k
     rw [hpk, Bool.false_or] at hnx
     unfold Sp.val at kp
     obtain ⟨X, hX⟩ : ∃ X, x.cells = X := ⟨_, rfl⟩
     obtain ⟨mb, hmb⟩ : ∃ y, mayB ss k = y := ⟨_, rfl⟩
     rw [hX] at hr xi xsz xo kp
     rw [hmb] at km hno hyes
     rw [HN.out] at km
     have xfit : 0 + X.size ≤ Tryd.zeroCells40.size := by rw [xsz, zspan]; omega
     have xmany : setMany Tryd.zeroCells40 0 X.toList = X := by rw [setMany_whole _ _ (by rw [Array.length_toList, xsz, zspan]), Array.toArray_toList]
     have XR := Lib.hid hr; have XI := Lib.hid xi; have XO := Lib.hid xo; have XF := Lib.hid xfit; have XM := Lib.hid xmany; have H2 := Lib.hid h2; have KM := Lib.hid km; have KP := Lib.hid kp; have KC := Lib.hid kc; have KDEL := Lib.hid kdel; have HREST := Lib.hid hrest; have HDID := Lib.hid hdid; have HLEN := Lib.hid hlen; have HNO := Lib.hid hno; have HYES := Lib.hid hyes; have HNX := Lib.hid hnx; have HLX := Lib.hid hlx
     clear hst hr xi xsz xo xfit xmany h2 km kp kc kdel hrest hdid hlen hno hyes hnx hlx hlX xm xok xnm mo hLn hmm hone hrd hX hmb hpk hx
     go_wp2_with (first | (with_reducible refine wpList_load_midg 41 rfl (by kernel_rfl) 40 (.tmp 40) rfl b (off + k * 88) rfl X _ XR.out Tryd.underlying40 rfl XI.out ?_) | (with_reducible refine wpList_store_st rfl 40 (.tmp 7) (.tmp 41) rfl (g := wr.heap.size) (off := 0) X rfl rfl H2.out XF.out XI.out XO.out ?_; intro w3 h3; refine Hid.out ?_))
     refine Lib.hid ?_
     rw [XM.out] at h3
     obtain ⟨gx, hgx⟩ : ∃ y, wr.heap.size = y := ⟨_, rfl⟩
     rw [hgx] at h3 ⊢
     obtain ⟨d0, d1⟩ := FCS.out _ _ h3 (by simp)
     have KM2 := Lib.hid (KM.out _ _ h3 (fun p hp => by simp [HLX.out p hp]))
     clear h3 H2 hgx XR KM
     go_wp2_with fail
     refine KM2.out.mono ?_
     rintro e w4 ⟨rfl, h4⟩
     clear KM2 d0 d1
     cases mb with
     | false =>
      have H4 := Lib.hid h4
      have hk1 : (List.range (k + 1)).any P = false := by rw [HNX.out]; exact HNO.out (Or.inl rfl)
      have HK1 := Lib.hid hk1
      clear h4 hk1
      go_wp2_with fail
      go_roundw
      case rel => exact ⟨k + 1, by go_num, by omega, HK1.out, H4.out.weaken (A := [_])⟩
      case measure => simp [intOf]; omega
     | true =>
      have RX : Hid (w4.rangeAt gx 0 X.toList) := Lib.hid (fun i u hi => by rw [Nat.zero_add, h4.cell (g := gx) (cs := X) (t := 40) (fr := (0, 0)) (by simp) i]; simpa using hi)
      have KP2 := Lib.hid (KP.out _ _ h4 (fun p hp => by simp [hp]))
      clear h4 KP
      go_wp2_with (with_reducible refine wpList_load_midg 47 rfl (by kernel_rfl) 40 (.tmp 7) rfl gx 0 rfl X _ RX.out Tryd.underlying40 rfl XI.out ?_)
      refine KP2.out.mono ?_
      clear KP2 RX
      cases hpl : placeM m ns x with
      | none =>
       rintro e w5 ⟨rfl, h5⟩
       have H5 := Lib.hid h5
       have hk1 : (List.range (k + 1)).any P = false := by rw [HNX.out]; exact HNO.out (Or.inr hpl)
       have HK1 := Lib.hid hk1
       clear h5 hk1 hpl
       go_wp2_with fail
       go_roundw
       case rel => exact ⟨k + 1, by go_num, by omega, HK1.out, H5.out.weaken (A := [_])⟩
       case measure => simp [intOf]; omega
      | some m' =>
       rintro e w5 ⟨g8, A8, c8, L8, rfl, mo8, h5⟩
       have hv := HYES.out (by (trivial)) m' hpl
       have hmd' := HDID.out g8 A8 c8 L8 mo8 m' hpl
       obtain ⟨d0, d1⟩ := FCS.out _ _ h5 (by simp)
       have KC2 := Lib.hid (KC.out _ _ h5 (fun p hp => by simp [HLX.out p hp]))
       have HV := Lib.hid hv; have HMD2 := Lib.hid hmd'
       clear h5 hv hmd' hpl HNO HYES HDID KC
       go_wp2_with fail
       refine KC2.out.mono ?_
       rintro e w6 ⟨A6, c6, L6, rfl, hr6, h6⟩
       have KD2 := Lib.hid (KDEL.out A6 c6 L6 hr6 _ _ h6)
       clear h6 hr6 KC2 d0 d1
       go_wp2_with fail
       refine KD2.out.mono ?_
       rintro e w7 ⟨A7, c7, L7, rfl, hr7, h7⟩
       obtain ⟨d0, d1⟩ := FCS.out _ _ h7 (by simp)
       have kf := IH.out (ss.eraseIdx k) es A7 (N - 1) c7 B K d m' g8 _ w7 HLEN.out HK.out hKd ((HREST.out A7 c7 L7 hr7).more (fun p hp => by
        rcases List.mem_append.1 hp with hp | hp
        ·simp [hp]
        ·simp [hp])) (HMD2.out.more (fun p hp => by
        rcases List.mem_cons.1 hp with hp | hp
        ·simp [hp]
        ·rcases List.mem_append.1 hp with hp | hp
         ·simp [hp]
         ·simp [hp])) h7
       unfold FndPost at kf
       have hv2 := HV.out
       obtain ⟨fb, hfb⟩ : ∃ y, foundM ns f (ss.eraseIdx k) es m' = y := ⟨_, rfl⟩
       rw [hfb] at kf
       have hv3 : P k = fb := by rw [hv2]; exact hfb
       have KF := Lib.hid kf; have HV3 := Lib.hid hv3
       clear h7 hr7 KD2 kf hv2 hfb hv3 HV HMD2
       go_wp2_with fail
       refine KF.out.mono ?_
       rintro e w8 ⟨rfl, h8⟩
       have H8 := Lib.hid h8
       clear h8 KF d0 d1
       cases fb with
       | true =>
        have HF := Lib.hid (FIN.out true w8 (L7 ++ ((g8, .cells (m'.cells (.slice A8 n c8)) 71 (0, 0)) :: (L8 ++ [(gx, .cells X 40 (0, 0))]))) (by rw [HRP.out]; exact any_true P hkl HV3.out) (St.perm H8.out (perm_count (fun i a => by simp only [List.count_append, List.count_cons, List.count_nil]; omega))))
        go_wp2_with fail
        go_ret
        exact HF.out
       | false =>
        have HK1 := Lib.hid (show (List.range (k + 1)).any P = false by rw [HNX.out]; exact HV3.out)
        go_wp2_with fail
        go_roundw
        case rel => exact ⟨k + 1, by go_num, by omega, HK1.out, H8.out.keep (L7 ++ ((g8, .cells (m'.cells (.slice A8 n c8)) 71 (0, 0)) :: (L8 ++ [(gx, .cells X 40 (0, 0))]))) (fun i a => by simp only [List.count_append, List.count_cons, List.count_nil]; omega)⟩
        case measure => simp [intOf]; omega
    ·obtain rfl : k = N := by omega
     have HF := Lib.hid (FIN.out false wr [] (by rw [HRP.out]; exact hpk) hst)
     clear hst hpk
     go_wp2_with fail
     go_ret
     exact HF.out
theorem o_found (tb : Go.Proofs.YtnjnooeldkideaaDoor.TB W J) : ∀ f, FnAt W J ns n f := by
 intro f
 induction f with
 | zero => intro ss es A N c B K d m gm F w hN hK hKd ho; exact absurd ho.many (by omega)
 | succ f ih => exact o_found_step tb f ih
end
end Go.Proofs.YtnjnooeldkideaaDoor
