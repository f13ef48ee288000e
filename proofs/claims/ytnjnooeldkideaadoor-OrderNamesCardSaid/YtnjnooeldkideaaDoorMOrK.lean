/- order: what is stored. order: the table that is known. boot: all that it makes are changes of the four forms, few of them: plain Lean. order: is a name among the model's? call: what is known of one; as text and back: in plain Lean. -/
import Derived.Test.YtnjnooeldkideaaDoorMOrI
import Derived.Test.YtnjnooeldkideaaDoorShelf
import Derived.Test.YtnjnooeldkideaaDoorMParts
namespace Go.Proofs.YtnjnooeldkideaaDoor
section
set_option linter.unusedVariables false
set_option linter.unusedSimpArgs false
open Go.RowKit Go.Lib Go.Deep
section
variable {W w : World} {J : Nat → Option Obj} {t : Tb} {F : List (Nat × Obj)}
def keptB (x : Int) : Bool := x == 0 || (x == 92 || x == 64)
theorem o_kept (n : Int) (w : World) : Calls Tryd.prog 47 #[.int .i64 n] w fun e w' => e = .returned (.bool (keptB n)) ∧ w = w' := by
 unfold keptB
 obtain ⟨b0, h0⟩ : ∃ b, (n == 0) = b := ⟨_, rfl⟩
 obtain ⟨b1, h1⟩ : ∃ b, (n == 92) = b := ⟨_, rfl⟩
 rw [h0, h1]
 cases b0 <;> cases b1 <;>
 ·go_enter Tryd.func47, Tryd.ntmps47
  go_wp2_with fail
  go_ret
  exact ⟨by simp, rfl⟩
theorem o_live {m : Md} {nv : Value} {gm : Nat} (ok : m.Ok) (h : St W w J F) (hm : (gm, Obj.cells (m.cells nv) 71 (0, 0)) ∈ F) : Calls Tryd.prog 14 #[.pointer (some ⟨gm, 0, none⟩)] w fun e w' => e = .returned (.bool m.job.live) ∧ w = w' := by
 have c := (h.md ok hm).live
 clear h hm ok
 go_enter Tryd.func14, Tryd.ntmps14
 go_wp2_with fail
 go_ret
 exact ⟨rfl, rfl⟩
def zA : An := ⟨⟨0, 0, 0, 0, 0, zTb⟩, false, [], zJ, 0⟩
def storedA (m : Md) (a : An) (x : Int) : An × Bool := if (!keptB x || (x != 0 && !a.keeps)) = true then (zA, false) else if x ≠ 0 then (refA m x, true) else (a, true)
def TPost (W : World) (J : Nat → Option Obj) (F : List (Nat × Obj)) (r : An × Bool) (e : Ending) (w' : World) : Prop :=
 ∃ A c L, e = .returned (.tuple #[.agg (r.1.cells (.slice A r.1.l.length c)), .bool r.2]) ∧ Row 125 40 (.slice A r.1.l.length c) r.1.l.length (cgs r.1.l) L ∧ St W w' J (L ++ F)
set_option maxRecDepth 100000 in
theorem run_build_za (w : World) : (Instr.build 78 #[]).run Tryd.prog w = .ok (.agg (zA.cells (.slice none 0 0))) w := run_build w _ _ _ (by kernel_rfl)
set_option maxRecDepth 100000 in
set_option maxHeartbeats 8000000 in
theorem o_stored {m : Md} {nv : Value} {gm n c : Nat} {A : Option Addr} {a : An} {L : List (Nat × Obj)} (ok : m.Ok) (x : Int) (ato : a.rep.t.Ok) (hr : Row 125 40 (.slice A n c) n (cgs a.l) L) (hn : n = a.l.length) (h : St W w J (L ++ F)) (hm : (gm, Obj.cells (m.cells nv) 71 (0, 0)) ∈ F) :
  Calls Tryd.prog 31 #[.pointer (some ⟨gm, 0, none⟩), .agg (a.cells (.slice A n c)), .int .i64 x] w (TPost W J F (storedA m a x)) := by
 have h1 := (h.alloc (.cells (a.cells (.slice A n c)) 78)).alloc (.cells Tryd.zeroCells78 78)
 obtain ⟨g, hg⟩ : ∃ g, w.heap.size = g := ⟨_, rfl⟩
 rw [World.size_alloc, hg] at h1
 have kref := fun (v : World) (X : List (Nat × Obj)) (hv : St W v J X) (hx : (gm, Obj.cells (m.cells nv) 71 (0, 0)) ∈ X) => o_ref ok x hv hx
 have fin : ∀ (q : An) (b : Bool), storedA m a x = (q, b) → ∀ (v : World) (A' : Option Addr) (n' c' : Nat) (L' D : List (Nat × Obj)), n' = q.l.length → Row 125 40 (.slice A' n' c') n' (cgs q.l) L' → St W v J (D ++ (L' ++ F)) → TPost W J F (storedA m a x) (.returned (.tuple #[.agg (q.cells (.slice A' n' c')), .bool b])) v := fun q b hq v A' n' c' L' D hn' hr' hv => by
  rw [hq]
  subst hn'
  exact ⟨A', c', L', rfl, hr', hv.weaken⟩
 have hD : storedA m a x = if (!keptB x || (x != 0 && !a.keeps)) = true then (zA, false) else if x ≠ 0 then (refA m x, true) else (a, true) := rfl
 generalize storedA m a x = R at *
 have kat : ∀ (v : World) (X : List (Nat × Obj)), St W v J X → (g, Obj.cells (a.cells (.slice A n c)) 78 (0, 0)) ∈ X → v.cell? ⟨g, 80, none⟩ = some (.bool a.keeps) ∧ v.rangeAt g 0 (a.cells (.slice A n c)).toList := fun v X hv hx => ⟨(hv.cell hx 80).trans (An.g80 ato _ 0), fun j u hj => by rw [Nat.zero_add, hv.cell hx j]; simpa using hj⟩
 have rsz := An.size (a := a) ato (.slice A n c)
 have rai := an_info (a := a) ato (.slice A n c)
 have rao := An.one a (v := .slice A n c) rfl
 obtain ⟨CA, hCA⟩ : ∃ C, a.cells (.slice A n c) = C := ⟨_, rfl⟩
 have HCA := Lib.hid hCA
 rw [hCA] at kat h1 rsz rai rao ⊢
 have rfit : 0 + CA.size ≤ Tryd.zeroCells78.size := by rw [rsz, zan]; omega
 have rmany : setMany Tryd.zeroCells78 0 CA.toList = CA := by rw [setMany_whole _ _ (by rw [Array.length_toList, rsz, zan]), Array.toArray_toList]
 obtain ⟨k80, ra0⟩ := kat _ _ h1 (by simp)
 have FIN := Lib.hid fin; have KREF := Lib.hid kref; have H1 := Lib.hid h1; have HM := Lib.hid hm; have HD := Lib.hid hD; have HROW := Lib.hid hr; have HN := Lib.hid hn; have RA0 := Lib.hid ra0
 obtain ⟨KP, hKP⟩ : ∃ b, keptB x = b := ⟨_, rfl⟩
 obtain ⟨KS, hKS⟩ : ∃ b, a.keeps = b := ⟨_, rfl⟩
 rw [hKS] at k80
 have HKP := Lib.hid hKP
 have HD : Hid (R = if (!KP || (x != 0 && !KS)) = true then (zA, false) else if x ≠ 0 then (refA m x, true) else (a, true)) := Lib.hid (by rw [← hKP, ← hKS]; exact HD.out)
 clear fin kref h1 h hm hD hr hn ra0 hKP hKS hCA kat ato ok
 cases KP with
 | false =>
  clear rsz rai rao rfit rmany
  have hc : R = (zA, false) := by rw [HD.out]; simp_all
  have rsz := An.size (a := zA) zTb_ok (.slice none 0 0)
  have rai := an_info (a := zA) zTb_ok (.slice none 0 0)
  have rao := An.one zA (v := (.slice none 0 0)) rfl
  obtain ⟨Q, hQ⟩ : ∃ Q, zA.cells (.slice none 0 0) = Q := ⟨_, rfl⟩
  have fx := fun (v : World) (cs : Array Value) (hv : St W v J ((g + 1, .cells cs 78 (0, 0)) :: (g, .cells CA 78 (0, 0)) :: (L ++ F))) => FIN.out zA false hc v none 0 0 [] ([(g + 1, .cells cs 78 (0, 0)), (g, .cells CA 78 (0, 0))] ++ L) rfl (Row.nil _ _) (by rw [List.append_assoc]; exact hv)
  have bz := run_build_za
  rw [hQ] at rsz rai rao fx bz
  have rfit : 0 + Q.size ≤ Tryd.zeroCells78.size := by rw [rsz, zan]; omega
  have rmany : setMany Tryd.zeroCells78 0 Q.toList = Q := by rw [setMany_whole _ _ (by rw [Array.length_toList, rsz, zan]), Array.toArray_toList]
  have RAI := Lib.hid rai; have RAO := Lib.hid rao; have RFIT := Lib.hid rfit; have RMANY := Lib.hid rmany; have FX := Lib.hid fx
  clear rai rao rfit rmany fx hQ rsz
  have HBZ := Lib.hid bz
  clear bz hc HD FIN KREF
  go_enter Tryd.func31, Tryd.ntmps31
  go_wp2_with (first | (go_at_call 47; (with_reducible refine (o_kept x _).mono ?_); rintro e wq ⟨rfl, rfl⟩; rw [HKP.out]) | (with_reducible refine wpList_build_go rfl 78 _ rfl _ ?_ (HBZ.out _) ?_; · go_simp) | (with_reducible refine wpList_store_st rfl 78 (.tmp 6) (.tmp 21) rfl (g := g + 1) (off := 0) Q rfl rfl H1.out RFIT.out RAI.out RAO.out ?_; intro w4 h4; refine Hid.out ?_))
  refine Lib.hid ?_
  rw [RMANY.out] at h4
  have HZ := Lib.hid h4
  clear h4 H1
  go_wp2_with fail
  refine bodyPost_ret (results_row_tmp rfl _ _ (g + 1) 78 Q (0, 0) _ _ rfl rfl (HZ.out.own (g + 1, .cells Q 78 (0, 0)) (by simp)) Tryd.underlying78 (by kernel_rfl) RAI.out) rfl ?_
  exact FX.out _ _ HZ.out
 | true =>
  by_cases hx : x = 0
  ·subst hx
   have RAI := Lib.hid rai; have RAO := Lib.hid rao; have RFIT := Lib.hid rfit; have RMANY := Lib.hid rmany
   clear rsz rai rao rfit rmany
   have hc : R = (a, true) := by rw [HD.out]; simp_all
   have fx := fun (v : World) (cs : Array Value) (hv : St W v J ((g + 1, .cells cs 78 (0, 0)) :: (g, .cells CA 78 (0, 0)) :: (L ++ F))) => FIN.out a true hc v A n c L [(g + 1, .cells cs 78 (0, 0)), (g, .cells CA 78 (0, 0))] HN.out HROW.out hv
   rw [HCA.out] at fx
   have FX := Lib.hid fx
   clear fx hc HD FIN KREF
   go_enter Tryd.func31, Tryd.ntmps31
   go_wp2_with (first | (go_at_call 47; (with_reducible refine (o_kept 0 _).mono ?_); rintro e wq ⟨rfl, rfl⟩; rw [HKP.out]) | (with_reducible refine wpList_load_midg 28 rfl (by kernel_rfl) 78 (.tmp 4) rfl g 0 rfl CA _ RA0.out Tryd.underlying78 rfl RAI.out ?_) | (with_reducible refine wpList_store_st rfl 78 (.tmp 6) (.tmp 28) rfl (g := g + 1) (off := 0) CA rfl rfl H1.out RFIT.out RAI.out RAO.out ?_; intro w4 h4; refine Hid.out ?_))
   refine Lib.hid ?_
   rw [RMANY.out] at h4
   have HZ := Lib.hid h4
   clear h4 H1
   go_wp2_with fail
   refine bodyPost_ret (results_row_tmp rfl _ _ (g + 1) 78 CA (0, 0) _ _ rfl rfl (HZ.out.own (g + 1, .cells CA 78 (0, 0)) (by simp)) Tryd.underlying78 (by kernel_rfl) RAI.out) rfl ?_
   exact FX.out _ _ HZ.out
  ·have b1 : (x != 0) = true := by simpa using hx
   clear rsz rai rao rfit rmany
   cases KS with
   | false =>
    have hc : R = (zA, false) := by rw [HD.out]; simp_all
    have rsz := An.size (a := zA) zTb_ok (.slice none 0 0)
    have rai := an_info (a := zA) zTb_ok (.slice none 0 0)
    have rao := An.one zA (v := (.slice none 0 0)) rfl
    obtain ⟨Q, hQ⟩ : ∃ Q, zA.cells (.slice none 0 0) = Q := ⟨_, rfl⟩
    have fx := fun (v : World) (cs : Array Value) (hv : St W v J ((g + 1, .cells cs 78 (0, 0)) :: (g, .cells CA 78 (0, 0)) :: (L ++ F))) => FIN.out zA false hc v none 0 0 [] ([(g + 1, .cells cs 78 (0, 0)), (g, .cells CA 78 (0, 0))] ++ L) rfl (Row.nil _ _) (by rw [List.append_assoc]; exact hv)
    have bz := run_build_za
    rw [hQ] at rsz rai rao fx bz
    have rfit : 0 + Q.size ≤ Tryd.zeroCells78.size := by rw [rsz, zan]; omega
    have rmany : setMany Tryd.zeroCells78 0 Q.toList = Q := by rw [setMany_whole _ _ (by rw [Array.length_toList, rsz, zan]), Array.toArray_toList]
    have RAI := Lib.hid rai; have RAO := Lib.hid rao; have RFIT := Lib.hid rfit; have RMANY := Lib.hid rmany; have FX := Lib.hid fx
    clear rai rao rfit rmany fx hQ rsz
    have HBZ := Lib.hid bz
    clear bz hc HD FIN KREF
    go_enter Tryd.func31, Tryd.ntmps31
    go_wp2_with (first | (go_at_call 47; (with_reducible refine (o_kept x _).mono ?_); rintro e wq ⟨rfl, rfl⟩; rw [HKP.out]) | (with_reducible refine wpList_build_go rfl 78 _ rfl _ ?_ (HBZ.out _) ?_; · go_simp) | (with_reducible refine wpList_store_st rfl 78 (.tmp 6) (.tmp 21) rfl (g := g + 1) (off := 0) Q rfl rfl H1.out RFIT.out RAI.out RAO.out ?_; intro w4 h4; refine Hid.out ?_))
    refine Lib.hid ?_
    rw [RMANY.out] at h4
    have HZ := Lib.hid h4
    clear h4 H1
    go_wp2_with fail
    refine bodyPost_ret (results_row_tmp rfl _ _ (g + 1) 78 Q (0, 0) _ _ rfl rfl (HZ.out.own (g + 1, .cells Q 78 (0, 0)) (by simp)) Tryd.underlying78 (by kernel_rfl) RAI.out) rfl ?_
    exact FX.out _ _ HZ.out
   | true =>
    have hc : R = (refA m x, true) := by rw [HD.out]; simp_all
    have KX := Lib.hid (KREF.out _ _ H1.out (List.mem_cons_of_mem _ (List.mem_cons_of_mem _ (List.mem_append_right L HM.out))))
    clear HD KREF
    go_enter Tryd.func31, Tryd.ntmps31
    go_wp2_with (go_at_call 47; (with_reducible refine (o_kept x _).mono ?_); rintro e wq ⟨rfl, rfl⟩; rw [HKP.out])
    refine KX.out.mono ?_
    rintro e w3 ⟨A', c', L', rfl, hr', h2⟩
    have h3 := h2.perm (L' := (g + 1, .cells Tryd.zeroCells78 78 (0, 0)) :: (g, .cells CA 78 (0, 0)) :: L ++ (L' ++ F)) (perm_count fun i a => by simp only [List.count_append, List.count_cons]; omega)
    have rsz := An.size (a := (refA m x)) zTb_ok (.slice A' 0 c')
    have rai := an_info (a := (refA m x)) zTb_ok (.slice A' 0 c')
    have rao := An.one (refA m x) (v := (.slice A' 0 c')) rfl
    obtain ⟨Q, hQ⟩ : ∃ Q, (refA m x).cells (.slice A' 0 c') = Q := ⟨_, rfl⟩
    have fx := fun (v : World) (cs : Array Value) (hv : St W v J ((g + 1, .cells cs 78 (0, 0)) :: (g, .cells CA 78 (0, 0)) :: L ++ (L' ++ F))) => FIN.out (refA m x) true hc v A' 0 c' L' ([(g + 1, .cells cs 78 (0, 0)), (g, .cells CA 78 (0, 0))] ++ L) rfl hr' (by exact hv)
    rw [hQ] at rsz rai rao fx ⊢
    have rfit : 0 + Q.size ≤ Tryd.zeroCells78.size := by rw [rsz, zan]; omega
    have rmany : setMany Tryd.zeroCells78 0 Q.toList = Q := by rw [setMany_whole _ _ (by rw [Array.length_toList, rsz, zan]), Array.toArray_toList]
    have RAI := Lib.hid rai; have RAO := Lib.hid rao; have RFIT := Lib.hid rfit; have RMANY := Lib.hid rmany; have FX := Lib.hid fx
    clear rai rao rfit rmany fx hQ rsz
    have H3 := Lib.hid h3
    clear h2 h3 hr' KX H1 hc FIN
    go_wp2_with (with_reducible refine wpList_store_st rfl 78 (.tmp 6) (.tmp 27) rfl (g := g + 1) (off := 0) Q rfl rfl H3.out RFIT.out RAI.out RAO.out ?_; intro w4 h4; refine Hid.out ?_)
    refine Lib.hid ?_
    rw [RMANY.out] at h4
    have HZ := Lib.hid h4
    clear h4 H3
    go_wp2_with fail
    refine bodyPost_ret (results_row_tmp rfl _ _ (g + 1) 78 Q (0, 0) _ _ rfl rfl (HZ.out.own (g + 1, .cells Q 78 (0, 0)) (by simp)) Tryd.underlying78 (by kernel_rfl) RAI.out) rfl ?_
    exact FX.out _ _ HZ.out
end
end

section
set_option linter.unusedVariables false
set_option linter.unusedSimpArgs false
open Go.RowKit Go.Lib Go.Deep
section
variable {W w : World} {J : Nat → Option Obj} {t : Tb} {F : List (Nat × Obj)}
set_option maxRecDepth 100000 in
set_option maxHeartbeats 4000000 in
theorem o_table {m : Md} {nv : Value} {gm : Nat} (ok : m.Ok) (h : St W w J F) (hm : (gm, Obj.cells (m.cells nv) 71 (0, 0)) ∈ F) : Calls Tryd.prog 15 #[.pointer (some ⟨gm, 0, none⟩)] w fun e w' => e = .returned m.known.val ∧ St W w' J F := by
 have h1 := h.alloc (.cells Tryd.zeroCells32 32)
 obtain ⟨g, hg⟩ : ∃ g, w.heap.size = g := ⟨_, rfl⟩
 rw [hg] at h1
 have rk := (h1.md ok (List.mem_cons_of_mem _ hm)).tb.all
 have ti := tb_info ok.known
 have ts := Tb.size ok.known
 have tone := m.known.one
 unfold Tb.val
 obtain ⟨C, hC⟩ : ∃ C, m.known.cells = C := ⟨_, rfl⟩
 rw [hC] at rk ti ts tone ⊢
 have rfit : 0 + C.size ≤ Tryd.zeroCells32.size := by rw [ts, ztable]; omega
 have rmany : setMany Tryd.zeroCells32 0 C.toList = C := by rw [setMany_whole _ _ (by rw [Array.length_toList, ts, ztable]), Array.toArray_toList]
 have RK := Lib.hid rk; have TI := Lib.hid ti; have TONE := Lib.hid tone; have H1 := Lib.hid h1; have RFIT := Lib.hid rfit; have RMANY := Lib.hid rmany
 clear h h1 hm rk ti ts tone rfit rmany hC ok
 go_enter Tryd.func15, Tryd.ntmps15
 go_wp2_with (first | (with_reducible refine wpList_load_midg 6 rfl (by kernel_rfl) 32 (.tmp 5) rfl gm 0 rfl C _ RK.out Tryd.underlying32 rfl TI.out ?_) | (with_reducible refine wpList_store_st rfl 32 (.tmp 2) (.tmp 6) rfl (g := g) (off := 0) C rfl rfl H1.out RFIT.out TI.out TONE.out ?_; intro w4 h4; refine Hid.out ?_))
 refine Lib.hid ?_
 rw [RMANY.out] at h4
 have HZ := Lib.hid h4
 clear h4 H1 RK
 go_wp2_with fail
 refine bodyPost_ret (results_row rfl _ _ g 32 C (0, 0) _ rfl (HZ.out.own (g, .cells C 32 (0, 0)) (List.mem_cons_self ..)) Tryd.underlying32 (by kernel_rfl) TI.out) rfl ?_
 exact ⟨rfl, HZ.out.weaken (A := [_])⟩
end
end

section
set_option linter.unusedVariables false
set_option linter.unusedSimpArgs false
open Go.RowKit Go.Lib Go.Deep
section
variable {W w : World} {J : Nat → Option Obj} {t : Tb} {F : List (Nat × Obj)}
theorem form_plan (ok : t.Ok) : (∀ c ∈ (planT t).2, FormC c) ∧ (planT t).2.length ≤ 8 := by
 unfold planT
 split
 ·rename_i hc
  obtain ⟨h1, h2⟩ := hc
  have hp : pickT t = 0 ∨ pickT t = 1 := (pick_range h1).resolve_left h2
  have p0 : -9223372036854775808 ≤ pickT t := by omega
  have p1 : pickT t ≤ 9223372036854775807 := by omega
  have g1 := badS_ok (s := t.at_ t.act)
  have g2 := tryS_ok (t.at_ok ok (pickT t))
  simp only
  generalize (badS (t.at_ t.act)).1 = gs at *
  generalize (tryS (t.at_ (pickT t))).1 = ts at *
  generalize ((t.at_ t.act).st == 2) = B1
  generalize ((t.at_ (pickT t)).st == 2) = B2
  generalize pickT t = p at *
  unfold planL
  have f1 := FormC.set t.act gs ok.a0 ok.a1 g1
  have f2 := FormC.set p ts p0 p1 g2
  have f3 := FormC.act p p0 p1
  have f4 := FormC.boo p p0 p1
  by_cases hpa : p = t.act <;> cases B1 <;> cases B2 <;> simp [hpa] <;> (try simp only [hpa] at *) <;> (try simp [*])
 ·exact ⟨fun c hc => (by cases hc), by simp⟩
theorem form_wipe (ok : t.Ok) : (∀ c ∈ (wipeT t).1, FormC c) ∧ (wipeT t).1.length ≤ 8 := by
 unfold wipeT
 split
 ·exact ⟨fun c hc => (by cases hc), by simp⟩
 ·have ha : aimT t = -1 ∨ aimT t = 1 - t.act ∧ rightT t = true := by
   unfold aimT
   split
   ·rename_i h; exact Or.inr ⟨rfl, h.1⟩
   ·exact Or.inl rfl
  have hb : -9223372036854775808 ≤ aimT t ∧ aimT t ≤ 9223372036854775807 := by
   rcases ha with ha | ⟨ha, hr⟩
   ·omega
   ·have := rightT_act hr; omega
  exact ⟨fun c hc => (by simp only [List.mem_singleton] at hc; subst hc; exact FormC.set _ _ hb.1 hb.2 (bareS_ok 1 (by decide) (by decide))), by simp⟩
theorem form_good (ok : t.Ok) (i : Int) (h0 : -9223372036854775808 ≤ i) (h1 : i ≤ 9223372036854775807) : (∀ c ∈ (goodT t i).1, FormC c) ∧ (goodT t i).1.length ≤ 8 := by
 unfold goodT
 have g := goodS_ok (t.at_ok ok i)
 have f1 := FormC.set i _ h0 h1 g
 have f2 := FormC.flo _ g.ver0 g.ver1
 split
 ·split
  ·split
   ·exact ⟨fun c hc => (by simp only [List.mem_cons, List.not_mem_nil, or_false] at hc; rcases hc with rfl | rfl; exact f1; exact f2), by simp⟩
   ·exact ⟨fun c hc => (by simp only [List.mem_singleton] at hc; subst hc; exact f1), by simp⟩
  ·exact ⟨fun c hc => (by cases hc), by simp⟩
 ·exact ⟨fun c hc => (by cases hc), by simp⟩
theorem form_bad (ok : t.Ok) (i : Int) (h0 : -9223372036854775808 ≤ i) (h1 : i ≤ 9223372036854775807) : (∀ c ∈ (badT t i).1, FormC c) ∧ (badT t i).1.length ≤ 8 := by
 unfold badT
 have g := badS_ok (s := t.at_ i)
 have f1 := FormC.set i _ h0 h1 g
 split
 ·rename_i hc
  have hi := (ixB_iff i).1 hc.2
  have f2 := FormC.act (1 - i) (by omega) (by omega)
  split
  ·split
   ·split
    ·exact ⟨fun c hc => (by simp only [List.mem_cons, List.not_mem_nil, or_false] at hc; rcases hc with rfl | rfl; exact f1; exact f2), by simp⟩
    ·exact ⟨fun c hc => (by simp only [List.mem_singleton] at hc; subst hc; exact f1), by simp⟩
   ·exact ⟨fun c hc => (by cases hc), by simp⟩
  ·exact ⟨fun c hc => (by cases hc), by simp⟩
 ·exact ⟨fun c hc => (by cases hc), by simp⟩
theorem form_land (i : Int) (s : Slt) (sok : s.Ok) (h0 : -9223372036854775808 ≤ i) (h1 : i ≤ 9223372036854775807) : (∀ c ∈ (landT t i s).1, FormC c) ∧ (landT t i s).1.length ≤ 8 := by
 unfold landT
 split
 ·exact ⟨fun c hc => (by simp only [List.mem_cons, List.not_mem_nil, or_false] at hc; rcases hc with rfl | rfl; exact FormC.set i s h0 h1 sok; exact FormC.act i h0 h1), by simp⟩
 ·exact ⟨fun c hc => (by cases hc), by simp⟩
end
end

section
set_option linter.unusedVariables false
set_option linter.unusedSimpArgs false
open Go.RowKit Go.Lib Go.Deep
section
variable {W w : World} {J : Nat → Option Obj} {t : Tb} {F : List (Nat × Obj)}
def Nms (A : Option Addr) (n c : Nat) (ns : List ByteArray) (L : List (Nat × Obj)) : Prop := Row 9 1 (.slice A n c) n (ns.map Value.string) L
theorem Nms.len {A : Option Addr} {n c : Nat} {ns : List ByteArray} {L : List (Nat × Obj)} (h : Nms A n c ns L) : n = ns.length := by
 have := h.1
 simpa using this.symm
theorem nm_contains {A : Option Addr} {n c : Nat} {ns : List ByteArray} {L : List (Nat × Obj)} (hr : Nms A n c ns L) (x : ByteArray) (h : St W w J F) (hm : ∀ p ∈ L, p ∈ F) (h63 : n ≤ 9223372036854775807) :
  Calls Tryd.prog 70 #[.slice A n c, .string x] w fun e w' => e = .returned (.bool (Lib.containsS ns x)) ∧ w' = w := by
 have hl := hr.len
 by_cases h0 : n = 0
 ·have : ns = [] := by rw [h0] at hl; exact List.eq_nil_of_length_eq_zero hl.symm
  subst this
  rw [h0]
  exact (Tryd.slices_Contains_string_empty A c x w).mono (fun e w' q => ⟨by rw [q.1]; rfl, q.2⟩)
 ·obtain ⟨g, off, cap, cur, hv, hL, -⟩ := hr.cells (j := 0) (u := .string (ns.getD 0 ByteArray.empty)) (by rw [List.getElem?_map, List.getD_eq_getElem?_getD, List.getElem?_eq_getElem (by omega)]; rfl)
  injection hv with e1 e2 e3
  subst e1
  have key := Tryd.slices_Contains_string g off n c ns x w (by omega) h63 (fun j hj => by
   obtain ⟨g', off', cap', cur', hv', hL', hu⟩ := hr.cells (j := j) (u := .string (ns.getD j ByteArray.empty)) (by rw [List.getElem?_map, List.getD_eq_getElem?_getD, List.getElem?_eq_getElem hj]; rfl)
   injection hv' with a1 a2 a3
   injection a1 with a1
   injection a1 with a4 a5
   subst a4 a5
   have hin := hm (g, .cells cur' 9 (0, 0)) (by rw [hL']; exact List.mem_singleton.2 rfl)
   rw [h.cell hin (off + j)]
   exact hu)
  rw [hl, List.take_length] at key
  rw [hl]
  exact key
end
end

section
set_option linter.unusedVariables false
set_option linter.unusedSimpArgs false
set_option linter.unnecessarySimpa false
open Go.RowKit Go.Lib
structure Cl where
 client : Int
 kind : Int
 slot : Int
 job : Int
 name : ByteArray
structure Cl.Ok (c : Cl) : Prop where
 c0 : -9223372036854775808 ≤ c.client
 c1 : c.client ≤ 9223372036854775807
 k0 : -9223372036854775808 ≤ c.kind
 k1 : c.kind ≤ 9223372036854775807
 s0 : -9223372036854775808 ≤ c.slot
 s1 : c.slot ≤ 9223372036854775807
 j0 : -9223372036854775808 ≤ c.job
 j1 : c.job ≤ 9223372036854775807
 n1 : c.name.size ≤ 1000000000
def empB : ByteArray := ⟨#[]⟩
def Cl.cells (c : Cl) : Array Value := #[.int .i64 c.client, .int .i64 c.kind, .int .i64 c.slot, .int .i64 c.job, .string c.name]
def Cl.val (c : Cl) : Value := .agg c.cells
def zC : Cl := ⟨0, 0, 0, 0, empB⟩
def emp (x : ByteArray) : Bool := x.toList == (⟨#[]⟩ : ByteArray).toList
def rightC (c : Cl) : Bool :=
 (decide (0 ≤ c.client) && decide (c.client ≤ 7)) &&
 (if c.kind = 1 then (c.slot == 0 && c.job == 0) && nameOk c.name
  else if c.kind = 2 then (c.slot == 0 && emp c.name) && (decide (0 ≤ c.job) && decide (c.job ≤ 1073741824))
  else if c.kind = 3 ∨ c.kind = 6 then (c.slot == 0 && c.job == 0) && emp c.name
  else if c.kind = 4 ∨ c.kind = 5 then (c.job == 0 && emp c.name) && (decide (0 ≤ c.slot) && decide (c.slot ≤ 255))
  else false)
end
end Go.Proofs.YtnjnooeldkideaaDoor
