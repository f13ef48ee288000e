/- The document's loader: a step that fetches: no such name; what is lost. -/
import Derived.Test.YtnhlpiomfljlcaaDoorRlCD
import Derived.OwnWalk
import Derived.Deep.DeepCutAuto
import Derived.Deep.RegionHeld3
import Derived.Deep.RegionWith
namespace Go.Proofs.YtnhlpiomfljlcaaDoor
set_option linter.unusedVariables false
set_option linter.unusedSimpArgs false
open Go.RowKit Go.Lib Go.Deep

theorem tryD_is {W : World} {J : Nat → Option Obj} {r : Nat} {name : ByteArray} {n : Nat} {q : LQ} {d : Dc} (h : DcIs W J r name n q d) : DcIs W J r name n q.tryQ d.tryD := by
  unfold LQ.tryQ Dc.tryD
  by_cases hz : d.left = 0
  · rw [if_pos hz, if_pos (h.left.symm.trans hz)]; exact { h with err := rfl }
  · rw [if_neg hz, if_neg (fun x => hz (h.left.trans x))]; exact { h with left := by show d.left - 1 = q.left - 1; rw [h.left], l100 := by show d.left - 1 ≤ 100; have := h.l100; omega }
theorem tryD_keep (d : Dc) : d.tryD.OA = d.OA ∧ d.tryD.oc = d.oc ∧ d.tryD.ps = d.ps ∧ d.tryD.IA = d.IA ∧ d.tryD.ic = d.ic ∧ d.tryD.ts = d.ts := by
  unfold Dc.tryD; split <;> exact ⟨rfl, rfl, rfl, rfl, rfl, rfl⟩
structure DcFacts (v : World) (b r : Nat) (name : ByteArray) (n : Nat) (q : LQ) (d : Dc) : Prop where
  c0 : v.cell? ⟨b, 0, none⟩ = some (.pointer (some ⟨r, 0, none⟩))
  c1 : v.cell? ⟨b, 1, none⟩ = some (.string name)
  c3 : v.cell? ⟨b, 3, none⟩ = some (.slice d.OA d.ps.length d.oc)
  c4 : v.cell? ⟨b, 4, none⟩ = some (.int .i64 n)
  c5 : v.cell? ⟨b, 5, none⟩ = some (.slice d.IA d.ts.length d.ic)
  c7 : v.cell? ⟨b, 7, none⟩ = some (.int .i64 d.head)
  c44 : v.cell? ⟨b, 44, none⟩ = some (.slice d.m.A d.m.n d.m.c)
  c45 : v.cell? ⟨b, 45, none⟩ = some (.int .i64 q.wants)
  c46 : v.cell? ⟨b, 46, none⟩ = some (.int .i64 q.err)
  rg : v.rangeAt b 8 d.m.cells.toList
section
variable {W w : World} {J : Nat → Option Obj} {b r : Nat} {A0 : Option Addr} {nr c0 : Nat} {name : ByteArray} {n : Nat} {q : LQ} {d : Dc} {F X Y : List (Nat × Obj)} {fs : List Fault} {cnt : Nat}
theorem DcIs.facts (hi : DcIs W J r name n q d) (h : St W w J Y) (hm : dcB b d ∈ Y) : DcFacts w b r name n q d := by
  obtain ⟨p0, p1, p2, p3, p4, p5, p6, p7, p44, p45, p46⟩ := dc_cells hi.mok h hm
  exact ⟨by rw [← hi.r]; exact p0, by rw [← hi.nm]; exact p1, p3, by rw [← hi.room]; exact p4, p5, p7, p44, by rw [← hi.wants]; exact p45, by rw [← hi.err]; exact p46, dc_man hi.mok h hm⟩
theorem FreshR.mem {bs : List UInt8} {u : Value} (h : FreshR W w J r A0 nr c0 fs cnt X bs u) : ∃ Z, St W w J Z ∧ ∀ p ∈ X, p ∈ Z := by
  obtain ⟨A, c, L', _, _, A1, c1, L1, _, hs⟩ := h
  exact ⟨_, hs, fun p hp => by simp [hp]⟩
end
section
variable {W w : World} {J : Nat → Option Obj} {b r : Nat} {A0 : Option Addr} {nr c0 : Nat} {name : ByteArray} {n : Nat} {q : LQ} {F : List (Nat × Obj)}
set_option maxRecDepth 100000 in
set_option maxHeartbeats 8000000 in
/-- Nothing of that name. -/
theorem rs_none (tb : TB W J) (h : DocSt W w J b r A0 nr c0 name n q F) (hF : FetAll W J r A0 nr c0 name none) (he : q.err = 0) (hq : q.inn = []) (hc : ¬ (q.wants = -2 ∨ n ≤ q.out.length)) (hfs : q.fs.length ≤ 1000000) (hcnt : q.cnt ≤ 1000000000) :
    Calls Tryd.prog 28 #[.pointer (some ⟨b, 0, none⟩)] w (DsPost W J b r A0 nr c0 name n F true { q with err := 182 }) := by
  obtain ⟨d, LO, LI, hi, hro, hri, hn⟩ := h
  have hts : d.ts = [] := by have := hi.inn; rw [hq] at this; exact List.map_eq_nil_iff.1 this.symm
  have hol : q.out.length = d.ps.length := by rw [hi.out, List.length_map]
  have fc : ∀ v, RNet W v J r A0 nr c0 q.fs q.cnt (dcB b d :: (LO ++ (LI ++ F))) → DcFacts v b r name n q d := fun v hv => by
    obtain ⟨Y, hY, hm⟩ := hv.mem
    exact hi.facts hY (hm _ (List.mem_cons_self ..))
  obtain ⟨_, _, f3, f4, f5, _, _, f45, f46, _⟩ := fc w hn
  rw [hts, List.length_nil] at f5
  rw [he] at f46
  have hw2 : q.wants ≠ -2 := fun h => hc (.inl h)
  have hwb : (q.wants == -2) = false := by simpa using hw2
  have hm1 : decide ((n : Int) ≤ (d.ps.length : Int)) = false := decide_eq_false (fun h => hc (.inr (by rw [hol]; omega)))
  have hm2 : (d.ps.length : Int) < (n : Int) := Int.not_le.1 (of_decide_eq_false hm1)
  have ksp : ∀ v, RNet W v J r A0 nr c0 q.fs q.cnt (dcB b d :: (LO ++ (LI ++ F))) → Calls Tryd.prog 52 #[d.m.val, .int .i64 q.wants] v fun e w' => e = .returned (.tuple #[.int .i64 (spanM d.m q.wants).1, .int .i64 (spanM d.m q.wants).2]) ∧ RNet W w' J r A0 nr c0 q.fs q.cnt (dcB b d :: (LO ++ (LI ++ F))) := fun v hv => by
    obtain ⟨A1, c1, L1, hr, hs⟩ := hv
    exact (rspan tb d.m hi.mok (by have := hi.mp; omega) q.wants hs).mono fun e w' ⟨he, h⟩ => ⟨he, A1, c1, L1, hr, h⟩
  unfold Man.val at ksp
  obtain ⟨a, hqa⟩ : ∃ a, q.askQ.1 = a := ⟨_, rfl⟩
  obtain ⟨k, hqk⟩ : ∃ k, q.askQ.2 = k := ⟨_, rfl⟩
  have hask1 : q.wants = -1 → a = 0 ∧ k = 2304 := fun h => by rw [← hqa, ← hqk]; unfold LQ.askQ; rw [if_pos h]; exact ⟨rfl, rfl⟩
  have hask2 : q.wants ≠ -1 → 0 ≤ q.wants ∧ a = (spanM d.m q.wants).1 + d.head ∧ k = (spanM d.m q.wants).2 ∧ 0 ≤ (spanM d.m q.wants).1 ∧ (spanM d.m q.wants).1 ≤ 100000 := fun h => by
    rcases hi.wi with h2 | ⟨_, h2⟩ | ⟨hk, h2, h3⟩
    · exact absurd h2 hw2
    · exact absurd h2 h
    · obtain ⟨s1, s2⟩ := spanM_bound d.m q.wants (hi.right hk) h2 h3
      have hkn := hi.known
      rw [hk, if_pos rfl] at hkn
      have e : q.askQ = (d.head + (spanM d.m q.wants).1, (spanM d.m q.wants).2) := by unfold LQ.askQ; rw [if_neg h, hkn]
      exact ⟨h2, by rw [← hqa, e, Int.add_comm], by rw [← hqk, e], s1, s2⟩
  have hh0 := hi.h0
  have hh1 := hi.h1
  have hmi := man_info hi.mok
  obtain ⟨MC, hMC⟩ : ∃ MC, d.m.cells = MC := ⟨_, rfl⟩
  rw [hMC] at ksp hmi
  have HMC := Lib.hid hMC
  have HMA : Hid ((Tryd.prog.info? 53).map (·.size) = some MC.toList.length) := Lib.hid (by rw [hmi, Array.length_toList])
  have HUL := Lib.hid Tryd.underlying53
  have kF := fun (v : World) (hv : RNet W v J r A0 nr c0 q.fs q.cnt (dcB b d :: (LO ++ (LI ++ F)))) => hF J (Le.refl _) v _ q.fs q.cnt a k hfs hcnt hv
  have hfin : ∀ (v : World), RNet W v J r A0 nr c0 q.fs q.cnt (dcB b { d with err := 182 } :: (LO ++ (LI ++ F))) → DsPost W J b r A0 nr c0 name n F true { q with err := 182 } (.returned (.bool true)) v := fun v hv => ⟨J, Le.refl _, rfl, { d with err := 182 }, LO, LI, { hi with err := rfl }, hro, hri, hv⟩
  have hmok := hi.mok
  have HD := Lib.hid hn; have FC := Lib.hid fc; have KSP := Lib.hid ksp; have HA1 := Lib.hid hask1; have HA2 := Lib.hid hask2; have HI := Lib.hid hi; have HRO := Lib.hid hro; have HRI := Lib.hid hri; have TBH := Lib.hid tb; have KF := Lib.hid kF; have HFIN := Lib.hid hfin
  clear hn fc ksp hask1 hask2 hi hro hri tb hmi hMC he hq hc hts hol hqa hqk kF hF hfin hfs hcnt
  go_enter Tryd.func28, Tryd.ntmps28
  go_wp2_with fail
  go_quiet (fail)
  go_upto_if 59 with fail
  clear f3 f4 f5 f46 hwb hm1 hm2
  go_cut [4, 5] (fun s4 s5 wx => s4 = .int .i64 a ∧ s5 = .int .i64 k ∧ RNet W wx J r A0 nr c0 q.fs q.cnt (dcB b d :: (LO ++ (LI ++ F))))
  case first =>
    by_cases hw1 : q.wants = -1
    · obtain ⟨rfl, rfl⟩ := HA1.out hw1
      have hwc : decide ((0 : Int) ≤ q.wants) = false := decide_eq_false (by omega)
      have hwd : q.wants < 0 := by omega
      clear hw1
      go_wp2_with fail
      go_meet
      exact ⟨rfl, rfl, HD.out.drew _⟩
    · obtain ⟨g0, ea, ek, g1, g2⟩ := HA2.out hw1
      have hwc : decide ((0 : Int) ≤ q.wants) = true := decide_eq_true g0
      have hwd : ¬ q.wants < 0 := by omega
      clear hw1
      obtain ⟨P, hP⟩ : ∃ P, (spanM d.m q.wants).1 = P := ⟨_, rfl⟩
      obtain ⟨Q2, hQ2⟩ : ∃ Q, (spanM d.m q.wants).2 = Q := ⟨_, rfl⟩
      have ksp := KSP.out
      rw [hP] at g1 g2 ksp ea
      rw [hQ2] at ksp ek
      have KS2 := Lib.hid ksp; have EA := Lib.hid ea; have EK := Lib.hid ek
      clear ksp hP hQ2 ea ek HA1 HA2 KSP f45
      go_wp2_with fail
      generalize hwk : w.drewN _ = wk
      have HDK : Hid (RNet W wk.drew J r A0 nr c0 q.fs q.cnt (dcB b d :: (LO ++ (LI ++ F)))) := Lib.hid (by rw [← hwk]; exact (HD.out.drew _).drew 1)
      clear hwk
      have fk := FC.out _ HDK.out
      have s0 : wk.drew.cell? ⟨b, 45, none⟩ = some (.int .i64 q.wants) ∧ wk.drew.rangeAt b 8 MC.toList := ⟨fk.c45, by rw [← HMC.out]; exact fk.rg⟩
      clear fk
      refine wp_region_held_drew (S := fun w' => w'.cell? ⟨b, 45, none⟩ = some (.int .i64 q.wants) ∧ w'.rangeAt b 8 MC.toList) (by kernel_rfl) s0 (fun hHeld => ?_)
      refine wpAnyH_take (i := 0) (oi := ?_) (v := ?_) ?_ ?_ ?_ ?_ ?_ ?_ ?_ ?_
      rotate_left 2
      · (simp only [List.getElem?_toArray, List.getElem?_cons_succ, List.getElem?_cons_zero]; exact rfl)
      · kernel_rfl
      · kernel_rfl
      · kernel_rfl
      · exact fun _ _ _ h => h
      · first | (refine Or.inl ⟨by rfl, ?_⟩; intro w hSw; (try dsimp only at hSw); go_simp; try with_reducible rfl) | (refine Or.inr ⟨by rfl, ?_⟩; rfl)
      · assumption
      try simp only [Act.put, List.setIfInBounds_toArray, List.set_cons_zero, List.set_cons_succ]
      refine wpAnyH_take (i := 1) (oi := ?_) (v := ?_) ?_ ?_ ?_ ?_ ?_ ?_ ?_ ?_
      rotate_left 2
      · (simp only [List.getElem?_toArray, List.getElem?_cons_succ, List.getElem?_cons_zero]; exact rfl)
      · kernel_rfl
      · kernel_rfl
      · kernel_rfl
      · exact fun _ _ _ h => h
      · first | (refine Or.inl ⟨by rfl, ?_⟩; intro w hSw; (try dsimp only at hSw); go_simp; try with_reducible rfl) | (refine Or.inr ⟨by rfl, ?_⟩; rfl)
      · assumption
      try simp only [Act.put, List.setIfInBounds_toArray, List.set_cons_zero, List.set_cons_succ]
      refine wpAnyH_take (i := 2) (oi := ?_) (v := ?_) ?_ ?_ ?_ ?_ ?_ ?_ ?_ ?_
      rotate_left 2
      · (simp only [List.getElem?_toArray, List.getElem?_cons_succ, List.getElem?_cons_zero]; exact rfl)
      · kernel_rfl
      · kernel_rfl
      · kernel_rfl
      · exact fun _ _ _ h => h
      · first | (refine Or.inl ⟨by rfl, ?_⟩; intro w hSw; (try dsimp only at hSw); go_simp; try with_reducible rfl) | (refine Or.inr ⟨by rfl, ?_⟩; rfl)
      · assumption
      try simp only [Act.put, List.setIfInBounds_toArray, List.set_cons_zero, List.set_cons_succ]
      refine wpAnyH_take (i := 3) (oi := ?_) (v := ?_) ?_ ?_ ?_ ?_ ?_ ?_ ?_ ?_
      rotate_left 2
      · (simp only [List.getElem?_toArray, List.getElem?_cons_succ, List.getElem?_cons_zero]; exact rfl)
      · kernel_rfl
      · kernel_rfl
      · kernel_rfl
      · exact fun _ _ _ h => h
      · first | (first | ((refine yieldsIf_load_mid ?_ 53 (.tmp 63) ?_ b 8 ?_ MC.toList _ ?_ HUL.out ?_ HMA.out) <;> first | rfl | exact fun w h => h.2) | (refine Or.inl ⟨by rfl, ?_⟩; intro w hSw; obtain ⟨hS1, hS2⟩ := hSw; go_simp; try with_reducible rfl)) | (refine Or.inr ⟨by rfl, ?_⟩; rfl)
      · assumption
      try simp only [Act.put, List.setIfInBounds_toArray, List.set_cons_zero, List.set_cons_succ]
      refine wpAnyH_take (i := 4) (oi := ?_) (v := ?_) ?_ ?_ ?_ ?_ ?_ ?_ ?_ ?_
      rotate_left 2
      · (simp only [List.getElem?_toArray, List.getElem?_cons_succ, List.getElem?_cons_zero]; exact rfl)
      · kernel_rfl
      · kernel_rfl
      · kernel_rfl
      · exact fun _ _ _ h => h
      · first | (refine Or.inl ⟨by rfl, ?_⟩; intro w hSw; (try dsimp only at hSw); go_simp; try with_reducible rfl) | (refine Or.inr ⟨by rfl, ?_⟩; rfl)
      · assumption
      try simp only [Act.put, List.setIfInBounds_toArray, List.set_cons_zero, List.set_cons_succ]
      refine wpAnyH_take (i := 5) (oi := ?_) (v := ?_) ?_ ?_ ?_ ?_ ?_ ?_ ?_ ?_
      rotate_left 2
      · (simp only [List.getElem?_toArray, List.getElem?_cons_succ, List.getElem?_cons_zero]; exact rfl)
      · kernel_rfl
      · kernel_rfl
      · kernel_rfl
      · exact fun _ _ _ h => h
      · first | (refine Or.inl ⟨by rfl, ?_⟩; intro w hSw; (try dsimp only at hSw); go_simp; try with_reducible rfl) | (refine Or.inr ⟨by rfl, ?_⟩; rfl)
      · assumption
      try simp only [Act.put, List.setIfInBounds_toArray, List.set_cons_zero, List.set_cons_succ]
      refine wpAnyH_take (i := 6) (oi := ?_) (v := ?_) ?_ ?_ ?_ ?_ ?_ ?_ ?_ ?_
      rotate_left 2
      · (simp only [List.getElem?_toArray, List.getElem?_cons_succ, List.getElem?_cons_zero]; exact rfl)
      · kernel_rfl
      · kernel_rfl
      · kernel_rfl
      · exact fun _ _ _ h => h
      · first | (refine Or.inl ⟨by rfl, ?_⟩; intro w hSw; (try dsimp only at hSw); go_simp; try with_reducible rfl) | (refine Or.inr ⟨by rfl, ?_⟩; rfl)
      · assumption
      try simp only [Act.put, List.setIfInBounds_toArray, List.set_cons_zero, List.set_cons_succ]
      refine wpAnyH_take (i := 7) (oi := ?_) (v := ?_) ?_ ?_ ?_ ?_ ?_ ?_ ?_ ?_
      rotate_left 2
      · (simp only [List.getElem?_toArray, List.getElem?_cons_succ, List.getElem?_cons_zero]; exact rfl)
      · kernel_rfl
      · kernel_rfl
      · kernel_rfl
      · exact fun _ _ _ h => h
      · first | (first | ((refine yieldsIf_load_mid ?_ 53 (.tmp 63) ?_ b 8 ?_ MC.toList _ ?_ HUL.out ?_ HMA.out) <;> first | rfl | exact fun w h => h.2) | (refine Or.inl ⟨by rfl, ?_⟩; intro w hSw; obtain ⟨hS1, hS2⟩ := hSw; go_simp; try with_reducible rfl)) | (refine Or.inr ⟨by rfl, ?_⟩; rfl)
      · assumption
      try simp only [Act.put, List.setIfInBounds_toArray, List.set_cons_zero, List.set_cons_succ]
      refine wpAnyH_ready (rs := [8]) (by kernel_rfl) (by simp) ?_
      refine AllReadyH.cons (o := ?_) ?_ (fun K hK => ?_) ?_
      rotate_left 1
      · (simp only [List.getElem?_toArray, List.getElem?_cons_succ, List.getElem?_cons_zero]; exact rfl)
      · go_simp
        (first | (go_at_call 52; (refine (KS2.out _ HDK.out).mono ?_); rintro e wx ⟨rfl, hx⟩; dsimp only))
        refine hK.out _ _ ?_ (fun hHeld => ?_)
        · (try dsimp only) <;> (first | exact ⟨(FC.out _ hx).c45, by rw [← HMC.out]; exact (FC.out _ hx).rg⟩)
        clear hK K
        try simp only [Act.put, List.setIfInBounds_toArray, List.set_cons_zero, List.set_cons_succ]
        refine wpAnyH_take (i := 9) (oi := ?_) (v := ?_) ?_ ?_ ?_ ?_ ?_ ?_ ?_ ?_
        rotate_left 2
        · (simp only [List.getElem?_toArray, List.getElem?_cons_succ, List.getElem?_cons_zero]; exact rfl)
        · kernel_rfl
        · kernel_rfl
        · kernel_rfl
        · exact fun _ _ _ h => h
        · first | (refine Or.inl ⟨by rfl, ?_⟩; intro w hSw; (try dsimp only at hSw); go_simp; try with_reducible rfl) | (refine Or.inr ⟨by rfl, ?_⟩; rfl)
        · assumption
        try simp only [Act.put, List.setIfInBounds_toArray, List.set_cons_zero, List.set_cons_succ]
        refine wpAnyH_take (i := 10) (oi := ?_) (v := ?_) ?_ ?_ ?_ ?_ ?_ ?_ ?_ ?_
        rotate_left 2
        · (simp only [List.getElem?_toArray, List.getElem?_cons_succ, List.getElem?_cons_zero]; exact rfl)
        · kernel_rfl
        · kernel_rfl
        · kernel_rfl
        · exact fun _ _ _ h => h
        · first | (refine Or.inl ⟨by rfl, ?_⟩; intro w hSw; (try dsimp only at hSw); go_simp; try with_reducible rfl) | (refine Or.inr ⟨by rfl, ?_⟩; rfl)
        · assumption
        try simp only [Act.put, List.setIfInBounds_toArray, List.set_cons_zero, List.set_cons_succ]
        refine wpAnyH_take (i := 11) (oi := ?_) (v := ?_) ?_ ?_ ?_ ?_ ?_ ?_ ?_ ?_
        rotate_left 2
        · (simp only [List.getElem?_toArray, List.getElem?_cons_succ, List.getElem?_cons_zero]; exact rfl)
        · kernel_rfl
        · kernel_rfl
        · kernel_rfl
        · exact fun _ _ _ h => h
        · first | (refine Or.inl ⟨by rfl, ?_⟩; intro w hSw; (try dsimp only at hSw); go_simp; try with_reducible rfl) | (refine Or.inr ⟨by rfl, ?_⟩; rfl)
        · assumption
        try simp only [Act.put, List.setIfInBounds_toArray, List.set_cons_zero, List.set_cons_succ]
        refine wpAnyH_take (i := 12) (oi := ?_) (v := ?_) ?_ ?_ ?_ ?_ ?_ ?_ ?_ ?_
        rotate_left 2
        · (simp only [List.getElem?_toArray, List.getElem?_cons_succ, List.getElem?_cons_zero]; exact rfl)
        · kernel_rfl
        · kernel_rfl
        · kernel_rfl
        · exact fun _ _ _ h => h
        · first | (refine Or.inl ⟨by rfl, ?_⟩; intro w hSw; (try dsimp only at hSw); go_simp; try with_reducible rfl) | (refine Or.inr ⟨by rfl, ?_⟩; rfl)
        · assumption
        try simp only [Act.put, List.setIfInBounds_toArray, List.set_cons_zero, List.set_cons_succ]
        refine wpAnyH_take (i := 13) (oi := ?_) (v := ?_) ?_ ?_ ?_ ?_ ?_ ?_ ?_ ?_
        rotate_left 2
        · (simp only [List.getElem?_toArray, List.getElem?_cons_succ, List.getElem?_cons_zero]; exact rfl)
        · kernel_rfl
        · kernel_rfl
        · kernel_rfl
        · exact fun _ _ _ h => h
        · first | (refine Or.inl ⟨by rfl, ?_⟩; intro w hSw; (try dsimp only at hSw); go_simp; try with_reducible rfl) | (refine Or.inr ⟨by rfl, ?_⟩; rfl)
        · assumption
        try simp only [Act.put, List.setIfInBounds_toArray, List.set_cons_zero, List.set_cons_succ]
        refine wpAnyH_done (by kernel_rfl) ?_ _
        have n7 := (FC.out _ hx).c7
        have HX := Lib.hid hx
        clear hx s0 HDK
        go_wp2_with fail
        go_meet
        exact ⟨by rw [EA.out], by rw [EK.out], HX.out⟩
      exact AllReadyH.nil
  case rest =>
    obtain ⟨rfl, rfl, hx⟩ := hcut
    clear f45
    have fk := FC.out _ hx
    have n0 := fk.c0
    have n1 := fk.c1
    have HX := Lib.hid hx
    clear fk hx HD KSP HA1 HA2
    go_wp2_with fail
    go_region_held3 (fun w' => w'.cell? ⟨b, 0, none⟩ = some (.pointer (some ⟨r, 0, none⟩)) ∧ w'.cell? ⟨b, 1, none⟩ = some (.string name)) (first | exact ⟨n0, n1⟩ | assumption)
      (first | (go_at_call 53; refine (KF.out _ (by first | exact HX.out.drew 1 | exact HX.out.drew _ | exact HX.out)).mono ?_; rintro e w5 ⟨rfl, h5⟩; have S5 : w5.cell? ⟨b, 0, none⟩ = some (.pointer (some ⟨r, 0, none⟩)) ∧ w5.cell? ⟨b, 1, none⟩ = some (.string name) := ⟨(FC.out _ h5).c0, (FC.out _ h5).c1⟩; have H5 := Lib.hid h5; clear h5))
    obtain ⟨Y, hY, hback⟩ := H5.out.head
    have f46 := (FC.out _ H5.out).c46
    have fz46 := dc_frozen hY (List.mem_cons_self ..) 46
    have h6 := St.set (A := []) hY 46 (.int .i64 182)
    rw [Dc.s46 hmok] at h6
    have H6 := Lib.hid (HFIN.out _ (hback _ _ h6))
    clear hY hback h6 n0 n1 S5
    go_wp2_with fail
    go_ret
    exact H6.out
set_option maxRecDepth 100000 in
set_option maxHeartbeats 8000000 in
/-- It was lost on the way. -/
theorem rs_lost (tb : TB W J) (h : DocSt W w J b r A0 nr c0 name n q F) {bs : List UInt8} (hF : FetAll W J r A0 nr c0 name (some bs)) (he : q.err = 0) (hq : q.inn = []) (hc : ¬ (q.wants = -2 ∨ n ≤ q.out.length)) (hfs : q.fs.length ≤ 1000000) (hcnt : q.cnt ≤ 1000000000)
    (hE : ¬ (fetched bs (first q.fs) q.askQ.1 q.askQ.2).2 = 0) : Calls Tryd.prog 28 #[.pointer (some ⟨b, 0, none⟩)] w (DsPost W J b r A0 nr c0 name n F true (({ q with fs := q.fs.tail, cnt := q.cnt + 1 } : LQ).tryQ)) := by
  obtain ⟨d, LO, LI, hi, hro, hri, hn⟩ := h
  have hts : d.ts = [] := by have := hi.inn; rw [hq] at this; exact List.map_eq_nil_iff.1 this.symm
  have hol : q.out.length = d.ps.length := by rw [hi.out, List.length_map]
  have fc : ∀ v, RNet W v J r A0 nr c0 q.fs q.cnt (dcB b d :: (LO ++ (LI ++ F))) → DcFacts v b r name n q d := fun v hv => by
    obtain ⟨Y, hY, hm⟩ := hv.mem
    exact hi.facts hY (hm _ (List.mem_cons_self ..))
  obtain ⟨_, _, f3, f4, f5, _, _, f45, f46, _⟩ := fc w hn
  rw [hts, List.length_nil] at f5
  rw [he] at f46
  have hw2 : q.wants ≠ -2 := fun h => hc (.inl h)
  have hwb : (q.wants == -2) = false := by simpa using hw2
  have hm1 : decide ((n : Int) ≤ (d.ps.length : Int)) = false := decide_eq_false (fun h => hc (.inr (by rw [hol]; omega)))
  have hm2 : (d.ps.length : Int) < (n : Int) := Int.not_le.1 (of_decide_eq_false hm1)
  have ksp : ∀ v, RNet W v J r A0 nr c0 q.fs q.cnt (dcB b d :: (LO ++ (LI ++ F))) → Calls Tryd.prog 52 #[d.m.val, .int .i64 q.wants] v fun e w' => e = .returned (.tuple #[.int .i64 (spanM d.m q.wants).1, .int .i64 (spanM d.m q.wants).2]) ∧ RNet W w' J r A0 nr c0 q.fs q.cnt (dcB b d :: (LO ++ (LI ++ F))) := fun v hv => by
    obtain ⟨A1, c1, L1, hr, hs⟩ := hv
    exact (rspan tb d.m hi.mok (by have := hi.mp; omega) q.wants hs).mono fun e w' ⟨he, h⟩ => ⟨he, A1, c1, L1, hr, h⟩
  unfold Man.val at ksp
  obtain ⟨a, hqa⟩ : ∃ a, q.askQ.1 = a := ⟨_, rfl⟩
  obtain ⟨k, hqk⟩ : ∃ k, q.askQ.2 = k := ⟨_, rfl⟩
  have hask1 : q.wants = -1 → a = 0 ∧ k = 2304 := fun h => by rw [← hqa, ← hqk]; unfold LQ.askQ; rw [if_pos h]; exact ⟨rfl, rfl⟩
  have hask2 : q.wants ≠ -1 → 0 ≤ q.wants ∧ a = (spanM d.m q.wants).1 + d.head ∧ k = (spanM d.m q.wants).2 ∧ 0 ≤ (spanM d.m q.wants).1 ∧ (spanM d.m q.wants).1 ≤ 100000 := fun h => by
    rcases hi.wi with h2 | ⟨_, h2⟩ | ⟨hk, h2, h3⟩
    · exact absurd h2 hw2
    · exact absurd h2 h
    · obtain ⟨s1, s2⟩ := spanM_bound d.m q.wants (hi.right hk) h2 h3
      have hkn := hi.known
      rw [hk, if_pos rfl] at hkn
      have e : q.askQ = (d.head + (spanM d.m q.wants).1, (spanM d.m q.wants).2) := by unfold LQ.askQ; rw [if_neg h, hkn]
      exact ⟨h2, by rw [← hqa, e, Int.add_comm], by rw [← hqk, e], s1, s2⟩
  have hh0 := hi.h0
  have hh1 := hi.h1
  have hmi := man_info hi.mok
  obtain ⟨MC, hMC⟩ : ∃ MC, d.m.cells = MC := ⟨_, rfl⟩
  rw [hMC] at ksp hmi
  have HMC := Lib.hid hMC
  have HMA : Hid ((Tryd.prog.info? 53).map (·.size) = some MC.toList.length) := Lib.hid (by rw [hmi, Array.length_toList])
  have HUL := Lib.hid Tryd.underlying53
  have kF := fun (v : World) (hv : RNet W v J r A0 nr c0 q.fs q.cnt (dcB b d :: (LO ++ (LI ++ F)))) => hF J (Le.refl _) v _ q.fs q.cnt a k hfs hcnt hv
  simp only at kF
  have hE1 : (fetched bs (first q.fs) a k).2 = 181 := by rw [← hqa, ← hqk]; exact (fetched_e2 _ _ _ _).resolve_left hE
  obtain ⟨B, hB⟩ : ∃ B, (fetched bs (first q.fs) a k).1 = B := ⟨_, rfl⟩
  rw [hE1, hB] at kF
  have hfin : ∀ (v : World), RNet W v J r A0 nr c0 q.fs.tail (q.cnt + 1) (dcB b d.tryD :: (LO ++ (LI ++ F))) → DsPost W J b r A0 nr c0 name n F true (({ q with fs := q.fs.tail, cnt := q.cnt + 1 } : LQ).tryQ) (.returned (.bool true)) v := fun v hv => by
    obtain ⟨k1, k2, k3, k4, k5, k6⟩ := tryD_keep d
    have h1 : DcIs W J r name n { q with fs := q.fs.tail, cnt := q.cnt + 1 } d := { hi with }
    refine ⟨J, Le.refl _, rfl, d.tryD, LO, LI, tryD_is h1, by rw [k1, k2, k3]; exact hro, by rw [k4, k5, k6]; exact hri, ?_⟩
    have e : (({ q with fs := q.fs.tail, cnt := q.cnt + 1 } : LQ).tryQ).fs = q.fs.tail ∧ (({ q with fs := q.fs.tail, cnt := q.cnt + 1 } : LQ).tryQ).cnt = q.cnt + 1 := by unfold LQ.tryQ; split <;> exact ⟨rfl, rfl⟩
    rw [e.1, e.2]
    exact hv
  have kT : ∀ (v : World) (u : Value), FreshR W v J r A0 nr c0 q.fs.tail (q.cnt + 1) (dcB b d :: (LO ++ (LI ++ F))) B u → Calls Tryd.prog 54 #[.pointer (some ⟨b, 0, none⟩)] v fun e w' => e = .returned (.tuple #[]) ∧ RNet W w' J r A0 nr c0 q.fs.tail (q.cnt + 1) (dcB b d.tryD :: (LO ++ (LI ++ F))) := fun v u hv => by
    obtain ⟨A, c, L', _, _, A1, c1, L1, hr, hs⟩ := hv
    have h1 : St W v J (dcB b d :: ((r, .cells (rcells A0 nr c0 A1 q.fs.tail.length c1 (q.cnt + 1)) 90 (0, 0)) :: (L1 ++ (LO ++ (LI ++ F))))) := hs.keep L' fun _ x => by simp only [List.count_append, List.count_cons, List.count_nil]; omega
    exact (rl_try hi.mok hi.l100 h1).mono fun e w' ⟨he, h2⟩ => ⟨he, A1, c1, L1, hr, h2.keep [] fun _ x => by simp only [List.count_append, List.count_cons, List.count_nil]; omega⟩
  have fm : ∀ (v : World) (u : Value), FreshR W v J r A0 nr c0 q.fs.tail (q.cnt + 1) (dcB b d :: (LO ++ (LI ++ F))) B u → DcFacts v b r name n q d := fun v u hv => by
    obtain ⟨Z, hZ, hm⟩ := hv.mem
    exact hi.facts hZ (hm _ (List.mem_cons_self ..))
  have HD := Lib.hid hn; have FC := Lib.hid fc; have KSP := Lib.hid ksp; have HA1 := Lib.hid hask1; have HA2 := Lib.hid hask2; have HI := Lib.hid hi; have HRO := Lib.hid hro; have HRI := Lib.hid hri; have TBH := Lib.hid tb; have KF := Lib.hid kF; have HFIN := Lib.hid hfin; have KT := Lib.hid kT; have FM := Lib.hid fm
  clear hn fc ksp hask1 hask2 hi hro hri tb hmi hMC he hq hc hts hol hqa hqk kF hF hfin hfs hcnt kT fm hE hE1 hB
  go_enter Tryd.func28, Tryd.ntmps28
  go_wp2_with fail
  go_quiet (fail)
  go_upto_if 59 with fail
  clear f3 f4 f5 f46 hwb hm1 hm2
  go_cut [4, 5] (fun s4 s5 wx => s4 = .int .i64 a ∧ s5 = .int .i64 k ∧ RNet W wx J r A0 nr c0 q.fs q.cnt (dcB b d :: (LO ++ (LI ++ F))))
  case first =>
    by_cases hw1 : q.wants = -1
    · obtain ⟨rfl, rfl⟩ := HA1.out hw1
      have hwc : decide ((0 : Int) ≤ q.wants) = false := decide_eq_false (by omega)
      have hwd : q.wants < 0 := by omega
      clear hw1
      go_wp2_with fail
      go_meet
      exact ⟨rfl, rfl, HD.out.drew _⟩
    · obtain ⟨g0, ea, ek, g1, g2⟩ := HA2.out hw1
      have hwc : decide ((0 : Int) ≤ q.wants) = true := decide_eq_true g0
      have hwd : ¬ q.wants < 0 := by omega
      clear hw1
      obtain ⟨P, hP⟩ : ∃ P, (spanM d.m q.wants).1 = P := ⟨_, rfl⟩
      obtain ⟨Q2, hQ2⟩ : ∃ Q, (spanM d.m q.wants).2 = Q := ⟨_, rfl⟩
      have ksp := KSP.out
      rw [hP] at g1 g2 ksp ea
      rw [hQ2] at ksp ek
      have KS2 := Lib.hid ksp; have EA := Lib.hid ea; have EK := Lib.hid ek
      clear ksp hP hQ2 ea ek HA1 HA2 KSP f45
      go_wp2_with fail
      generalize hwk : w.drewN _ = wk
      have HDK : Hid (RNet W wk.drew J r A0 nr c0 q.fs q.cnt (dcB b d :: (LO ++ (LI ++ F)))) := Lib.hid (by rw [← hwk]; exact (HD.out.drew _).drew 1)
      clear hwk
      have fk := FC.out _ HDK.out
      have s0 : wk.drew.cell? ⟨b, 45, none⟩ = some (.int .i64 q.wants) ∧ wk.drew.rangeAt b 8 MC.toList := ⟨fk.c45, by rw [← HMC.out]; exact fk.rg⟩
      clear fk
      refine wp_region_held_drew (S := fun w' => w'.cell? ⟨b, 45, none⟩ = some (.int .i64 q.wants) ∧ w'.rangeAt b 8 MC.toList) (by kernel_rfl) s0 (fun hHeld => ?_)
      refine wpAnyH_take (i := 0) (oi := ?_) (v := ?_) ?_ ?_ ?_ ?_ ?_ ?_ ?_ ?_
      rotate_left 2
      · (simp only [List.getElem?_toArray, List.getElem?_cons_succ, List.getElem?_cons_zero]; exact rfl)
      · kernel_rfl
      · kernel_rfl
      · kernel_rfl
      · exact fun _ _ _ h => h
      · first | (refine Or.inl ⟨by rfl, ?_⟩; intro w hSw; (try dsimp only at hSw); go_simp; try with_reducible rfl) | (refine Or.inr ⟨by rfl, ?_⟩; rfl)
      · assumption
      try simp only [Act.put, List.setIfInBounds_toArray, List.set_cons_zero, List.set_cons_succ]
      refine wpAnyH_take (i := 1) (oi := ?_) (v := ?_) ?_ ?_ ?_ ?_ ?_ ?_ ?_ ?_
      rotate_left 2
      · (simp only [List.getElem?_toArray, List.getElem?_cons_succ, List.getElem?_cons_zero]; exact rfl)
      · kernel_rfl
      · kernel_rfl
      · kernel_rfl
      · exact fun _ _ _ h => h
      · first | (refine Or.inl ⟨by rfl, ?_⟩; intro w hSw; (try dsimp only at hSw); go_simp; try with_reducible rfl) | (refine Or.inr ⟨by rfl, ?_⟩; rfl)
      · assumption
      try simp only [Act.put, List.setIfInBounds_toArray, List.set_cons_zero, List.set_cons_succ]
      refine wpAnyH_take (i := 2) (oi := ?_) (v := ?_) ?_ ?_ ?_ ?_ ?_ ?_ ?_ ?_
      rotate_left 2
      · (simp only [List.getElem?_toArray, List.getElem?_cons_succ, List.getElem?_cons_zero]; exact rfl)
      · kernel_rfl
      · kernel_rfl
      · kernel_rfl
      · exact fun _ _ _ h => h
      · first | (refine Or.inl ⟨by rfl, ?_⟩; intro w hSw; (try dsimp only at hSw); go_simp; try with_reducible rfl) | (refine Or.inr ⟨by rfl, ?_⟩; rfl)
      · assumption
      try simp only [Act.put, List.setIfInBounds_toArray, List.set_cons_zero, List.set_cons_succ]
      refine wpAnyH_take (i := 3) (oi := ?_) (v := ?_) ?_ ?_ ?_ ?_ ?_ ?_ ?_ ?_
      rotate_left 2
      · (simp only [List.getElem?_toArray, List.getElem?_cons_succ, List.getElem?_cons_zero]; exact rfl)
      · kernel_rfl
      · kernel_rfl
      · kernel_rfl
      · exact fun _ _ _ h => h
      · first | (first | ((refine yieldsIf_load_mid ?_ 53 (.tmp 63) ?_ b 8 ?_ MC.toList _ ?_ HUL.out ?_ HMA.out) <;> first | rfl | exact fun w h => h.2) | (refine Or.inl ⟨by rfl, ?_⟩; intro w hSw; obtain ⟨hS1, hS2⟩ := hSw; go_simp; try with_reducible rfl)) | (refine Or.inr ⟨by rfl, ?_⟩; rfl)
      · assumption
      try simp only [Act.put, List.setIfInBounds_toArray, List.set_cons_zero, List.set_cons_succ]
      refine wpAnyH_take (i := 4) (oi := ?_) (v := ?_) ?_ ?_ ?_ ?_ ?_ ?_ ?_ ?_
      rotate_left 2
      · (simp only [List.getElem?_toArray, List.getElem?_cons_succ, List.getElem?_cons_zero]; exact rfl)
      · kernel_rfl
      · kernel_rfl
      · kernel_rfl
      · exact fun _ _ _ h => h
      · first | (refine Or.inl ⟨by rfl, ?_⟩; intro w hSw; (try dsimp only at hSw); go_simp; try with_reducible rfl) | (refine Or.inr ⟨by rfl, ?_⟩; rfl)
      · assumption
      try simp only [Act.put, List.setIfInBounds_toArray, List.set_cons_zero, List.set_cons_succ]
      refine wpAnyH_take (i := 5) (oi := ?_) (v := ?_) ?_ ?_ ?_ ?_ ?_ ?_ ?_ ?_
      rotate_left 2
      · (simp only [List.getElem?_toArray, List.getElem?_cons_succ, List.getElem?_cons_zero]; exact rfl)
      · kernel_rfl
      · kernel_rfl
      · kernel_rfl
      · exact fun _ _ _ h => h
      · first | (refine Or.inl ⟨by rfl, ?_⟩; intro w hSw; (try dsimp only at hSw); go_simp; try with_reducible rfl) | (refine Or.inr ⟨by rfl, ?_⟩; rfl)
      · assumption
      try simp only [Act.put, List.setIfInBounds_toArray, List.set_cons_zero, List.set_cons_succ]
      refine wpAnyH_take (i := 6) (oi := ?_) (v := ?_) ?_ ?_ ?_ ?_ ?_ ?_ ?_ ?_
      rotate_left 2
      · (simp only [List.getElem?_toArray, List.getElem?_cons_succ, List.getElem?_cons_zero]; exact rfl)
      · kernel_rfl
      · kernel_rfl
      · kernel_rfl
      · exact fun _ _ _ h => h
      · first | (refine Or.inl ⟨by rfl, ?_⟩; intro w hSw; (try dsimp only at hSw); go_simp; try with_reducible rfl) | (refine Or.inr ⟨by rfl, ?_⟩; rfl)
      · assumption
      try simp only [Act.put, List.setIfInBounds_toArray, List.set_cons_zero, List.set_cons_succ]
      refine wpAnyH_take (i := 7) (oi := ?_) (v := ?_) ?_ ?_ ?_ ?_ ?_ ?_ ?_ ?_
      rotate_left 2
      · (simp only [List.getElem?_toArray, List.getElem?_cons_succ, List.getElem?_cons_zero]; exact rfl)
      · kernel_rfl
      · kernel_rfl
      · kernel_rfl
      · exact fun _ _ _ h => h
      · first | (first | ((refine yieldsIf_load_mid ?_ 53 (.tmp 63) ?_ b 8 ?_ MC.toList _ ?_ HUL.out ?_ HMA.out) <;> first | rfl | exact fun w h => h.2) | (refine Or.inl ⟨by rfl, ?_⟩; intro w hSw; obtain ⟨hS1, hS2⟩ := hSw; go_simp; try with_reducible rfl)) | (refine Or.inr ⟨by rfl, ?_⟩; rfl)
      · assumption
      try simp only [Act.put, List.setIfInBounds_toArray, List.set_cons_zero, List.set_cons_succ]
      refine wpAnyH_ready (rs := [8]) (by kernel_rfl) (by simp) ?_
      refine AllReadyH.cons (o := ?_) ?_ (fun K hK => ?_) ?_
      rotate_left 1
      · (simp only [List.getElem?_toArray, List.getElem?_cons_succ, List.getElem?_cons_zero]; exact rfl)
      · go_simp
        (first | (go_at_call 52; (refine (KS2.out _ HDK.out).mono ?_); rintro e wx ⟨rfl, hx⟩; dsimp only))
        refine hK.out _ _ ?_ (fun hHeld => ?_)
        · (try dsimp only) <;> (first | exact ⟨(FC.out _ hx).c45, by rw [← HMC.out]; exact (FC.out _ hx).rg⟩)
        clear hK K
        try simp only [Act.put, List.setIfInBounds_toArray, List.set_cons_zero, List.set_cons_succ]
        refine wpAnyH_take (i := 9) (oi := ?_) (v := ?_) ?_ ?_ ?_ ?_ ?_ ?_ ?_ ?_
        rotate_left 2
        · (simp only [List.getElem?_toArray, List.getElem?_cons_succ, List.getElem?_cons_zero]; exact rfl)
        · kernel_rfl
        · kernel_rfl
        · kernel_rfl
        · exact fun _ _ _ h => h
        · first | (refine Or.inl ⟨by rfl, ?_⟩; intro w hSw; (try dsimp only at hSw); go_simp; try with_reducible rfl) | (refine Or.inr ⟨by rfl, ?_⟩; rfl)
        · assumption
        try simp only [Act.put, List.setIfInBounds_toArray, List.set_cons_zero, List.set_cons_succ]
        refine wpAnyH_take (i := 10) (oi := ?_) (v := ?_) ?_ ?_ ?_ ?_ ?_ ?_ ?_ ?_
        rotate_left 2
        · (simp only [List.getElem?_toArray, List.getElem?_cons_succ, List.getElem?_cons_zero]; exact rfl)
        · kernel_rfl
        · kernel_rfl
        · kernel_rfl
        · exact fun _ _ _ h => h
        · first | (refine Or.inl ⟨by rfl, ?_⟩; intro w hSw; (try dsimp only at hSw); go_simp; try with_reducible rfl) | (refine Or.inr ⟨by rfl, ?_⟩; rfl)
        · assumption
        try simp only [Act.put, List.setIfInBounds_toArray, List.set_cons_zero, List.set_cons_succ]
        refine wpAnyH_take (i := 11) (oi := ?_) (v := ?_) ?_ ?_ ?_ ?_ ?_ ?_ ?_ ?_
        rotate_left 2
        · (simp only [List.getElem?_toArray, List.getElem?_cons_succ, List.getElem?_cons_zero]; exact rfl)
        · kernel_rfl
        · kernel_rfl
        · kernel_rfl
        · exact fun _ _ _ h => h
        · first | (refine Or.inl ⟨by rfl, ?_⟩; intro w hSw; (try dsimp only at hSw); go_simp; try with_reducible rfl) | (refine Or.inr ⟨by rfl, ?_⟩; rfl)
        · assumption
        try simp only [Act.put, List.setIfInBounds_toArray, List.set_cons_zero, List.set_cons_succ]
        refine wpAnyH_take (i := 12) (oi := ?_) (v := ?_) ?_ ?_ ?_ ?_ ?_ ?_ ?_ ?_
        rotate_left 2
        · (simp only [List.getElem?_toArray, List.getElem?_cons_succ, List.getElem?_cons_zero]; exact rfl)
        · kernel_rfl
        · kernel_rfl
        · kernel_rfl
        · exact fun _ _ _ h => h
        · first | (refine Or.inl ⟨by rfl, ?_⟩; intro w hSw; (try dsimp only at hSw); go_simp; try with_reducible rfl) | (refine Or.inr ⟨by rfl, ?_⟩; rfl)
        · assumption
        try simp only [Act.put, List.setIfInBounds_toArray, List.set_cons_zero, List.set_cons_succ]
        refine wpAnyH_take (i := 13) (oi := ?_) (v := ?_) ?_ ?_ ?_ ?_ ?_ ?_ ?_ ?_
        rotate_left 2
        · (simp only [List.getElem?_toArray, List.getElem?_cons_succ, List.getElem?_cons_zero]; exact rfl)
        · kernel_rfl
        · kernel_rfl
        · kernel_rfl
        · exact fun _ _ _ h => h
        · first | (refine Or.inl ⟨by rfl, ?_⟩; intro w hSw; (try dsimp only at hSw); go_simp; try with_reducible rfl) | (refine Or.inr ⟨by rfl, ?_⟩; rfl)
        · assumption
        try simp only [Act.put, List.setIfInBounds_toArray, List.set_cons_zero, List.set_cons_succ]
        refine wpAnyH_done (by kernel_rfl) ?_ _
        have n7 := (FC.out _ hx).c7
        have HX := Lib.hid hx
        clear hx s0 HDK
        go_wp2_with fail
        go_meet
        exact ⟨by rw [EA.out], by rw [EK.out], HX.out⟩
      exact AllReadyH.nil
  case rest =>
    obtain ⟨rfl, rfl, hx⟩ := hcut
    clear f45
    have fk := FC.out _ hx
    have n0 := fk.c0
    have n1 := fk.c1
    have HX := Lib.hid hx
    clear fk hx HD KSP HA1 HA2
    go_wp2_with fail
    go_region_held3 (fun w' => w'.cell? ⟨b, 0, none⟩ = some (.pointer (some ⟨r, 0, none⟩)) ∧ w'.cell? ⟨b, 1, none⟩ = some (.string name)) (first | exact ⟨n0, n1⟩ | assumption)
      (first | (go_at_call 53; refine (KF.out _ (by first | exact HX.out.drew 1 | exact HX.out.drew _ | exact HX.out)).mono ?_; rintro e w5 ⟨u, rfl, h5⟩; have S5 : w5.cell? ⟨b, 0, none⟩ = some (.pointer (some ⟨r, 0, none⟩)) ∧ w5.cell? ⟨b, 1, none⟩ = some (.string name) := ⟨(FM.out _ _ h5).c0, (FM.out _ _ h5).c1⟩; have H5 := Lib.hid h5; clear h5))
    clear n0 n1 S5
    go_wp2_with fail
    refine (KT.out _ _ H5.out).mono ?_
    rintro e w6 ⟨rfl, h6⟩
    have H6 := Lib.hid (HFIN.out _ h6)
    clear h6
    go_wp2_with fail
    go_ret
    exact H6.out
end
end Go.Proofs.YtnhlpiomfljlcaaDoor
