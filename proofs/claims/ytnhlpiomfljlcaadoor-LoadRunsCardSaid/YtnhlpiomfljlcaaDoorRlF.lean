/- The document's loader: a step that fetches: what comes. -/
import Derived.Test.YtnhlpiomfljlcaaDoorRlE
import Derived.Test.YtnhlpiomfljlcaaDoorRgB
import Derived.OwnWalk
import Derived.Deep.DeepCutAuto
import Derived.Deep.RegionHeld3
import Derived.Deep.RegionWith
namespace Go.Proofs.YtnhlpiomfljlcaaDoor
set_option linter.unusedVariables false
set_option linter.unusedSimpArgs false
open Go.RowKit Go.Lib Go.Deep

theorem pall_one (l : List (Int × Part)) : ∀ u ∈ pall l, u.oneCell' = true := fun u hu => by
  obtain ⟨t, _, h⟩ := List.mem_flatMap.1 hu
  simp only [pcell, List.mem_cons, List.not_mem_nil, or_false] at h
  rcases h with rfl | rfl <;> rfl
theorem piece_sized : (Tryd.prog.info? 37).map (fun i => (i.zero, i.size, i.bytes)) = some (some (.agg #[.int .i64 0, .slice none 0 0]), 2, 32) := by kernel_rfl
theorem perm3b {α : Type} (a b c : α) (l : List α) : (a :: b :: c :: l).Perm (b :: c :: a :: l) := (List.Perm.swap b a (c :: l)).trans ((List.Perm.swap c a l).cons b)
theorem perm_tail {α : Type} (a b c : α) (l : List α) : (a :: b :: c :: l).Perm (a :: c :: b :: l) := (List.Perm.swap c b l).cons a
section
variable {W w : World} {I : Nat → Option Obj} {LL : List (Nat × Obj)}
theorem St.srcP {b : Nat} {X : Array Value} (hX : X.size = 2) (h : St W w I LL) (hm : (b, Obj.cells X 37 (0, 0)) ∈ LL) : Src w 2 (some ⟨b, 0, none⟩) 1 X.toList :=
  (Row.whole 37 2 b 1 X (by rw [hX]) (by unfold maxLen; omega)).src (fun p hp => by
    simp only [List.mem_singleton] at hp
    subst hp
    exact h.own _ hm)
end
section
variable {W w : World} {J : Nat → Option Obj} {b r : Nat} {A0 : Option Addr} {nr c0 : Nat} {name : ByteArray} {n : Nat} {q : LQ} {F : List (Nat × Obj)}
set_option maxRecDepth 100000 in
set_option maxHeartbeats 16000000 in
/-- It came. -/
theorem rs_sent (tb : TB W J) (h : DocSt W w J b r A0 nr c0 name n q F) {bs : List UInt8} (hF : FetAll W J r A0 nr c0 name (some bs)) (he : q.err = 0) (hq : q.inn = []) (hc : ¬ (q.wants = -2 ∨ n ≤ q.out.length)) (hfs : q.fs.length ≤ 1000000) (hcnt : q.cnt ≤ 1000000000) (hout : q.out.length ≤ 1000) (hbl : bs.length ≤ 1000000000)
    (hE : (fetched bs (first q.fs) q.askQ.1 q.askQ.2).2 = 0) : Calls Tryd.prog 28 #[.pointer (some ⟨b, 0, none⟩)] w (DsPost W J b r A0 nr c0 name n F true { q with fs := q.fs.tail, cnt := q.cnt + 1, out := q.out ++ [(q.wants, (fetched bs (first q.fs) q.askQ.1 q.askQ.2).1)], wants := q.nextQ }) := by
  obtain ⟨d, LO, LI, hi, hro, hri, hn⟩ := h
  have hts : d.ts = [] := by have := hi.inn; rw [hq] at this; exact List.map_eq_nil_iff.1 this.symm
  have hol : q.out.length = d.ps.length := by rw [hi.out, List.length_map]
  have fc : ∀ v, RNet W v J r A0 nr c0 q.fs q.cnt (dcB b d :: (LO ++ (LI ++ F))) → DcFacts v b r name n q d := fun v hv => by
    obtain ⟨Y, hY, hm⟩ := hv.mem
    exact hi.facts hY (hm _ (List.mem_cons_self ..))
  obtain ⟨_, _, f3, f4, f5, _, _, f45, f46, _⟩ := fc w hn
  rw [hts, List.length_nil] at f5
  rw [he] at f46
  have hw2 : q.wants ≠ -2 := fun h => hc (.inl h)
  have hwb : (q.wants == -2) = false := by simpa using hw2
  have hm1 : decide ((n : Int) ≤ (d.ps.length : Int)) = false := decide_eq_false (fun h => hc (.inr (by rw [hol]; omega)))
  have hm2 : (d.ps.length : Int) < (n : Int) := Int.not_le.1 (of_decide_eq_false hm1)
  have ksp : ∀ v, RNet W v J r A0 nr c0 q.fs q.cnt (dcB b d :: (LO ++ (LI ++ F))) → Calls Tryd.prog 52 #[d.m.val, .int .i64 q.wants] v fun e w' => e = .returned (.tuple #[.int .i64 (spanM d.m q.wants).1, .int .i64 (spanM d.m q.wants).2]) ∧ RNet W w' J r A0 nr c0 q.fs q.cnt (dcB b d :: (LO ++ (LI ++ F))) := fun v hv => by
    obtain ⟨A1, c1, L1, hr, hs⟩ := hv
    exact (rspan tb d.m hi.mok (by have := hi.mp; omega) q.wants hs).mono fun e w' ⟨he, h⟩ => ⟨he, A1, c1, L1, hr, h⟩
  unfold Man.val at ksp
  obtain ⟨a, hqa⟩ : ∃ a, q.askQ.1 = a := ⟨_, rfl⟩
  obtain ⟨k, hqk⟩ : ∃ k, q.askQ.2 = k := ⟨_, rfl⟩
  have hask1 : q.wants = -1 → a = 0 ∧ k = 2304 := fun h => by rw [← hqa, ← hqk]; unfold LQ.askQ; rw [if_pos h]; exact ⟨rfl, rfl⟩
  have hask2 : q.wants ≠ -1 → 0 ≤ q.wants ∧ a = (spanM d.m q.wants).1 + d.head ∧ k = (spanM d.m q.wants).2 ∧ 0 ≤ (spanM d.m q.wants).1 ∧ (spanM d.m q.wants).1 ≤ 100000 := fun h => by
    rcases hi.wi with h2 | ⟨_, h2⟩ | ⟨hk, h2, h3⟩
    · exact absurd h2 hw2
    · exact absurd h2 h
    · obtain ⟨s1, s2⟩ := spanM_bound d.m q.wants (hi.right hk) h2 h3
      have hkn := hi.known
      rw [hk, if_pos rfl] at hkn
      have e : q.askQ = (d.head + (spanM d.m q.wants).1, (spanM d.m q.wants).2) := by unfold LQ.askQ; rw [if_neg h, hkn]
      exact ⟨h2, by rw [← hqa, e, Int.add_comm], by rw [← hqk, e], s1, s2⟩
  have hh0 := hi.h0
  have hh1 := hi.h1
  have hmi := man_info hi.mok
  obtain ⟨MC, hMC⟩ : ∃ MC, d.m.cells = MC := ⟨_, rfl⟩
  rw [hMC] at ksp hmi
  have HMC := Lib.hid hMC
  have HMA : Hid ((Tryd.prog.info? 53).map (·.size) = some MC.toList.length) := Lib.hid (by rw [hmi, Array.length_toList])
  have HUL := Lib.hid Tryd.underlying53
  have kF := fun (v : World) (hv : RNet W v J r A0 nr c0 q.fs q.cnt (dcB b d :: (LO ++ (LI ++ F)))) => hF J (Le.refl _) v _ q.fs q.cnt a k hfs hcnt hv
  simp only at kF
  have hE1 : (fetched bs (first q.fs) a k).2 = 0 := by rw [← hqa, ← hqk]; exact hE
  have hBl := fetched_le bs (first q.fs) a k
  rw [hqa, hqk]
  obtain ⟨B, hB⟩ : ∃ B, (fetched bs (first q.fs) a k).1 = B := ⟨_, rfl⟩
  rw [hE1, hB] at kF
  rw [hB] at hBl ⊢
  have hBl2 : B.length ≤ 1000000000 := by omega
  have hps : d.ps.length ≤ 1000 := by omega
  have hnx : (q.wants = -1 → q.nextQ = -2) ∧ (q.wants ≠ -1 → q.nextQ = (if q.wants + 1 = d.m.n then -2 else q.wants + 1) ∧ 0 ≤ q.wants ∧ q.wants < d.m.n ∧ d.m.n ≤ 64) := by
    have hkn := hi.known
    refine ⟨fun h => ?_, fun h => ?_⟩
    · rcases hi.wi with h2 | ⟨h3, _⟩ | ⟨_, h2, _⟩
      · exact absurd h2 hw2
      · rw [h3, if_neg (by decide)] at hkn; unfold LQ.nextQ; rw [hkn]
      · omega
    · rcases hi.wi with h2 | ⟨_, h2⟩ | ⟨h3, h2, h4⟩
      · exact absurd h2 hw2
      · exact absurd h2 h
      · rw [h3, if_pos rfl] at hkn
        exact ⟨by unfold LQ.nextQ; rw [hkn], h2, h4, (rightM_n (hi.right h3)).2⟩
  have hfin : ∀ (J1 : Nat → Option Obj) (v : World) (A : Option Addr) (c : Nat) (A5 : Option Addr) (c5 : Nat) (L5 : List (Nat × Obj)) (A1 : Option Addr) (c1 : Nat) (L1 : List (Nat × Obj)) (nx : Int), Le J J1 → POk ⟨A, c, B⟩ W J1 → Row 102 3 (.slice A1 q.fs.tail.length c1) q.fs.tail.length (fall q.fs.tail) L1 → Row 37 2 (.slice A5 (d.ps ++ [(q.wants, (⟨A, c, B⟩ : Part))]).length c5) (d.ps ++ [(q.wants, (⟨A, c, B⟩ : Part))]).length (pall (d.ps ++ [(q.wants, (⟨A, c, B⟩ : Part))])) L5 → q.nextQ = nx →
      St W v J1 (dcB b { d with OA := A5, oc := c5, ps := d.ps ++ [(q.wants, (⟨A, c, B⟩ : Part))], wants := nx } :: (L5 ++ ((r, .cells (rcells A0 nr c0 A1 q.fs.tail.length c1 (q.cnt + 1)) 90 (0, 0)) :: (L1 ++ (LO ++ (LI ++ F)))))) →
      DsPost W J b r A0 nr c0 name n F true { q with fs := q.fs.tail, cnt := q.cnt + 1, out := q.out ++ [(q.wants, B)], wants := q.nextQ } (.returned (.bool true)) v := fun J1 v A c A5 c5 L5 A1 c1 L1 nx hle hp hr1 hr5 hn hv => by
    subst hn
    refine ⟨J1, hle, rfl, { d with OA := A5, oc := c5, ps := d.ps ++ [(q.wants, (⟨A, c, B⟩ : Part))], wants := q.nextQ }, L5, LI, ?_, hr5, hri, A1, c1, L1, hr1, hv.keep LO fun _ x => by simp only [List.count_append, List.count_cons, List.count_nil]; omega⟩
    refine { hi with wants := rfl, wi := ?_, out := by show q.out ++ [(q.wants, B)] = _; rw [hi.out, List.map_append]; rfl, pok := fun x hx => ?_ }
    · show q.nextQ = -2 ∨ (d.known = false ∧ q.nextQ = -1) ∨ (d.known = true ∧ 0 ≤ q.nextQ ∧ q.nextQ < d.m.n)
      by_cases h : q.wants = -1
      · exact .inl (hnx.1 h)
      · obtain ⟨e, g0, g1, _⟩ := hnx.2 h
        rw [e]
        split
        · exact .inl rfl
        · refine .inr (.inr ⟨?_, by omega, by omega⟩)
          rcases hi.wi with h2 | ⟨_, h2⟩ | ⟨h3, _⟩
          · exact absurd h2 hw2
          · exact absurd h2 h
          · exact h3
    · rcases List.mem_append.1 hx with hx | hx
      · exact (hi.pok x hx).mono hle
      · simp only [List.mem_singleton] at hx; subst hx; exact hp
  have fm : ∀ (v : World) (u : Value), FreshR W v J r A0 nr c0 q.fs.tail (q.cnt + 1) (dcB b d :: (LO ++ (LI ++ F))) B u → DcFacts v b r name n q d := fun v u hv => by
    obtain ⟨Z, hZ, hm⟩ := hv.mem
    exact hi.facts hZ (hm _ (List.mem_cons_self ..))
  have fx : ∀ (J1 : Nat → Option Obj) (v : World) (Y : List (Nat × Obj)), Le J J1 → St W v J1 Y → dcB b d ∈ Y → DcFacts v b r name n q d := fun J1 v Y hle hv hm => (hi.more hle).facts hv hm
  have hmok := hi.mok
  have HD := Lib.hid hn; have FC := Lib.hid fc; have KSP := Lib.hid ksp; have HA1 := Lib.hid hask1; have HA2 := Lib.hid hask2; have HI := Lib.hid hi; have HRO := Lib.hid hro; have HRI := Lib.hid hri; have TBH := Lib.hid tb; have KF := Lib.hid kF; have HFIN := Lib.hid hfin; have HNX := Lib.hid hnx; have FM := Lib.hid fm; have FX := Lib.hid fx
  clear hn fc ksp hask1 hask2 hi hro hri tb hmi hMC he hq hc hts hol hqa hqk kF hF hfin hfs hcnt hnx fm fx hE hE1 hB hBl
  go_enter Tryd.func28, Tryd.ntmps28
  go_wp2_with fail
  go_quiet (fail)
  go_upto_if 59 with fail
  clear f3 f4 f5 f46 hwb hm1 hm2
  go_cut [4, 5] (fun s4 s5 wx => s4 = .int .i64 a ∧ s5 = .int .i64 k ∧ RNet W wx J r A0 nr c0 q.fs q.cnt (dcB b d :: (LO ++ (LI ++ F))))
  case first =>
    by_cases hw1 : q.wants = -1
    · obtain ⟨rfl, rfl⟩ := HA1.out hw1
      have hwc : decide ((0 : Int) ≤ q.wants) = false := decide_eq_false (by omega)
      have hwd : q.wants < 0 := by omega
      clear hw1
      go_wp2_with fail
      go_meet
      exact ⟨rfl, rfl, HD.out.drew _⟩
    · obtain ⟨g0, ea, ek, g1, g2⟩ := HA2.out hw1
      have hwc : decide ((0 : Int) ≤ q.wants) = true := decide_eq_true g0
      have hwd : ¬ q.wants < 0 := by omega
      clear hw1
      obtain ⟨P, hP⟩ : ∃ P, (spanM d.m q.wants).1 = P := ⟨_, rfl⟩
      obtain ⟨Q2, hQ2⟩ : ∃ Q, (spanM d.m q.wants).2 = Q := ⟨_, rfl⟩
      have ksp := KSP.out
      rw [hP] at g1 g2 ksp ea
      rw [hQ2] at ksp ek
      have KS2 := Lib.hid ksp; have EA := Lib.hid ea; have EK := Lib.hid ek
      clear ksp hP hQ2 ea ek HA1 HA2 KSP f45
      go_wp2_with fail
      generalize hwk : w.drewN _ = wk
      have HDK : Hid (RNet W wk.drew J r A0 nr c0 q.fs q.cnt (dcB b d :: (LO ++ (LI ++ F)))) := Lib.hid (by rw [← hwk]; exact (HD.out.drew _).drew 1)
      clear hwk
      have fk := FC.out _ HDK.out
      have s0 : wk.drew.cell? ⟨b, 45, none⟩ = some (.int .i64 q.wants) ∧ wk.drew.rangeAt b 8 MC.toList := ⟨fk.c45, by rw [← HMC.out]; exact fk.rg⟩
      clear fk
      refine wp_region_held_drew (S := fun w' => w'.cell? ⟨b, 45, none⟩ = some (.int .i64 q.wants) ∧ w'.rangeAt b 8 MC.toList) (by kernel_rfl) s0 (fun hHeld => ?_)
      refine wpAnyH_take (i := 0) (oi := ?_) (v := ?_) ?_ ?_ ?_ ?_ ?_ ?_ ?_ ?_
      rotate_left 2
      · (simp only [List.getElem?_toArray, List.getElem?_cons_succ, List.getElem?_cons_zero]; exact rfl)
      · kernel_rfl
      · kernel_rfl
      · kernel_rfl
      · exact fun _ _ _ h => h
      · first | (refine Or.inl ⟨by rfl, ?_⟩; intro w hSw; (try dsimp only at hSw); go_simp; try with_reducible rfl) | (refine Or.inr ⟨by rfl, ?_⟩; rfl)
      · assumption
      try simp only [Act.put, List.setIfInBounds_toArray, List.set_cons_zero, List.set_cons_succ]
      refine wpAnyH_take (i := 1) (oi := ?_) (v := ?_) ?_ ?_ ?_ ?_ ?_ ?_ ?_ ?_
      rotate_left 2
      · (simp only [List.getElem?_toArray, List.getElem?_cons_succ, List.getElem?_cons_zero]; exact rfl)
      · kernel_rfl
      · kernel_rfl
      · kernel_rfl
      · exact fun _ _ _ h => h
      · first | (refine Or.inl ⟨by rfl, ?_⟩; intro w hSw; (try dsimp only at hSw); go_simp; try with_reducible rfl) | (refine Or.inr ⟨by rfl, ?_⟩; rfl)
      · assumption
      try simp only [Act.put, List.setIfInBounds_toArray, List.set_cons_zero, List.set_cons_succ]
      refine wpAnyH_take (i := 2) (oi := ?_) (v := ?_) ?_ ?_ ?_ ?_ ?_ ?_ ?_ ?_
      rotate_left 2
      · (simp only [List.getElem?_toArray, List.getElem?_cons_succ, List.getElem?_cons_zero]; exact rfl)
      · kernel_rfl
      · kernel_rfl
      · kernel_rfl
      · exact fun _ _ _ h => h
      · first | (refine Or.inl ⟨by rfl, ?_⟩; intro w hSw; (try dsimp only at hSw); go_simp; try with_reducible rfl) | (refine Or.inr ⟨by rfl, ?_⟩; rfl)
      · assumption
      try simp only [Act.put, List.setIfInBounds_toArray, List.set_cons_zero, List.set_cons_succ]
      refine wpAnyH_take (i := 3) (oi := ?_) (v := ?_) ?_ ?_ ?_ ?_ ?_ ?_ ?_ ?_
      rotate_left 2
      · (simp only [List.getElem?_toArray, List.getElem?_cons_succ, List.getElem?_cons_zero]; exact rfl)
      · kernel_rfl
      · kernel_rfl
      · kernel_rfl
      · exact fun _ _ _ h => h
      · first | (first | ((refine yieldsIf_load_mid ?_ 53 (.tmp 63) ?_ b 8 ?_ MC.toList _ ?_ HUL.out ?_ HMA.out) <;> first | rfl | exact fun w h => h.2) | (refine Or.inl ⟨by rfl, ?_⟩; intro w hSw; obtain ⟨hS1, hS2⟩ := hSw; go_simp; try with_reducible rfl)) | (refine Or.inr ⟨by rfl, ?_⟩; rfl)
      · assumption
      try simp only [Act.put, List.setIfInBounds_toArray, List.set_cons_zero, List.set_cons_succ]
      refine wpAnyH_take (i := 4) (oi := ?_) (v := ?_) ?_ ?_ ?_ ?_ ?_ ?_ ?_ ?_
      rotate_left 2
      · (simp only [List.getElem?_toArray, List.getElem?_cons_succ, List.getElem?_cons_zero]; exact rfl)
      · kernel_rfl
      · kernel_rfl
      · kernel_rfl
      · exact fun _ _ _ h => h
      · first | (refine Or.inl ⟨by rfl, ?_⟩; intro w hSw; (try dsimp only at hSw); go_simp; try with_reducible rfl) | (refine Or.inr ⟨by rfl, ?_⟩; rfl)
      · assumption
      try simp only [Act.put, List.setIfInBounds_toArray, List.set_cons_zero, List.set_cons_succ]
      refine wpAnyH_take (i := 5) (oi := ?_) (v := ?_) ?_ ?_ ?_ ?_ ?_ ?_ ?_ ?_
      rotate_left 2
      · (simp only [List.getElem?_toArray, List.getElem?_cons_succ, List.getElem?_cons_zero]; exact rfl)
      · kernel_rfl
      · kernel_rfl
      · kernel_rfl
      · exact fun _ _ _ h => h
      · first | (refine Or.inl ⟨by rfl, ?_⟩; intro w hSw; (try dsimp only at hSw); go_simp; try with_reducible rfl) | (refine Or.inr ⟨by rfl, ?_⟩; rfl)
      · assumption
      try simp only [Act.put, List.setIfInBounds_toArray, List.set_cons_zero, List.set_cons_succ]
      refine wpAnyH_take (i := 6) (oi := ?_) (v := ?_) ?_ ?_ ?_ ?_ ?_ ?_ ?_ ?_
      rotate_left 2
      · (simp only [List.getElem?_toArray, List.getElem?_cons_succ, List.getElem?_cons_zero]; exact rfl)
      · kernel_rfl
      · kernel_rfl
      · kernel_rfl
      · exact fun _ _ _ h => h
      · first | (refine Or.inl ⟨by rfl, ?_⟩; intro w hSw; (try dsimp only at hSw); go_simp; try with_reducible rfl) | (refine Or.inr ⟨by rfl, ?_⟩; rfl)
      · assumption
      try simp only [Act.put, List.setIfInBounds_toArray, List.set_cons_zero, List.set_cons_succ]
      refine wpAnyH_take (i := 7) (oi := ?_) (v := ?_) ?_ ?_ ?_ ?_ ?_ ?_ ?_ ?_
      rotate_left 2
      · (simp only [List.getElem?_toArray, List.getElem?_cons_succ, List.getElem?_cons_zero]; exact rfl)
      · kernel_rfl
      · kernel_rfl
      · kernel_rfl
      · exact fun _ _ _ h => h
      · first | (first | ((refine yieldsIf_load_mid ?_ 53 (.tmp 63) ?_ b 8 ?_ MC.toList _ ?_ HUL.out ?_ HMA.out) <;> first | rfl | exact fun w h => h.2) | (refine Or.inl ⟨by rfl, ?_⟩; intro w hSw; obtain ⟨hS1, hS2⟩ := hSw; go_simp; try with_reducible rfl)) | (refine Or.inr ⟨by rfl, ?_⟩; rfl)
      · assumption
      try simp only [Act.put, List.setIfInBounds_toArray, List.set_cons_zero, List.set_cons_succ]
      refine wpAnyH_ready (rs := [8]) (by kernel_rfl) (by simp) ?_
      refine AllReadyH.cons (o := ?_) ?_ (fun K hK => ?_) ?_
      rotate_left 1
      · (simp only [List.getElem?_toArray, List.getElem?_cons_succ, List.getElem?_cons_zero]; exact rfl)
      · go_simp
        (first | (go_at_call 52; (refine (KS2.out _ HDK.out).mono ?_); rintro e wx ⟨rfl, hx⟩; dsimp only))
        refine hK.out _ _ ?_ (fun hHeld => ?_)
        · (try dsimp only) <;> (first | exact ⟨(FC.out _ hx).c45, by rw [← HMC.out]; exact (FC.out _ hx).rg⟩)
        clear hK K
        try simp only [Act.put, List.setIfInBounds_toArray, List.set_cons_zero, List.set_cons_succ]
        refine wpAnyH_take (i := 9) (oi := ?_) (v := ?_) ?_ ?_ ?_ ?_ ?_ ?_ ?_ ?_
        rotate_left 2
        · (simp only [List.getElem?_toArray, List.getElem?_cons_succ, List.getElem?_cons_zero]; exact rfl)
        · kernel_rfl
        · kernel_rfl
        · kernel_rfl
        · exact fun _ _ _ h => h
        · first | (refine Or.inl ⟨by rfl, ?_⟩; intro w hSw; (try dsimp only at hSw); go_simp; try with_reducible rfl) | (refine Or.inr ⟨by rfl, ?_⟩; rfl)
        · assumption
        try simp only [Act.put, List.setIfInBounds_toArray, List.set_cons_zero, List.set_cons_succ]
        refine wpAnyH_take (i := 10) (oi := ?_) (v := ?_) ?_ ?_ ?_ ?_ ?_ ?_ ?_ ?_
        rotate_left 2
        · (simp only [List.getElem?_toArray, List.getElem?_cons_succ, List.getElem?_cons_zero]; exact rfl)
        · kernel_rfl
        · kernel_rfl
        · kernel_rfl
        · exact fun _ _ _ h => h
        · first | (refine Or.inl ⟨by rfl, ?_⟩; intro w hSw; (try dsimp only at hSw); go_simp; try with_reducible rfl) | (refine Or.inr ⟨by rfl, ?_⟩; rfl)
        · assumption
        try simp only [Act.put, List.setIfInBounds_toArray, List.set_cons_zero, List.set_cons_succ]
        refine wpAnyH_take (i := 11) (oi := ?_) (v := ?_) ?_ ?_ ?_ ?_ ?_ ?_ ?_ ?_
        rotate_left 2
        · (simp only [List.getElem?_toArray, List.getElem?_cons_succ, List.getElem?_cons_zero]; exact rfl)
        · kernel_rfl
        · kernel_rfl
        · kernel_rfl
        · exact fun _ _ _ h => h
        · first | (refine Or.inl ⟨by rfl, ?_⟩; intro w hSw; (try dsimp only at hSw); go_simp; try with_reducible rfl) | (refine Or.inr ⟨by rfl, ?_⟩; rfl)
        · assumption
        try simp only [Act.put, List.setIfInBounds_toArray, List.set_cons_zero, List.set_cons_succ]
        refine wpAnyH_take (i := 12) (oi := ?_) (v := ?_) ?_ ?_ ?_ ?_ ?_ ?_ ?_ ?_
        rotate_left 2
        · (simp only [List.getElem?_toArray, List.getElem?_cons_succ, List.getElem?_cons_zero]; exact rfl)
        · kernel_rfl
        · kernel_rfl
        · kernel_rfl
        · exact fun _ _ _ h => h
        · first | (refine Or.inl ⟨by rfl, ?_⟩; intro w hSw; (try dsimp only at hSw); go_simp; try with_reducible rfl) | (refine Or.inr ⟨by rfl, ?_⟩; rfl)
        · assumption
        try simp only [Act.put, List.setIfInBounds_toArray, List.set_cons_zero, List.set_cons_succ]
        refine wpAnyH_take (i := 13) (oi := ?_) (v := ?_) ?_ ?_ ?_ ?_ ?_ ?_ ?_ ?_
        rotate_left 2
        · (simp only [List.getElem?_toArray, List.getElem?_cons_succ, List.getElem?_cons_zero]; exact rfl)
        · kernel_rfl
        · kernel_rfl
        · kernel_rfl
        · exact fun _ _ _ h => h
        · first | (refine Or.inl ⟨by rfl, ?_⟩; intro w hSw; (try dsimp only at hSw); go_simp; try with_reducible rfl) | (refine Or.inr ⟨by rfl, ?_⟩; rfl)
        · assumption
        try simp only [Act.put, List.setIfInBounds_toArray, List.set_cons_zero, List.set_cons_succ]
        refine wpAnyH_done (by kernel_rfl) ?_ _
        have n7 := (FC.out _ hx).c7
        have HX := Lib.hid hx
        clear hx s0 HDK
        go_wp2_with fail
        go_meet
        exact ⟨by rw [EA.out], by rw [EK.out], HX.out⟩
      exact AllReadyH.nil
  case rest =>
    obtain ⟨rfl, rfl, hx⟩ := hcut
    clear f45
    have fk := FC.out _ hx
    have n0 := fk.c0
    have n1 := fk.c1
    have HX := Lib.hid hx
    clear fk hx HD KSP HA1 HA2
    go_wp2_with fail
    go_region_held3 (fun w' => w'.cell? ⟨b, 0, none⟩ = some (.pointer (some ⟨r, 0, none⟩)) ∧ w'.cell? ⟨b, 1, none⟩ = some (.string name)) (first | exact ⟨n0, n1⟩ | assumption)
      (first | (go_at_call 53; refine (KF.out _ (by first | exact HX.out.drew 1 | exact HX.out.drew _ | exact HX.out)).mono ?_; rintro e w5 ⟨u, rfl, h5⟩; have S5 : w5.cell? ⟨b, 0, none⟩ = some (.pointer (some ⟨r, 0, none⟩)) ∧ w5.cell? ⟨b, 1, none⟩ = some (.string name) := ⟨(FM.out _ _ h5).c0, (FM.out _ _ h5).c1⟩; have H5 := Lib.hid h5; clear h5))
    obtain ⟨A, c, L', hu, hrB, A1, c1, L1, hrf, hs⟩ := H5.out
    subst hu
    obtain ⟨J1, le1, s1, hp⟩ := row_freeze hrB (by omega) (St.keep [] hs (M := L' ++ (dcB b d :: ((r, .cells (rcells A0 nr c0 A1 q.fs.tail.length c1 (q.cnt + 1)) 90 (0, 0)) :: (L1 ++ (LO ++ (LI ++ F)))))) fun _ x => by simp only [List.count_append, List.count_cons, List.count_nil]; omega)
    have hfin2 := fun v A5 c5 L5 nx => HFIN.out J1 v A c A5 c5 L5 A1 c1 L1 nx le1 hp hrf
    have hmO : ∀ p ∈ LO, p ∈ ((r, Obj.cells (rcells A0 nr c0 A1 q.fs.tail.length c1 (q.cnt + 1)) 90 (0, 0)) :: (L1 ++ (LO ++ (LI ++ F)))) := fun p hp => by simp [hp]
    obtain ⟨PS, hPS⟩ : ∃ PS, d.ps ++ [(q.wants, (⟨A, c, B⟩ : Part))] = PS := ⟨_, rfl⟩
    have hpl : d.ps.length + 1 = PS.length := by rw [← hPS]; simp
    have hpa : pall d.ps ++ (#[.int .i64 q.wants, .slice A B.length c] : Array Value).toList = pall PS := by rw [← hPS]; simp [pall, pcell]
    rw [hPS] at hfin2
    obtain ⟨R0, hR0⟩ : ∃ R0, ((r, Obj.cells (rcells A0 nr c0 A1 q.fs.tail.length c1 (q.cnt + 1)) 90 (0, 0)) :: (L1 ++ (LO ++ (LI ++ F)))) = R0 := ⟨_, rfl⟩
    rw [hR0] at s1 hfin2 hmO
    have hone1 := pall_one [(q.wants, (⟨A, c, B⟩ : Part))]
    have hone : ∀ u ∈ (#[.int .i64 q.wants, .slice A B.length c] : Array Value).toList, u.oneCell' = true := by simpa [pall, pcell] using hone1
    have hsO : ∀ (v : World) (Y : List (Nat × Obj)), St W v J1 Y → (∀ p ∈ R0, p ∈ Y) → Src v 2 d.OA d.ps.length (pall d.ps) := fun v Y hv hm => HRO.out.src fun p hp => hv.own p (hm p (hmO p hp))
    have HS1 := Lib.hid s1; have HF2 := Lib.hid hfin2; have HPL := Lib.hid hpl; have HPA := Lib.hid hpa; have HO1 := Lib.hid hone; have HSO := Lib.hid hsO; have LE1 := Lib.hid le1
    clear H5 hrB hrf hs s1 hp hfin2 hmO hPS hpl hpa hR0 hone hone1 hsO le1 n0 n1 S5 HX KF HFIN FM
    go_wp2_with fail
    have h6 : St W _ J1 (dcB b d :: R0) := HS1.out
    generalize w5 = w6 at *
    have sx : ∀ (v : World) (G : List (Nat × Obj)), St W v J1 G → dcB b d ∈ G → (v.cell? ⟨b, 3, none⟩ = some (.slice d.OA d.ps.length d.oc) ∧ v.cell? ⟨b, 45, none⟩ = some (.int .i64 q.wants)) := fun v G hv hm => ⟨(FX.out _ _ _ LE1.out hv hm).c3, (FX.out _ _ _ LE1.out hv hm).c45⟩
    have sb : St W ((w6.alloc (.cells #[] 37)).alloc (.cells #[.int .i64 q.wants, .slice A B.length c] 37)) J1 ([(w6.heap.size, Obj.cells #[] 37 (0, 0))] ++ (dcB b d :: (w6.heap.size + 1, .cells #[.int .i64 q.wants, .slice A B.length c] 37 (0, 0)) :: R0)) := by
      have h := (h6.alloc (.cells #[] 37)).alloc (.cells #[.int .i64 q.wants, .slice A B.length c] 37)
      rw [World.size_alloc] at h
      exact h.perm (perm3b _ _ _ _)
    have sc : St W ((w6.alloc (.cells #[.int .i64 q.wants, .slice A B.length c] 37)).alloc (.cells #[] 37)) J1 ([(w6.heap.size + 1, Obj.cells #[] 37 (0, 0))] ++ (dcB b d :: (w6.heap.size, .cells #[.int .i64 q.wants, .slice A B.length c] 37 (0, 0)) :: R0)) := by
      have h := (h6.alloc (.cells #[.int .i64 q.wants, .slice A B.length c] 37)).alloc (.cells #[] 37)
      rw [World.size_alloc] at h
      exact h.perm (perm_tail _ _ _ _)
    have SX := Lib.hid sx; have SB := Lib.hid sb; have SC := Lib.hid sc
    clear sx sb sc
    refine wp_region_sink (S := fun v => v.cell? ⟨b, 3, none⟩ = some (.slice d.OA d.ps.length d.oc) ∧ v.cell? ⟨b, 45, none⟩ = some (.int .i64 q.wants)) 17 (by kernel_rfl) (by kernel_rfl) rfl (SX.out _ _ h6.drew1 (by simp)) (fun hHeld => ?_)
    dsimp only [List.take]
    refine wpAnyH_take (i := 0) (oi := ?_) (v := ?_) ?_ ?_ ?_ ?_ ?_ ?_ ?_ ?_
    rotate_left 2
    · (simp only [List.getElem?_toArray, List.getElem?_cons_succ, List.getElem?_cons_zero]; exact rfl)
    · kernel_rfl
    · kernel_rfl
    · kernel_rfl
    · exact fun _ _ _ h => h
    · first | (refine Or.inl ⟨by rfl, ?_⟩; intro w hSw; (try dsimp only at hSw); go_simp; try with_reducible rfl) | (refine Or.inr ⟨by rfl, ?_⟩; rfl)
    · assumption
    try simp only [Act.put, List.setIfInBounds_toArray, List.set_cons_zero, List.set_cons_succ]
    refine wpAnyH_take (i := 2) (oi := ?_) (v := ?_) ?_ ?_ ?_ ?_ ?_ ?_ ?_ ?_
    rotate_left 2
    · (simp only [List.getElem?_toArray, List.getElem?_cons_succ, List.getElem?_cons_zero]; exact rfl)
    · kernel_rfl
    · kernel_rfl
    · kernel_rfl
    · exact fun _ _ _ h => h
    · first | (refine Or.inl ⟨by rfl, ?_⟩; intro w hSw; (try dsimp only at hSw); go_simp; try with_reducible rfl) | (refine Or.inr ⟨by rfl, ?_⟩; rfl)
    · assumption
    try simp only [Act.put, List.setIfInBounds_toArray, List.set_cons_zero, List.set_cons_succ]
    refine wpAnyH_take (i := 3) (oi := ?_) (v := ?_) ?_ ?_ ?_ ?_ ?_ ?_ ?_ ?_
    rotate_left 2
    · (simp only [List.getElem?_toArray, List.getElem?_cons_succ, List.getElem?_cons_zero]; exact rfl)
    · kernel_rfl
    · kernel_rfl
    · kernel_rfl
    · exact fun _ _ _ h => h
    · first | (refine Or.inl ⟨by rfl, ?_⟩; intro w hSw; (try dsimp only at hSw); go_simp; try with_reducible rfl) | (refine Or.inr ⟨by rfl, ?_⟩; rfl)
    · assumption
    try simp only [Act.put, List.setIfInBounds_toArray, List.set_cons_zero, List.set_cons_succ]
    refine wpAnyH_take (i := 4) (oi := ?_) (v := ?_) ?_ ?_ ?_ ?_ ?_ ?_ ?_ ?_
    rotate_left 2
    · (simp only [List.getElem?_toArray, List.getElem?_cons_succ, List.getElem?_cons_zero]; exact rfl)
    · kernel_rfl
    · kernel_rfl
    · kernel_rfl
    · exact fun _ _ _ h => h
    · first | (refine Or.inl ⟨by rfl, ?_⟩; intro w hSw; (try dsimp only at hSw); go_simp; try with_reducible rfl) | (refine Or.inr ⟨by rfl, ?_⟩; rfl)
    · assumption
    try simp only [Act.put, List.setIfInBounds_toArray, List.set_cons_zero, List.set_cons_succ]
    refine wpAnyH_take (i := 5) (oi := ?_) (v := ?_) ?_ ?_ ?_ ?_ ?_ ?_ ?_ ?_
    rotate_left 2
    · (simp only [List.getElem?_toArray, List.getElem?_cons_succ, List.getElem?_cons_zero]; exact rfl)
    · kernel_rfl
    · kernel_rfl
    · kernel_rfl
    · exact fun _ _ _ h => h
    · first | ((refine Or.inl ⟨by rfl, ?_⟩; intro w hSw; obtain ⟨hS1, hS2⟩ := hSw; go_simp; try with_reducible rfl)) | (refine Or.inr ⟨by rfl, ?_⟩; rfl)
    · assumption
    try simp only [Act.put, List.setIfInBounds_toArray, List.set_cons_zero, List.set_cons_succ]
    refine wpAnyH_take (i := 7) (oi := ?_) (v := ?_) ?_ ?_ ?_ ?_ ?_ ?_ ?_ ?_
    rotate_left 2
    · (simp only [List.getElem?_toArray, List.getElem?_cons_succ, List.getElem?_cons_zero]; exact rfl)
    · kernel_rfl
    · kernel_rfl
    · kernel_rfl
    · exact fun _ _ _ h => h
    · first | (refine Or.inl ⟨by rfl, ?_⟩; intro w hSw; (try dsimp only at hSw); go_simp; try with_reducible rfl) | (refine Or.inr ⟨by rfl, ?_⟩; rfl)
    · assumption
    try simp only [Act.put, List.setIfInBounds_toArray, List.set_cons_zero, List.set_cons_succ]
    refine wpAnyH_take (i := 8) (oi := ?_) (v := ?_) ?_ ?_ ?_ ?_ ?_ ?_ ?_ ?_
    rotate_left 2
    · (simp only [List.getElem?_toArray, List.getElem?_cons_succ, List.getElem?_cons_zero]; exact rfl)
    · kernel_rfl
    · kernel_rfl
    · kernel_rfl
    · exact fun _ _ _ h => h
    · first | (refine Or.inl ⟨by rfl, ?_⟩; intro w hSw; (try dsimp only at hSw); go_simp; try with_reducible rfl) | (refine Or.inr ⟨by rfl, ?_⟩; rfl)
    · assumption
    try simp only [Act.put, List.setIfInBounds_toArray, List.set_cons_zero, List.set_cons_succ]
    refine wpAnyH_take (i := 9) (oi := ?_) (v := ?_) ?_ ?_ ?_ ?_ ?_ ?_ ?_ ?_
    rotate_left 2
    · (simp only [List.getElem?_toArray, List.getElem?_cons_succ, List.getElem?_cons_zero]; exact rfl)
    · kernel_rfl
    · kernel_rfl
    · kernel_rfl
    · exact fun _ _ _ h => h
    · first | (refine Or.inl ⟨by rfl, ?_⟩; intro w hSw; (try dsimp only at hSw); go_simp; try with_reducible rfl) | (refine Or.inr ⟨by rfl, ?_⟩; rfl)
    · assumption
    try simp only [Act.put, List.setIfInBounds_toArray, List.set_cons_zero, List.set_cons_succ]
    refine wpAnyH_take (i := 10) (oi := ?_) (v := ?_) ?_ ?_ ?_ ?_ ?_ ?_ ?_ ?_
    rotate_left 2
    · (simp only [List.getElem?_toArray, List.getElem?_cons_succ, List.getElem?_cons_zero]; exact rfl)
    · kernel_rfl
    · kernel_rfl
    · kernel_rfl
    · exact fun _ _ _ h => h
    · first | ((refine Or.inl ⟨by rfl, ?_⟩; intro w hSw; obtain ⟨hS1, hS2⟩ := hSw; go_simp; try with_reducible rfl)) | (refine Or.inr ⟨by rfl, ?_⟩; rfl)
    · assumption
    try simp only [Act.put, List.setIfInBounds_toArray, List.set_cons_zero, List.set_cons_succ]
    refine wpAnyH_take (i := 11) (oi := ?_) (v := ?_) ?_ ?_ ?_ ?_ ?_ ?_ ?_ ?_
    rotate_left 2
    · (simp only [List.getElem?_toArray, List.getElem?_cons_succ, List.getElem?_cons_zero]; exact rfl)
    · kernel_rfl
    · kernel_rfl
    · kernel_rfl
    · exact fun _ _ _ h => h
    · first | (refine Or.inl ⟨by rfl, ?_⟩; intro w hSw; (try dsimp only at hSw); go_simp; try with_reducible rfl) | (refine Or.inr ⟨by rfl, ?_⟩; rfl)
    · assumption
    try simp only [Act.put, List.setIfInBounds_toArray, List.set_cons_zero, List.set_cons_succ]
    refine wpAnyH_take (i := 12) (oi := ?_) (v := ?_) ?_ ?_ ?_ ?_ ?_ ?_ ?_ ?_
    rotate_left 2
    · (simp only [List.getElem?_toArray, List.getElem?_cons_succ, List.getElem?_cons_zero]; exact rfl)
    · kernel_rfl
    · kernel_rfl
    · kernel_rfl
    · exact fun _ _ _ h => h
    · first | (refine Or.inl ⟨by rfl, ?_⟩; intro w hSw; (try dsimp only at hSw); go_simp; try with_reducible rfl) | (refine Or.inr ⟨by rfl, ?_⟩; rfl)
    · assumption
    try simp only [Act.put, List.setIfInBounds_toArray, List.set_cons_zero, List.set_cons_succ]
    refine wpAnyH_ready (rs := [1, 13]) (by kernel_rfl) (by simp) ?_
    refine AllReadyH.cons (o := ?_) ?_ (fun K hK => ?_) ?_
    rotate_left 1
    · (simp only [List.getElem?_toArray, List.getElem?_cons_succ, List.getElem?_cons_zero]; exact rfl)
    · go_simp
      refine hK.out _ _ ?_ (fun hHeld => ?_)
      · (try dsimp only) <;> (first | exact SX.out _ _ h5 (by simp) | exact SX.out _ _ h4 (by simp) | exact SX.out _ _ (St.alloc_ h4 _) (by simp) | exact SX.out _ _ (h6.alloc _).drew1 (by simp) | exact SX.out _ _ ((h6.alloc _).alloc _).drew1 (by simp))
      clear hK K
      try simp only [Act.put, List.setIfInBounds_toArray, List.set_cons_zero, List.set_cons_succ]
      refine wpAnyH_ready (rs := [6, 13]) (by kernel_rfl) (by simp) ?_
      refine AllReadyH.cons (o := ?_) ?_ (fun K hK => ?_) ?_
      rotate_left 1
      · (simp only [List.getElem?_toArray, List.getElem?_cons_succ, List.getElem?_cons_zero]; exact rfl)
      · ((first | (refine step_append_row (F := dcB b d :: R0) (L := [(w6.heap.size, Obj.cells #[] 37 (0, 0))]) rfl (.tmp 103) (.tmp 107) 85 rfl 37 (.agg #[.int .i64 0, .slice none 0 0]) 2 32 Tryd.underlying85 piece_sized rfl (by omega) rfl (Row.empty 37 2 _) ((h6.alloc (.cells #[] 37)).drew1) rfl (HSO.out _ _ ((h6.alloc (.cells #[] 37)).drew1) (fun p hp => by simp [hp])) (pall_one _) d.ps.length (Nat.zero_add _) (pall d.ps) rfl (by unfold maxLen; omega) (by omega) ?_; intro A4 c4 w4 L4 hr4 h4; dsimp only) | (refine step_append_row (F := dcB b d :: (w6.heap.size + 1, .cells #[.int .i64 q.wants, .slice A B.length c] 37 (0, 0)) :: R0) (L := [(w6.heap.size, Obj.cells #[] 37 (0, 0))]) rfl (.tmp 103) (.tmp 107) 85 rfl 37 (.agg #[.int .i64 0, .slice none 0 0]) 2 32 Tryd.underlying85 piece_sized rfl (by omega) rfl (Row.empty 37 2 _) ((SB.out).drew1) rfl (HSO.out _ _ ((SB.out).drew1) (fun p hp => by simp [hp])) (pall_one _) d.ps.length (Nat.zero_add _) (pall d.ps) rfl (by unfold maxLen; omega) (by omega) ?_; intro A4 c4 w4 L4 hr4 h4; dsimp only) | (refine step_append_row (F := dcB b d :: (w6.heap.size, .cells #[.int .i64 q.wants, .slice A B.length c] 37 (0, 0)) :: R0) (L := [(w6.heap.size + 1, Obj.cells #[] 37 (0, 0))]) rfl (.tmp 103) (.tmp 107) 85 rfl 37 (.agg #[.int .i64 0, .slice none 0 0]) 2 32 Tryd.underlying85 piece_sized rfl (by omega) rfl (Row.empty 37 2 _) ((SC.out).drew1) rfl (HSO.out _ _ ((SC.out).drew1) (fun p hp => by simp [hp])) (pall_one _) d.ps.length (Nat.zero_add _) (pall d.ps) rfl (by unfold maxLen; omega) (by omega) ?_; intro A4 c4 w4 L4 hr4 h4; dsimp only) | (refine step_append_row (F := dcB b d :: R0) rfl (.tmp 108) (.tmp 115) 85 rfl 37 (.agg #[.int .i64 0, .slice none 0 0]) 2 32 Tryd.underlying85 piece_sized rfl (by omega) rfl hr4 ((St.alloc_ h4 _)) rfl (St.srcP rfl (h4.alloc (.cells #[.int .i64 q.wants, .slice A B.length c] 37)) (List.mem_cons_self ..)) HO1.out PS.length HPL.out (pall PS) HPA.out (by rw [← HPL.out]; unfold maxLen; omega) (by rw [← HPL.out]; omega) ?_; intro A5 c5 w5 L5 hr5 h5; dsimp only) | (refine step_append_row (F := dcB b d :: (w6.heap.size + 1, .cells #[.int .i64 q.wants, .slice A B.length c] 37 (0, 0)) :: R0) rfl (.tmp 108) (.tmp 115) 85 rfl 37 (.agg #[.int .i64 0, .slice none 0 0]) 2 32 Tryd.underlying85 piece_sized rfl (by omega) rfl hr4 (h4) rfl (St.srcP rfl h4 (by simp)) HO1.out PS.length HPL.out (pall PS) HPA.out (by rw [← HPL.out]; unfold maxLen; omega) (by rw [← HPL.out]; omega) ?_; intro A5 c5 w5 L5 hr5 h5; dsimp only) | (refine step_append_row (F := dcB b d :: (w6.heap.size, .cells #[.int .i64 q.wants, .slice A B.length c] 37 (0, 0)) :: R0) rfl (.tmp 108) (.tmp 115) 85 rfl 37 (.agg #[.int .i64 0, .slice none 0 0]) 2 32 Tryd.underlying85 piece_sized rfl (by omega) rfl hr4 (h4) rfl (St.srcP rfl h4 (by simp)) HO1.out PS.length HPL.out (pall PS) HPA.out (by rw [← HPL.out]; unfold maxLen; omega) (by rw [← HPL.out]; omega) ?_; intro A5 c5 w5 L5 hr5 h5; dsimp only)))
        refine hK.out _ _ ?_ (fun hHeld => ?_)
        · (try dsimp only) <;> (first | exact SX.out _ _ h5 (by simp) | exact SX.out _ _ h4 (by simp) | exact SX.out _ _ (St.alloc_ h4 _) (by simp) | exact SX.out _ _ (h6.alloc _).drew1 (by simp) | exact SX.out _ _ ((h6.alloc _).alloc _).drew1 (by simp))
        clear hK K
        try simp only [Act.put, List.setIfInBounds_toArray, List.set_cons_zero, List.set_cons_succ]
        refine wpAnyH_ready (rs := [13]) (by kernel_rfl) (by simp) ?_
        refine AllReadyH.cons (o := ?_) ?_ (fun K hK => ?_) ?_
        rotate_left 1
        · (simp only [List.getElem?_toArray, List.getElem?_cons_succ, List.getElem?_cons_zero]; exact rfl)
        · go_simp
          refine hK.out _ _ ?_ (fun hHeld => ?_)
          · (try dsimp only) <;> (first | exact SX.out _ _ h5 (by simp) | exact SX.out _ _ h4 (by simp) | exact SX.out _ _ (St.alloc_ h4 _) (by simp) | exact SX.out _ _ (h6.alloc _).drew1 (by simp) | exact SX.out _ _ ((h6.alloc _).alloc _).drew1 (by simp))
          clear hK K
          try simp only [Act.put, List.setIfInBounds_toArray, List.set_cons_zero, List.set_cons_succ]
          refine wpAnyH_ready (rs := [14]) (by kernel_rfl) (by simp) ?_
          refine AllReadyH.cons (o := ?_) ?_ (fun K hK => ?_) ?_
          rotate_left 1
          · (simp only [List.getElem?_toArray, List.getElem?_cons_succ, List.getElem?_cons_zero]; exact rfl)
          · ((first | (refine step_append_row (F := dcB b d :: R0) (L := [(w6.heap.size, Obj.cells #[] 37 (0, 0))]) rfl (.tmp 103) (.tmp 107) 85 rfl 37 (.agg #[.int .i64 0, .slice none 0 0]) 2 32 Tryd.underlying85 piece_sized rfl (by omega) rfl (Row.empty 37 2 _) ((h6.alloc (.cells #[] 37)).drew1) rfl (HSO.out _ _ ((h6.alloc (.cells #[] 37)).drew1) (fun p hp => by simp [hp])) (pall_one _) d.ps.length (Nat.zero_add _) (pall d.ps) rfl (by unfold maxLen; omega) (by omega) ?_; intro A4 c4 w4 L4 hr4 h4; dsimp only) | (refine step_append_row (F := dcB b d :: (w6.heap.size + 1, .cells #[.int .i64 q.wants, .slice A B.length c] 37 (0, 0)) :: R0) (L := [(w6.heap.size, Obj.cells #[] 37 (0, 0))]) rfl (.tmp 103) (.tmp 107) 85 rfl 37 (.agg #[.int .i64 0, .slice none 0 0]) 2 32 Tryd.underlying85 piece_sized rfl (by omega) rfl (Row.empty 37 2 _) ((SB.out).drew1) rfl (HSO.out _ _ ((SB.out).drew1) (fun p hp => by simp [hp])) (pall_one _) d.ps.length (Nat.zero_add _) (pall d.ps) rfl (by unfold maxLen; omega) (by omega) ?_; intro A4 c4 w4 L4 hr4 h4; dsimp only) | (refine step_append_row (F := dcB b d :: (w6.heap.size, .cells #[.int .i64 q.wants, .slice A B.length c] 37 (0, 0)) :: R0) (L := [(w6.heap.size + 1, Obj.cells #[] 37 (0, 0))]) rfl (.tmp 103) (.tmp 107) 85 rfl 37 (.agg #[.int .i64 0, .slice none 0 0]) 2 32 Tryd.underlying85 piece_sized rfl (by omega) rfl (Row.empty 37 2 _) ((SC.out).drew1) rfl (HSO.out _ _ ((SC.out).drew1) (fun p hp => by simp [hp])) (pall_one _) d.ps.length (Nat.zero_add _) (pall d.ps) rfl (by unfold maxLen; omega) (by omega) ?_; intro A4 c4 w4 L4 hr4 h4; dsimp only) | (refine step_append_row (F := dcB b d :: R0) rfl (.tmp 108) (.tmp 115) 85 rfl 37 (.agg #[.int .i64 0, .slice none 0 0]) 2 32 Tryd.underlying85 piece_sized rfl (by omega) rfl hr4 ((St.alloc_ h4 _)) rfl (St.srcP rfl (h4.alloc (.cells #[.int .i64 q.wants, .slice A B.length c] 37)) (List.mem_cons_self ..)) HO1.out PS.length HPL.out (pall PS) HPA.out (by rw [← HPL.out]; unfold maxLen; omega) (by rw [← HPL.out]; omega) ?_; intro A5 c5 w5 L5 hr5 h5; dsimp only) | (refine step_append_row (F := dcB b d :: (w6.heap.size + 1, .cells #[.int .i64 q.wants, .slice A B.length c] 37 (0, 0)) :: R0) rfl (.tmp 108) (.tmp 115) 85 rfl 37 (.agg #[.int .i64 0, .slice none 0 0]) 2 32 Tryd.underlying85 piece_sized rfl (by omega) rfl hr4 (h4) rfl (St.srcP rfl h4 (by simp)) HO1.out PS.length HPL.out (pall PS) HPA.out (by rw [← HPL.out]; unfold maxLen; omega) (by rw [← HPL.out]; omega) ?_; intro A5 c5 w5 L5 hr5 h5; dsimp only) | (refine step_append_row (F := dcB b d :: (w6.heap.size, .cells #[.int .i64 q.wants, .slice A B.length c] 37 (0, 0)) :: R0) rfl (.tmp 108) (.tmp 115) 85 rfl 37 (.agg #[.int .i64 0, .slice none 0 0]) 2 32 Tryd.underlying85 piece_sized rfl (by omega) rfl hr4 (h4) rfl (St.srcP rfl h4 (by simp)) HO1.out PS.length HPL.out (pall PS) HPA.out (by rw [← HPL.out]; unfold maxLen; omega) (by rw [← HPL.out]; omega) ?_; intro A5 c5 w5 L5 hr5 h5; dsimp only)))
            refine hK.out _ _ ?_ (fun hHeld => ?_)
            · (try dsimp only) <;> (first | exact SX.out _ _ h5 (by simp) | exact SX.out _ _ h4 (by simp) | exact SX.out _ _ (St.alloc_ h4 _) (by simp) | exact SX.out _ _ (h6.alloc _).drew1 (by simp) | exact SX.out _ _ ((h6.alloc _).alloc _).drew1 (by simp))
            clear hK K
            try simp only [Act.put, List.setIfInBounds_toArray, List.set_cons_zero, List.set_cons_succ]
            refine wpAnyH_take (i := 15) (oi := ?_) (v := ?_) ?_ ?_ ?_ ?_ ?_ ?_ ?_ ?_
            rotate_left 2
            · (simp only [List.getElem?_toArray, List.getElem?_cons_succ, List.getElem?_cons_zero]; exact rfl)
            · kernel_rfl
            · kernel_rfl
            · kernel_rfl
            · exact fun _ _ _ h => h
            · first | (refine Or.inl ⟨by rfl, ?_⟩; intro w hSw; (try dsimp only at hSw); go_simp; try with_reducible rfl) | (refine Or.inr ⟨by rfl, ?_⟩; rfl)
            · assumption
            try simp only [Act.put, List.setIfInBounds_toArray, List.set_cons_zero, List.set_cons_succ]
            refine wpAnyH_take (i := 16) (oi := ?_) (v := ?_) ?_ ?_ ?_ ?_ ?_ ?_ ?_ ?_
            rotate_left 2
            · (simp only [List.getElem?_toArray, List.getElem?_cons_succ, List.getElem?_cons_zero]; exact rfl)
            · kernel_rfl
            · kernel_rfl
            · kernel_rfl
            · exact fun _ _ _ h => h
            · first | (refine Or.inl ⟨by rfl, ?_⟩; intro w hSw; (try dsimp only at hSw); go_simp; try with_reducible rfl) | (refine Or.inr ⟨by rfl, ?_⟩; rfl)
            · assumption
            try simp only [Act.put, List.setIfInBounds_toArray, List.set_cons_zero, List.set_cons_succ]
            refine wpAnyH_done (by kernel_rfl) ?_ _
            obtain ⟨e5, f5⟩ : w5.cell? ⟨b, 3, none⟩ = some (.slice d.OA d.ps.length d.oc) ∧ w5.frozen? ⟨b, 3, none⟩ = false := ⟨(SX.out _ _ h5 (by simp)).1, h5.frozen (g := b) (t := 87) (cs := d.cells) (by simp) 3⟩
            have h7 := St.set (A := L5) h5 3 (.slice A5 PS.length c5)
            rw [Dc.s3] at h7
            have h8 := h7.perm List.perm_middle
            have h9 : St W (w5.setCell ⟨b, 3, none⟩ (.slice A5 PS.length c5)) J1 (dcB b { d with OA := A5, oc := c5, ps := PS } :: (L5 ++ R0)) := by
              first
                | exact h8
                | exact St.mid (A := dcB b { d with OA := A5, oc := c5, ps := PS } :: L5) (B := [_]) h8
            have p44 := (FX.out _ _ _ LE1.out h5 (by simp)).c44
            have p45 := (FX.out _ _ _ LE1.out h5 (by simp)).c45
            have f45 : w5.frozen? ⟨b, 45, none⟩ = false := h5.frozen (g := b) (t := 87) (cs := d.cells) (by simp) 45
            have H9 := Lib.hid h9; have HR5 := Lib.hid hr5
            clear h4 h5 h6 h7 h8 h9 hr4 hr5 SX SB SC HSO HO1 HPA HPL
            show wpList _ _ _ [_] _ _
            by_cases hw1 : q.wants = -1
            · have g1 : (q.wants == -1) = true := by simpa using hw1
              have hn := HNX.out.1 hw1
              have h10 := fun k => St.set (A := []) (H9.out.drew k) 45 (.int .i64 (-2))
              simp only [Dc.s45 (d := { d with OA := A5, oc := c5, ps := PS }) (by exact hmok)] at h10
              have H10 := Lib.hid (fun k => HF2.out _ A5 c5 L5 (-2) HR5.out hn (h10 k))
              clear hw1 hn h10 H9
              go_wp2_with fail
              go_quiet (fail)
              go_wp2_with fail
              go_ret
              exact H10.out _
            · have g1 : (q.wants == -1) = false := by simpa using hw1
              obtain ⟨hn, y0, y1, y2⟩ := HNX.out.2 hw1
              by_cases hz : q.wants + 1 = d.m.n
              · have g2 : (q.wants == (d.m.n : Int) - 1) = true := by simp; omega
                rw [if_pos hz] at hn
                have h10 := fun k => St.set (A := []) (H9.out.drew k) 45 (.int .i64 (-2))
                simp only [Dc.s45 (d := { d with OA := A5, oc := c5, ps := PS }) (by exact hmok)] at h10
                have H10 := Lib.hid (fun k => HF2.out _ A5 c5 L5 (-2) HR5.out hn (h10 k))
                clear hw1 hn h10 H9 hz
                go_wp2_with fail
                go_quiet (fail)
                go_wp2_with fail
                go_ret
                exact H10.out _
              · have g2 : (q.wants == (d.m.n : Int) - 1) = false := by simp; omega
                rw [if_neg hz] at hn
                have h10 := fun k => St.set (A := []) (H9.out.drew k) 45 (.int .i64 (q.wants + 1))
                simp only [Dc.s45 (d := { d with OA := A5, oc := c5, ps := PS }) (by exact hmok)] at h10
                have H10 := Lib.hid (fun k => HF2.out _ A5 c5 L5 (q.wants + 1) HR5.out hn (h10 k))
                clear hw1 hn h10 H9 hz
                go_wp2_with fail
                go_quiet (fail)
                go_wp2_with fail
                go_ret
                exact H10.out _
          exact AllReadyH.nil
        exact AllReadyH.nil
      refine AllReadyH.cons (o := ?_) ?_ (fun K hK => ?_) ?_
      rotate_left 1
      · (simp only [List.getElem?_toArray, List.getElem?_cons_succ, List.getElem?_cons_zero]; exact rfl)
      · go_simp
        refine hK.out _ _ ?_ (fun hHeld => ?_)
        · (try dsimp only) <;> (first | exact SX.out _ _ h5 (by simp) | exact SX.out _ _ h4 (by simp) | exact SX.out _ _ (St.alloc_ h4 _) (by simp) | exact SX.out _ _ (h6.alloc _).drew1 (by simp) | exact SX.out _ _ ((h6.alloc _).alloc _).drew1 (by simp))
        clear hK K
        try simp only [Act.put, List.setIfInBounds_toArray, List.set_cons_zero, List.set_cons_succ]
        refine wpAnyH_ready (rs := [6]) (by kernel_rfl) (by simp) ?_
        refine AllReadyH.cons (o := ?_) ?_ (fun K hK => ?_) ?_
        rotate_left 1
        · (simp only [List.getElem?_toArray, List.getElem?_cons_succ, List.getElem?_cons_zero]; exact rfl)
        · ((first | (refine step_append_row (F := dcB b d :: R0) (L := [(w6.heap.size, Obj.cells #[] 37 (0, 0))]) rfl (.tmp 103) (.tmp 107) 85 rfl 37 (.agg #[.int .i64 0, .slice none 0 0]) 2 32 Tryd.underlying85 piece_sized rfl (by omega) rfl (Row.empty 37 2 _) ((h6.alloc (.cells #[] 37)).drew1) rfl (HSO.out _ _ ((h6.alloc (.cells #[] 37)).drew1) (fun p hp => by simp [hp])) (pall_one _) d.ps.length (Nat.zero_add _) (pall d.ps) rfl (by unfold maxLen; omega) (by omega) ?_; intro A4 c4 w4 L4 hr4 h4; dsimp only) | (refine step_append_row (F := dcB b d :: (w6.heap.size + 1, .cells #[.int .i64 q.wants, .slice A B.length c] 37 (0, 0)) :: R0) (L := [(w6.heap.size, Obj.cells #[] 37 (0, 0))]) rfl (.tmp 103) (.tmp 107) 85 rfl 37 (.agg #[.int .i64 0, .slice none 0 0]) 2 32 Tryd.underlying85 piece_sized rfl (by omega) rfl (Row.empty 37 2 _) ((SB.out).drew1) rfl (HSO.out _ _ ((SB.out).drew1) (fun p hp => by simp [hp])) (pall_one _) d.ps.length (Nat.zero_add _) (pall d.ps) rfl (by unfold maxLen; omega) (by omega) ?_; intro A4 c4 w4 L4 hr4 h4; dsimp only) | (refine step_append_row (F := dcB b d :: (w6.heap.size, .cells #[.int .i64 q.wants, .slice A B.length c] 37 (0, 0)) :: R0) (L := [(w6.heap.size + 1, Obj.cells #[] 37 (0, 0))]) rfl (.tmp 103) (.tmp 107) 85 rfl 37 (.agg #[.int .i64 0, .slice none 0 0]) 2 32 Tryd.underlying85 piece_sized rfl (by omega) rfl (Row.empty 37 2 _) ((SC.out).drew1) rfl (HSO.out _ _ ((SC.out).drew1) (fun p hp => by simp [hp])) (pall_one _) d.ps.length (Nat.zero_add _) (pall d.ps) rfl (by unfold maxLen; omega) (by omega) ?_; intro A4 c4 w4 L4 hr4 h4; dsimp only) | (refine step_append_row (F := dcB b d :: R0) rfl (.tmp 108) (.tmp 115) 85 rfl 37 (.agg #[.int .i64 0, .slice none 0 0]) 2 32 Tryd.underlying85 piece_sized rfl (by omega) rfl hr4 ((St.alloc_ h4 _)) rfl (St.srcP rfl (h4.alloc (.cells #[.int .i64 q.wants, .slice A B.length c] 37)) (List.mem_cons_self ..)) HO1.out PS.length HPL.out (pall PS) HPA.out (by rw [← HPL.out]; unfold maxLen; omega) (by rw [← HPL.out]; omega) ?_; intro A5 c5 w5 L5 hr5 h5; dsimp only) | (refine step_append_row (F := dcB b d :: (w6.heap.size + 1, .cells #[.int .i64 q.wants, .slice A B.length c] 37 (0, 0)) :: R0) rfl (.tmp 108) (.tmp 115) 85 rfl 37 (.agg #[.int .i64 0, .slice none 0 0]) 2 32 Tryd.underlying85 piece_sized rfl (by omega) rfl hr4 (h4) rfl (St.srcP rfl h4 (by simp)) HO1.out PS.length HPL.out (pall PS) HPA.out (by rw [← HPL.out]; unfold maxLen; omega) (by rw [← HPL.out]; omega) ?_; intro A5 c5 w5 L5 hr5 h5; dsimp only) | (refine step_append_row (F := dcB b d :: (w6.heap.size, .cells #[.int .i64 q.wants, .slice A B.length c] 37 (0, 0)) :: R0) rfl (.tmp 108) (.tmp 115) 85 rfl 37 (.agg #[.int .i64 0, .slice none 0 0]) 2 32 Tryd.underlying85 piece_sized rfl (by omega) rfl hr4 (h4) rfl (St.srcP rfl h4 (by simp)) HO1.out PS.length HPL.out (pall PS) HPA.out (by rw [← HPL.out]; unfold maxLen; omega) (by rw [← HPL.out]; omega) ?_; intro A5 c5 w5 L5 hr5 h5; dsimp only)))
          refine hK.out _ _ ?_ (fun hHeld => ?_)
          · (try dsimp only) <;> (first | exact SX.out _ _ h5 (by simp) | exact SX.out _ _ h4 (by simp) | exact SX.out _ _ (St.alloc_ h4 _) (by simp) | exact SX.out _ _ (h6.alloc _).drew1 (by simp) | exact SX.out _ _ ((h6.alloc _).alloc _).drew1 (by simp))
          clear hK K
          try simp only [Act.put, List.setIfInBounds_toArray, List.set_cons_zero, List.set_cons_succ]
          refine wpAnyH_ready (rs := [14]) (by kernel_rfl) (by simp) ?_
          refine AllReadyH.cons (o := ?_) ?_ (fun K hK => ?_) ?_
          rotate_left 1
          · (simp only [List.getElem?_toArray, List.getElem?_cons_succ, List.getElem?_cons_zero]; exact rfl)
          · ((first | (refine step_append_row (F := dcB b d :: R0) (L := [(w6.heap.size, Obj.cells #[] 37 (0, 0))]) rfl (.tmp 103) (.tmp 107) 85 rfl 37 (.agg #[.int .i64 0, .slice none 0 0]) 2 32 Tryd.underlying85 piece_sized rfl (by omega) rfl (Row.empty 37 2 _) ((h6.alloc (.cells #[] 37)).drew1) rfl (HSO.out _ _ ((h6.alloc (.cells #[] 37)).drew1) (fun p hp => by simp [hp])) (pall_one _) d.ps.length (Nat.zero_add _) (pall d.ps) rfl (by unfold maxLen; omega) (by omega) ?_; intro A4 c4 w4 L4 hr4 h4; dsimp only) | (refine step_append_row (F := dcB b d :: (w6.heap.size + 1, .cells #[.int .i64 q.wants, .slice A B.length c] 37 (0, 0)) :: R0) (L := [(w6.heap.size, Obj.cells #[] 37 (0, 0))]) rfl (.tmp 103) (.tmp 107) 85 rfl 37 (.agg #[.int .i64 0, .slice none 0 0]) 2 32 Tryd.underlying85 piece_sized rfl (by omega) rfl (Row.empty 37 2 _) ((SB.out).drew1) rfl (HSO.out _ _ ((SB.out).drew1) (fun p hp => by simp [hp])) (pall_one _) d.ps.length (Nat.zero_add _) (pall d.ps) rfl (by unfold maxLen; omega) (by omega) ?_; intro A4 c4 w4 L4 hr4 h4; dsimp only) | (refine step_append_row (F := dcB b d :: (w6.heap.size, .cells #[.int .i64 q.wants, .slice A B.length c] 37 (0, 0)) :: R0) (L := [(w6.heap.size + 1, Obj.cells #[] 37 (0, 0))]) rfl (.tmp 103) (.tmp 107) 85 rfl 37 (.agg #[.int .i64 0, .slice none 0 0]) 2 32 Tryd.underlying85 piece_sized rfl (by omega) rfl (Row.empty 37 2 _) ((SC.out).drew1) rfl (HSO.out _ _ ((SC.out).drew1) (fun p hp => by simp [hp])) (pall_one _) d.ps.length (Nat.zero_add _) (pall d.ps) rfl (by unfold maxLen; omega) (by omega) ?_; intro A4 c4 w4 L4 hr4 h4; dsimp only) | (refine step_append_row (F := dcB b d :: R0) rfl (.tmp 108) (.tmp 115) 85 rfl 37 (.agg #[.int .i64 0, .slice none 0 0]) 2 32 Tryd.underlying85 piece_sized rfl (by omega) rfl hr4 ((St.alloc_ h4 _)) rfl (St.srcP rfl (h4.alloc (.cells #[.int .i64 q.wants, .slice A B.length c] 37)) (List.mem_cons_self ..)) HO1.out PS.length HPL.out (pall PS) HPA.out (by rw [← HPL.out]; unfold maxLen; omega) (by rw [← HPL.out]; omega) ?_; intro A5 c5 w5 L5 hr5 h5; dsimp only) | (refine step_append_row (F := dcB b d :: (w6.heap.size + 1, .cells #[.int .i64 q.wants, .slice A B.length c] 37 (0, 0)) :: R0) rfl (.tmp 108) (.tmp 115) 85 rfl 37 (.agg #[.int .i64 0, .slice none 0 0]) 2 32 Tryd.underlying85 piece_sized rfl (by omega) rfl hr4 (h4) rfl (St.srcP rfl h4 (by simp)) HO1.out PS.length HPL.out (pall PS) HPA.out (by rw [← HPL.out]; unfold maxLen; omega) (by rw [← HPL.out]; omega) ?_; intro A5 c5 w5 L5 hr5 h5; dsimp only) | (refine step_append_row (F := dcB b d :: (w6.heap.size, .cells #[.int .i64 q.wants, .slice A B.length c] 37 (0, 0)) :: R0) rfl (.tmp 108) (.tmp 115) 85 rfl 37 (.agg #[.int .i64 0, .slice none 0 0]) 2 32 Tryd.underlying85 piece_sized rfl (by omega) rfl hr4 (h4) rfl (St.srcP rfl h4 (by simp)) HO1.out PS.length HPL.out (pall PS) HPA.out (by rw [← HPL.out]; unfold maxLen; omega) (by rw [← HPL.out]; omega) ?_; intro A5 c5 w5 L5 hr5 h5; dsimp only)))
            refine hK.out _ _ ?_ (fun hHeld => ?_)
            · (try dsimp only) <;> (first | exact SX.out _ _ h5 (by simp) | exact SX.out _ _ h4 (by simp) | exact SX.out _ _ (St.alloc_ h4 _) (by simp) | exact SX.out _ _ (h6.alloc _).drew1 (by simp) | exact SX.out _ _ ((h6.alloc _).alloc _).drew1 (by simp))
            clear hK K
            try simp only [Act.put, List.setIfInBounds_toArray, List.set_cons_zero, List.set_cons_succ]
            refine wpAnyH_take (i := 15) (oi := ?_) (v := ?_) ?_ ?_ ?_ ?_ ?_ ?_ ?_ ?_
            rotate_left 2
            · (simp only [List.getElem?_toArray, List.getElem?_cons_succ, List.getElem?_cons_zero]; exact rfl)
            · kernel_rfl
            · kernel_rfl
            · kernel_rfl
            · exact fun _ _ _ h => h
            · first | (refine Or.inl ⟨by rfl, ?_⟩; intro w hSw; (try dsimp only at hSw); go_simp; try with_reducible rfl) | (refine Or.inr ⟨by rfl, ?_⟩; rfl)
            · assumption
            try simp only [Act.put, List.setIfInBounds_toArray, List.set_cons_zero, List.set_cons_succ]
            refine wpAnyH_take (i := 16) (oi := ?_) (v := ?_) ?_ ?_ ?_ ?_ ?_ ?_ ?_ ?_
            rotate_left 2
            · (simp only [List.getElem?_toArray, List.getElem?_cons_succ, List.getElem?_cons_zero]; exact rfl)
            · kernel_rfl
            · kernel_rfl
            · kernel_rfl
            · exact fun _ _ _ h => h
            · first | (refine Or.inl ⟨by rfl, ?_⟩; intro w hSw; (try dsimp only at hSw); go_simp; try with_reducible rfl) | (refine Or.inr ⟨by rfl, ?_⟩; rfl)
            · assumption
            try simp only [Act.put, List.setIfInBounds_toArray, List.set_cons_zero, List.set_cons_succ]
            refine wpAnyH_done (by kernel_rfl) ?_ _
            obtain ⟨e5, f5⟩ : w5.cell? ⟨b, 3, none⟩ = some (.slice d.OA d.ps.length d.oc) ∧ w5.frozen? ⟨b, 3, none⟩ = false := ⟨(SX.out _ _ h5 (by simp)).1, h5.frozen (g := b) (t := 87) (cs := d.cells) (by simp) 3⟩
            have h7 := St.set (A := L5) h5 3 (.slice A5 PS.length c5)
            rw [Dc.s3] at h7
            have h8 := h7.perm List.perm_middle
            have h9 : St W (w5.setCell ⟨b, 3, none⟩ (.slice A5 PS.length c5)) J1 (dcB b { d with OA := A5, oc := c5, ps := PS } :: (L5 ++ R0)) := by
              first
                | exact h8
                | exact St.mid (A := dcB b { d with OA := A5, oc := c5, ps := PS } :: L5) (B := [_]) h8
            have p44 := (FX.out _ _ _ LE1.out h5 (by simp)).c44
            have p45 := (FX.out _ _ _ LE1.out h5 (by simp)).c45
            have f45 : w5.frozen? ⟨b, 45, none⟩ = false := h5.frozen (g := b) (t := 87) (cs := d.cells) (by simp) 45
            have H9 := Lib.hid h9; have HR5 := Lib.hid hr5
            clear h4 h5 h6 h7 h8 h9 hr4 hr5 SX SB SC HSO HO1 HPA HPL
            show wpList _ _ _ [_] _ _
            by_cases hw1 : q.wants = -1
            · have g1 : (q.wants == -1) = true := by simpa using hw1
              have hn := HNX.out.1 hw1
              have h10 := fun k => St.set (A := []) (H9.out.drew k) 45 (.int .i64 (-2))
              simp only [Dc.s45 (d := { d with OA := A5, oc := c5, ps := PS }) (by exact hmok)] at h10
              have H10 := Lib.hid (fun k => HF2.out _ A5 c5 L5 (-2) HR5.out hn (h10 k))
              clear hw1 hn h10 H9
              go_wp2_with fail
              go_quiet (fail)
              go_wp2_with fail
              go_ret
              exact H10.out _
            · have g1 : (q.wants == -1) = false := by simpa using hw1
              obtain ⟨hn, y0, y1, y2⟩ := HNX.out.2 hw1
              by_cases hz : q.wants + 1 = d.m.n
              · have g2 : (q.wants == (d.m.n : Int) - 1) = true := by simp; omega
                rw [if_pos hz] at hn
                have h10 := fun k => St.set (A := []) (H9.out.drew k) 45 (.int .i64 (-2))
                simp only [Dc.s45 (d := { d with OA := A5, oc := c5, ps := PS }) (by exact hmok)] at h10
                have H10 := Lib.hid (fun k => HF2.out _ A5 c5 L5 (-2) HR5.out hn (h10 k))
                clear hw1 hn h10 H9 hz
                go_wp2_with fail
                go_quiet (fail)
                go_wp2_with fail
                go_ret
                exact H10.out _
              · have g2 : (q.wants == (d.m.n : Int) - 1) = false := by simp; omega
                rw [if_neg hz] at hn
                have h10 := fun k => St.set (A := []) (H9.out.drew k) 45 (.int .i64 (q.wants + 1))
                simp only [Dc.s45 (d := { d with OA := A5, oc := c5, ps := PS }) (by exact hmok)] at h10
                have H10 := Lib.hid (fun k => HF2.out _ A5 c5 L5 (q.wants + 1) HR5.out hn (h10 k))
                clear hw1 hn h10 H9 hz
                go_wp2_with fail
                go_quiet (fail)
                go_wp2_with fail
                go_ret
                exact H10.out _
          exact AllReadyH.nil
        exact AllReadyH.nil
      exact AllReadyH.nil
    refine AllReadyH.cons (o := ?_) ?_ (fun K hK => ?_) ?_
    rotate_left 1
    · (simp only [List.getElem?_toArray, List.getElem?_cons_succ, List.getElem?_cons_zero]; exact rfl)
    · go_simp
      refine hK.out _ _ ?_ (fun hHeld => ?_)
      · (try dsimp only) <;> (first | exact SX.out _ _ h5 (by simp) | exact SX.out _ _ h4 (by simp) | exact SX.out _ _ (St.alloc_ h4 _) (by simp) | exact SX.out _ _ (h6.alloc _).drew1 (by simp) | exact SX.out _ _ ((h6.alloc _).alloc _).drew1 (by simp))
      clear hK K
      try simp only [Act.put, List.setIfInBounds_toArray, List.set_cons_zero, List.set_cons_succ]
      refine wpAnyH_ready (rs := [1]) (by kernel_rfl) (by simp) ?_
      refine AllReadyH.cons (o := ?_) ?_ (fun K hK => ?_) ?_
      rotate_left 1
      · (simp only [List.getElem?_toArray, List.getElem?_cons_succ, List.getElem?_cons_zero]; exact rfl)
      · go_simp
        refine hK.out _ _ ?_ (fun hHeld => ?_)
        · (try dsimp only) <;> (first | exact SX.out _ _ h5 (by simp) | exact SX.out _ _ h4 (by simp) | exact SX.out _ _ (St.alloc_ h4 _) (by simp) | exact SX.out _ _ (h6.alloc _).drew1 (by simp) | exact SX.out _ _ ((h6.alloc _).alloc _).drew1 (by simp))
        clear hK K
        try simp only [Act.put, List.setIfInBounds_toArray, List.set_cons_zero, List.set_cons_succ]
        refine wpAnyH_ready (rs := [6]) (by kernel_rfl) (by simp) ?_
        refine AllReadyH.cons (o := ?_) ?_ (fun K hK => ?_) ?_
        rotate_left 1
        · (simp only [List.getElem?_toArray, List.getElem?_cons_succ, List.getElem?_cons_zero]; exact rfl)
        · ((first | (refine step_append_row (F := dcB b d :: R0) (L := [(w6.heap.size, Obj.cells #[] 37 (0, 0))]) rfl (.tmp 103) (.tmp 107) 85 rfl 37 (.agg #[.int .i64 0, .slice none 0 0]) 2 32 Tryd.underlying85 piece_sized rfl (by omega) rfl (Row.empty 37 2 _) ((h6.alloc (.cells #[] 37)).drew1) rfl (HSO.out _ _ ((h6.alloc (.cells #[] 37)).drew1) (fun p hp => by simp [hp])) (pall_one _) d.ps.length (Nat.zero_add _) (pall d.ps) rfl (by unfold maxLen; omega) (by omega) ?_; intro A4 c4 w4 L4 hr4 h4; dsimp only) | (refine step_append_row (F := dcB b d :: (w6.heap.size + 1, .cells #[.int .i64 q.wants, .slice A B.length c] 37 (0, 0)) :: R0) (L := [(w6.heap.size, Obj.cells #[] 37 (0, 0))]) rfl (.tmp 103) (.tmp 107) 85 rfl 37 (.agg #[.int .i64 0, .slice none 0 0]) 2 32 Tryd.underlying85 piece_sized rfl (by omega) rfl (Row.empty 37 2 _) ((SB.out).drew1) rfl (HSO.out _ _ ((SB.out).drew1) (fun p hp => by simp [hp])) (pall_one _) d.ps.length (Nat.zero_add _) (pall d.ps) rfl (by unfold maxLen; omega) (by omega) ?_; intro A4 c4 w4 L4 hr4 h4; dsimp only) | (refine step_append_row (F := dcB b d :: (w6.heap.size, .cells #[.int .i64 q.wants, .slice A B.length c] 37 (0, 0)) :: R0) (L := [(w6.heap.size + 1, Obj.cells #[] 37 (0, 0))]) rfl (.tmp 103) (.tmp 107) 85 rfl 37 (.agg #[.int .i64 0, .slice none 0 0]) 2 32 Tryd.underlying85 piece_sized rfl (by omega) rfl (Row.empty 37 2 _) ((SC.out).drew1) rfl (HSO.out _ _ ((SC.out).drew1) (fun p hp => by simp [hp])) (pall_one _) d.ps.length (Nat.zero_add _) (pall d.ps) rfl (by unfold maxLen; omega) (by omega) ?_; intro A4 c4 w4 L4 hr4 h4; dsimp only) | (refine step_append_row (F := dcB b d :: R0) rfl (.tmp 108) (.tmp 115) 85 rfl 37 (.agg #[.int .i64 0, .slice none 0 0]) 2 32 Tryd.underlying85 piece_sized rfl (by omega) rfl hr4 ((St.alloc_ h4 _)) rfl (St.srcP rfl (h4.alloc (.cells #[.int .i64 q.wants, .slice A B.length c] 37)) (List.mem_cons_self ..)) HO1.out PS.length HPL.out (pall PS) HPA.out (by rw [← HPL.out]; unfold maxLen; omega) (by rw [← HPL.out]; omega) ?_; intro A5 c5 w5 L5 hr5 h5; dsimp only) | (refine step_append_row (F := dcB b d :: (w6.heap.size + 1, .cells #[.int .i64 q.wants, .slice A B.length c] 37 (0, 0)) :: R0) rfl (.tmp 108) (.tmp 115) 85 rfl 37 (.agg #[.int .i64 0, .slice none 0 0]) 2 32 Tryd.underlying85 piece_sized rfl (by omega) rfl hr4 (h4) rfl (St.srcP rfl h4 (by simp)) HO1.out PS.length HPL.out (pall PS) HPA.out (by rw [← HPL.out]; unfold maxLen; omega) (by rw [← HPL.out]; omega) ?_; intro A5 c5 w5 L5 hr5 h5; dsimp only) | (refine step_append_row (F := dcB b d :: (w6.heap.size, .cells #[.int .i64 q.wants, .slice A B.length c] 37 (0, 0)) :: R0) rfl (.tmp 108) (.tmp 115) 85 rfl 37 (.agg #[.int .i64 0, .slice none 0 0]) 2 32 Tryd.underlying85 piece_sized rfl (by omega) rfl hr4 (h4) rfl (St.srcP rfl h4 (by simp)) HO1.out PS.length HPL.out (pall PS) HPA.out (by rw [← HPL.out]; unfold maxLen; omega) (by rw [← HPL.out]; omega) ?_; intro A5 c5 w5 L5 hr5 h5; dsimp only)))
          refine hK.out _ _ ?_ (fun hHeld => ?_)
          · (try dsimp only) <;> (first | exact SX.out _ _ h5 (by simp) | exact SX.out _ _ h4 (by simp) | exact SX.out _ _ (St.alloc_ h4 _) (by simp) | exact SX.out _ _ (h6.alloc _).drew1 (by simp) | exact SX.out _ _ ((h6.alloc _).alloc _).drew1 (by simp))
          clear hK K
          try simp only [Act.put, List.setIfInBounds_toArray, List.set_cons_zero, List.set_cons_succ]
          refine wpAnyH_ready (rs := [14]) (by kernel_rfl) (by simp) ?_
          refine AllReadyH.cons (o := ?_) ?_ (fun K hK => ?_) ?_
          rotate_left 1
          · (simp only [List.getElem?_toArray, List.getElem?_cons_succ, List.getElem?_cons_zero]; exact rfl)
          · ((first | (refine step_append_row (F := dcB b d :: R0) (L := [(w6.heap.size, Obj.cells #[] 37 (0, 0))]) rfl (.tmp 103) (.tmp 107) 85 rfl 37 (.agg #[.int .i64 0, .slice none 0 0]) 2 32 Tryd.underlying85 piece_sized rfl (by omega) rfl (Row.empty 37 2 _) ((h6.alloc (.cells #[] 37)).drew1) rfl (HSO.out _ _ ((h6.alloc (.cells #[] 37)).drew1) (fun p hp => by simp [hp])) (pall_one _) d.ps.length (Nat.zero_add _) (pall d.ps) rfl (by unfold maxLen; omega) (by omega) ?_; intro A4 c4 w4 L4 hr4 h4; dsimp only) | (refine step_append_row (F := dcB b d :: (w6.heap.size + 1, .cells #[.int .i64 q.wants, .slice A B.length c] 37 (0, 0)) :: R0) (L := [(w6.heap.size, Obj.cells #[] 37 (0, 0))]) rfl (.tmp 103) (.tmp 107) 85 rfl 37 (.agg #[.int .i64 0, .slice none 0 0]) 2 32 Tryd.underlying85 piece_sized rfl (by omega) rfl (Row.empty 37 2 _) ((SB.out).drew1) rfl (HSO.out _ _ ((SB.out).drew1) (fun p hp => by simp [hp])) (pall_one _) d.ps.length (Nat.zero_add _) (pall d.ps) rfl (by unfold maxLen; omega) (by omega) ?_; intro A4 c4 w4 L4 hr4 h4; dsimp only) | (refine step_append_row (F := dcB b d :: (w6.heap.size, .cells #[.int .i64 q.wants, .slice A B.length c] 37 (0, 0)) :: R0) (L := [(w6.heap.size + 1, Obj.cells #[] 37 (0, 0))]) rfl (.tmp 103) (.tmp 107) 85 rfl 37 (.agg #[.int .i64 0, .slice none 0 0]) 2 32 Tryd.underlying85 piece_sized rfl (by omega) rfl (Row.empty 37 2 _) ((SC.out).drew1) rfl (HSO.out _ _ ((SC.out).drew1) (fun p hp => by simp [hp])) (pall_one _) d.ps.length (Nat.zero_add _) (pall d.ps) rfl (by unfold maxLen; omega) (by omega) ?_; intro A4 c4 w4 L4 hr4 h4; dsimp only) | (refine step_append_row (F := dcB b d :: R0) rfl (.tmp 108) (.tmp 115) 85 rfl 37 (.agg #[.int .i64 0, .slice none 0 0]) 2 32 Tryd.underlying85 piece_sized rfl (by omega) rfl hr4 ((St.alloc_ h4 _)) rfl (St.srcP rfl (h4.alloc (.cells #[.int .i64 q.wants, .slice A B.length c] 37)) (List.mem_cons_self ..)) HO1.out PS.length HPL.out (pall PS) HPA.out (by rw [← HPL.out]; unfold maxLen; omega) (by rw [← HPL.out]; omega) ?_; intro A5 c5 w5 L5 hr5 h5; dsimp only) | (refine step_append_row (F := dcB b d :: (w6.heap.size + 1, .cells #[.int .i64 q.wants, .slice A B.length c] 37 (0, 0)) :: R0) rfl (.tmp 108) (.tmp 115) 85 rfl 37 (.agg #[.int .i64 0, .slice none 0 0]) 2 32 Tryd.underlying85 piece_sized rfl (by omega) rfl hr4 (h4) rfl (St.srcP rfl h4 (by simp)) HO1.out PS.length HPL.out (pall PS) HPA.out (by rw [← HPL.out]; unfold maxLen; omega) (by rw [← HPL.out]; omega) ?_; intro A5 c5 w5 L5 hr5 h5; dsimp only) | (refine step_append_row (F := dcB b d :: (w6.heap.size, .cells #[.int .i64 q.wants, .slice A B.length c] 37 (0, 0)) :: R0) rfl (.tmp 108) (.tmp 115) 85 rfl 37 (.agg #[.int .i64 0, .slice none 0 0]) 2 32 Tryd.underlying85 piece_sized rfl (by omega) rfl hr4 (h4) rfl (St.srcP rfl h4 (by simp)) HO1.out PS.length HPL.out (pall PS) HPA.out (by rw [← HPL.out]; unfold maxLen; omega) (by rw [← HPL.out]; omega) ?_; intro A5 c5 w5 L5 hr5 h5; dsimp only)))
            refine hK.out _ _ ?_ (fun hHeld => ?_)
            · (try dsimp only) <;> (first | exact SX.out _ _ h5 (by simp) | exact SX.out _ _ h4 (by simp) | exact SX.out _ _ (St.alloc_ h4 _) (by simp) | exact SX.out _ _ (h6.alloc _).drew1 (by simp) | exact SX.out _ _ ((h6.alloc _).alloc _).drew1 (by simp))
            clear hK K
            try simp only [Act.put, List.setIfInBounds_toArray, List.set_cons_zero, List.set_cons_succ]
            refine wpAnyH_take (i := 15) (oi := ?_) (v := ?_) ?_ ?_ ?_ ?_ ?_ ?_ ?_ ?_
            rotate_left 2
            · (simp only [List.getElem?_toArray, List.getElem?_cons_succ, List.getElem?_cons_zero]; exact rfl)
            · kernel_rfl
            · kernel_rfl
            · kernel_rfl
            · exact fun _ _ _ h => h
            · first | (refine Or.inl ⟨by rfl, ?_⟩; intro w hSw; (try dsimp only at hSw); go_simp; try with_reducible rfl) | (refine Or.inr ⟨by rfl, ?_⟩; rfl)
            · assumption
            try simp only [Act.put, List.setIfInBounds_toArray, List.set_cons_zero, List.set_cons_succ]
            refine wpAnyH_take (i := 16) (oi := ?_) (v := ?_) ?_ ?_ ?_ ?_ ?_ ?_ ?_ ?_
            rotate_left 2
            · (simp only [List.getElem?_toArray, List.getElem?_cons_succ, List.getElem?_cons_zero]; exact rfl)
            · kernel_rfl
            · kernel_rfl
            · kernel_rfl
            · exact fun _ _ _ h => h
            · first | (refine Or.inl ⟨by rfl, ?_⟩; intro w hSw; (try dsimp only at hSw); go_simp; try with_reducible rfl) | (refine Or.inr ⟨by rfl, ?_⟩; rfl)
            · assumption
            try simp only [Act.put, List.setIfInBounds_toArray, List.set_cons_zero, List.set_cons_succ]
            refine wpAnyH_done (by kernel_rfl) ?_ _
            obtain ⟨e5, f5⟩ : w5.cell? ⟨b, 3, none⟩ = some (.slice d.OA d.ps.length d.oc) ∧ w5.frozen? ⟨b, 3, none⟩ = false := ⟨(SX.out _ _ h5 (by simp)).1, h5.frozen (g := b) (t := 87) (cs := d.cells) (by simp) 3⟩
            have h7 := St.set (A := L5) h5 3 (.slice A5 PS.length c5)
            rw [Dc.s3] at h7
            have h8 := h7.perm List.perm_middle
            have h9 : St W (w5.setCell ⟨b, 3, none⟩ (.slice A5 PS.length c5)) J1 (dcB b { d with OA := A5, oc := c5, ps := PS } :: (L5 ++ R0)) := by
              first
                | exact h8
                | exact St.mid (A := dcB b { d with OA := A5, oc := c5, ps := PS } :: L5) (B := [_]) h8
            have p44 := (FX.out _ _ _ LE1.out h5 (by simp)).c44
            have p45 := (FX.out _ _ _ LE1.out h5 (by simp)).c45
            have f45 : w5.frozen? ⟨b, 45, none⟩ = false := h5.frozen (g := b) (t := 87) (cs := d.cells) (by simp) 45
            have H9 := Lib.hid h9; have HR5 := Lib.hid hr5
            clear h4 h5 h6 h7 h8 h9 hr4 hr5 SX SB SC HSO HO1 HPA HPL
            show wpList _ _ _ [_] _ _
            by_cases hw1 : q.wants = -1
            · have g1 : (q.wants == -1) = true := by simpa using hw1
              have hn := HNX.out.1 hw1
              have h10 := fun k => St.set (A := []) (H9.out.drew k) 45 (.int .i64 (-2))
              simp only [Dc.s45 (d := { d with OA := A5, oc := c5, ps := PS }) (by exact hmok)] at h10
              have H10 := Lib.hid (fun k => HF2.out _ A5 c5 L5 (-2) HR5.out hn (h10 k))
              clear hw1 hn h10 H9
              go_wp2_with fail
              go_quiet (fail)
              go_wp2_with fail
              go_ret
              exact H10.out _
            · have g1 : (q.wants == -1) = false := by simpa using hw1
              obtain ⟨hn, y0, y1, y2⟩ := HNX.out.2 hw1
              by_cases hz : q.wants + 1 = d.m.n
              · have g2 : (q.wants == (d.m.n : Int) - 1) = true := by simp; omega
                rw [if_pos hz] at hn
                have h10 := fun k => St.set (A := []) (H9.out.drew k) 45 (.int .i64 (-2))
                simp only [Dc.s45 (d := { d with OA := A5, oc := c5, ps := PS }) (by exact hmok)] at h10
                have H10 := Lib.hid (fun k => HF2.out _ A5 c5 L5 (-2) HR5.out hn (h10 k))
                clear hw1 hn h10 H9 hz
                go_wp2_with fail
                go_quiet (fail)
                go_wp2_with fail
                go_ret
                exact H10.out _
              · have g2 : (q.wants == (d.m.n : Int) - 1) = false := by simp; omega
                rw [if_neg hz] at hn
                have h10 := fun k => St.set (A := []) (H9.out.drew k) 45 (.int .i64 (q.wants + 1))
                simp only [Dc.s45 (d := { d with OA := A5, oc := c5, ps := PS }) (by exact hmok)] at h10
                have H10 := Lib.hid (fun k => HF2.out _ A5 c5 L5 (q.wants + 1) HR5.out hn (h10 k))
                clear hw1 hn h10 H9 hz
                go_wp2_with fail
                go_quiet (fail)
                go_wp2_with fail
                go_ret
                exact H10.out _
          exact AllReadyH.nil
        exact AllReadyH.nil
      exact AllReadyH.nil
    exact AllReadyH.nil
end
end Go.Proofs.YtnhlpiomfljlcaaDoor
