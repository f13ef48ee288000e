/- call: Text: walk. -/
import Derived.Test.YtjcekmmieihllaaDoorCallA
import Derived.Test.YtjcekmmieihllaaDoorSlX
import Derived.Deep.RegionWith
import Derived.Deep.RegionHeld3
namespace Go.Proofs.YtjcekmmieihllaaDoor
set_option linter.unusedVariables false
set_option linter.unusedSimpArgs false
set_option linter.unnecessarySimpa false
open Go.RowKit Go.Lib

/-- What lies in memory for calls. -/
structure CV (W : World) (I : Nat → Option Obj) : Prop where
  t : TB W I
  t4 : Tab4 W
  t10 : Tab10 W
  ev : ErrV W I
  ht : roCell I ⟨14, 15, none⟩ = some (.int .u8 4)
  words : ∀ i z, cwordsL[i]? = some z → roCell I ⟨0, i, none⟩ = some (.string ⟨z.toArray⟩)
theorem ba_app (x y : List UInt8) : (⟨x.toArray⟩ : ByteArray) ++ ⟨y.toArray⟩ = ⟨(x ++ y).toArray⟩ := by
  apply ByteArray.ext
  rw [ByteArray.data_append]
  simp
theorem ba_size (x : List UInt8) : (⟨x.toArray⟩ : ByteArray).size = x.length := by simp [ByteArray.size]
theorem cword_len (k : Nat) : (cwordsL.getD k []).length ≤ 7 := by
  match k with
  | 0 => decide
  | 1 => decide
  | 2 => decide
  | 3 => decide
  | 4 => decide
  | 5 => decide
  | 6 => decide
  | k + 7 => simp [cwordsL]
theorem cword_at (k : Nat) (h : k < 7) : cwordsL[k]? = some (cwordsL.getD k []) := by
  rw [List.getD_eq_getElem?_getD, List.getElem?_eq_getElem (by simp [cwordsL]; omega)]
  rfl
section
variable {W w : World} {I : Nat → Option Obj} {F : List (Nat × Obj)}
set_option maxRecDepth 100000 in
set_option maxHeartbeats 8000000 in
theorem call_text (cv : CV W I) (c : Cl) (ok : c.Ok) (hn : c.name.size ≤ 1000000) (h : St W w I F) :
    Calls Tryd.prog 12 #[c.val] w fun e w' => e = .returned (.string ⟨(textC c).toArray⟩) ∧ St W w' I F := by
  have h0 := h.alloc (.cells c.cells 23)
  obtain ⟨b, hb⟩ : ∃ b, w.heap.size = b := ⟨_, rfl⟩
  rw [hb] at h0
  have kR := fun (v : World) (F : List (Nat × Obj)) (hv : St W v I F) => call_right cv.t cv.t4 c ok hv
  have hi := call_info c
  have hcf : ∀ (v : World) (L : List (Nat × Obj)), St W v I L → (b, Obj.cells c.cells 23 (0, 0)) ∈ L → v.cell? ⟨b, 0, none⟩ = some (.int .i64 c.client) ∧ v.cell? ⟨b, 1, none⟩ = some (.int .i64 c.kind) ∧ v.cell? ⟨b, 2, none⟩ = some (.int .i64 c.slot) ∧ v.cell? ⟨b, 3, none⟩ = some (.int .i64 c.job) ∧ v.cell? ⟨b, 4, none⟩ = some (.string c.name) := fun v L hv hm => hv.clf hm
  have tx := textC.eq_1 c
  have rf := rightC_facts c
  have kI := fun (n : Int) (n0 : -9223372036854775808 ≤ n) (n1 : n ≤ 9223372036854775807) (v : World) (F : List (Nat × Obj)) (hv : St W v I F) => itoa_any cv.t10 cv.t.le n n0 n1 hv
  have kS := fun (v : World) (F : List (Nat × Obj)) (hv : St W v I F) => show_any cv.t cv.ht c.name (by omega) hv
  have hw := fun (i : Nat) (hi : i < 7) (v : World) (L : List (Nat × Obj)) (hv : St W v I L) => hv.ro (cv.words i _ (cword_at i hi))
  have ls := showOf_len c.name
  have tl := tailC.eq_1 c
  unfold Cl.val at kR ⊢
  obtain ⟨R, hR⟩ : ∃ R, rightC c = R := ⟨_, rfl⟩
  obtain ⟨X, hX⟩ : ∃ X, textC c = X := ⟨_, rfl⟩
  rw [hR] at kR rf tx
  rw [hX] at tx ⊢
  have nm := fun h => (rf h)
  generalize hC : c.cells = C at *
  have HI := Lib.hid hi; have HCF := Lib.hid hcf; have TX := Lib.hid tx; have RF := Lib.hid rf; have KI := Lib.hid kI; have KS := Lib.hid kS; have HW := Lib.hid hw; have LS := Lib.hid ls; have TL := Lib.hid tl; have KR := Lib.hid kR; have H0 := Lib.hid h0; have OK := Lib.hid ok
  clear hi hcf tx rf kI kS hw ls tl kR h0 nm hR hX hC ok cv h
  go_enter Tryd.func12, Tryd.ntmps12
  go_wp2_with (first | (refine wpList_load_g (by rfl) 23 (.tmp 1) rfl (g := b) (off := 0) rfl H0.out (cs := C) (t := 23) (fr := (0, 0)) (by simp) C (fun j hj => by rw [Nat.zero_add]) _ Tryd.underlying23 rfl HI.out ?_))
  refine (KR.out _ _ H0.out).mono ?_
  rintro e w2 ⟨rfl, h2⟩
  have H2 := Lib.hid h2
  clear h2 H0 KR
  cases R with
  | false =>
    have tx := TX.out
    rw [if_neg (by decide)] at tx
    subst tx
    go_wp2_with fail
    go_ret
    exact ⟨rfl, St.weaken (A := [_]) H2.out⟩
  | true =>
    obtain ⟨r0, r1, rk⟩ := RF.out rfl
    have tx := TX.out
    rw [if_pos rfl] at tx
    obtain ⟨kn, hkn⟩ : ∃ n : Nat, c.kind = (n : Int) := ⟨c.kind.toNat, by omega⟩
    have kn7 : kn < 7 := by omega
    have kn7i : (kn : Int) < 7 := by omega
    have tl := TL.out
    rw [hkn, Int.toNat_natCast] at tx
    rw [hkn] at rk tl
    have lw := cword_len kn
    have hcf := HCF.out
    rw [hkn] at hcf
    have hw := HW.out kn kn7
    have kI := KI.out c.client (by omega) (by omega)
    have li : (Lib.itoa c.client).length ≤ 20 := by
      rw [itoa_nn _ r0]
      exact decD_len 20 _ (by omega) (by omega)
    generalize cwordsL.getD kn [] = wk at *
    generalize Lib.itoa c.client = it at *
    have sx : ∀ v L, St W v I L → (b, Obj.cells C 23 (0, 0)) ∈ L → v.cell? ⟨b, 0, none⟩ = some (.int .i64 c.client) ∧ v.cell? ⟨b, 1, none⟩ = some (.int .i64 (kn : Int)) ∧ v.cell? ⟨0, kn, none⟩ = some (.string ⟨wk.toArray⟩) := fun v L hv hm => ⟨(hcf v L hv hm).1, (hcf v L hv hm).2.1, hw v L hv⟩
    have s1 := ba_app it [32]
    have s2 := ba_app (it ++ [32]) wk
    have z1 : ¬ (9223372036854775807 < (⟨it.toArray⟩ : ByteArray).size + 1) := by rw [ba_size]; omega
    have z2 : ¬ (9223372036854775807 < (⟨(it ++ [32]).toArray⟩ : ByteArray).size + (⟨wk.toArray⟩ : ByteArray).size) := by rw [ba_size, ba_size, List.length_append]; simp; omega
    obtain ⟨P, hP⟩ : ∃ P, it ++ [32] ++ wk = P := ⟨_, rfl⟩
    have lp : P.length ≤ 28 := by rw [← hP]; simp; omega
    have hxp : X = P ++ tailC c := by rw [tx, ← hP]; simp
    rw [hP] at s2
    obtain ⟨bi, hbi⟩ : ∃ x, (⟨it.toArray⟩ : ByteArray) = x := ⟨_, rfl⟩
    obtain ⟨bw, hbw⟩ : ∃ x, (⟨wk.toArray⟩ : ByteArray) = x := ⟨_, rfl⟩
    obtain ⟨b1, hb1⟩ : ∃ x, (⟨(it ++ [32]).toArray⟩ : ByteArray) = x := ⟨_, rfl⟩
    obtain ⟨bp, hbp⟩ : ∃ x, (⟨P.toArray⟩ : ByteArray) = x := ⟨_, rfl⟩
    rw [hbi, hb1] at s1
    rw [hb1, hbw, hbp] at s2
    rw [hbi] at z1 kI
    rw [hb1, hbw] at z2
    rw [hbw] at sx
    have F1 : Hid (bi ++ ⟨#[32]⟩ = b1) := Lib.hid s1
    have F2 : Hid (b1 ++ bw = bp) := Lib.hid s2
    have SX := Lib.hid sx; have KI2 := Lib.hid kI; have HP := Lib.hid hbp; have HXP := Lib.hid hxp; have TLL := Lib.hid tl; have RK := Lib.hid rk; have HCF2 := Lib.hid hcf
    have hx := H2.out.drew1
    clear sx kI s1 s2 hP hbi hbw hb1 hbp hxp tl tx rk hcf hw H2 HCF HW TX RF TL lw li
    go_wp2_with fail
    refine wp_region_held_drew (S := fun v => v.cell? ⟨b, 0, none⟩ = some (.int .i64 c.client) ∧ v.cell? ⟨b, 1, none⟩ = some (.int .i64 (kn : Int)) ∧ v.cell? ⟨0, kn, none⟩ = some (.string bw)) (by kernel_rfl) (SX.out _ _ hx (by simp)) (fun hHeld => ?_)
    refine wpAnyH_take (i := 0) (oi := ?_) (v := ?_) ?_ ?_ ?_ ?_ ?_ ?_ ?_ ?_
    rotate_left 2
    · (simp only [List.getElem?_toArray, List.getElem?_cons_succ, List.getElem?_cons_zero]; exact rfl)
    · kernel_rfl
    · kernel_rfl
    · kernel_rfl
    · exact fun _ _ _ h => h
    · first | (refine Or.inl ⟨by rfl, ?_⟩; intro w hSw; (try dsimp only at hSw); go_simp; try with_reducible rfl) | (refine Or.inr ⟨by rfl, ?_⟩; rfl)
    · assumption
    try simp only [Act.put, List.setIfInBounds_toArray, List.set_cons_zero, List.set_cons_succ]
    try simp only [F1.out, F2.out]
    refine wpAnyH_take (i := 1) (oi := ?_) (v := ?_) ?_ ?_ ?_ ?_ ?_ ?_ ?_ ?_
    rotate_left 2
    · (simp only [List.getElem?_toArray, List.getElem?_cons_succ, List.getElem?_cons_zero]; exact rfl)
    · kernel_rfl
    · kernel_rfl
    · kernel_rfl
    · exact fun _ _ _ h => h
    · first | ((refine Or.inl ⟨by rfl, ?_⟩; intro w hSw; obtain ⟨hS1, hS2, hS3⟩ := hSw; go_simp; try with_reducible rfl)) | (refine Or.inr ⟨by rfl, ?_⟩; rfl)
    · assumption
    try simp only [Act.put, List.setIfInBounds_toArray, List.set_cons_zero, List.set_cons_succ]
    try simp only [F1.out, F2.out]
    refine wpAnyH_take (i := 4) (oi := ?_) (v := ?_) ?_ ?_ ?_ ?_ ?_ ?_ ?_ ?_
    rotate_left 2
    · (simp only [List.getElem?_toArray, List.getElem?_cons_succ, List.getElem?_cons_zero]; exact rfl)
    · kernel_rfl
    · kernel_rfl
    · kernel_rfl
    · exact fun _ _ _ h => h
    · first | (refine Or.inl ⟨by rfl, ?_⟩; intro w hSw; (try dsimp only at hSw); go_simp; try with_reducible rfl) | (refine Or.inr ⟨by rfl, ?_⟩; rfl)
    · assumption
    try simp only [Act.put, List.setIfInBounds_toArray, List.set_cons_zero, List.set_cons_succ]
    try simp only [F1.out, F2.out]
    refine wpAnyH_take (i := 5) (oi := ?_) (v := ?_) ?_ ?_ ?_ ?_ ?_ ?_ ?_ ?_
    rotate_left 2
    · (simp only [List.getElem?_toArray, List.getElem?_cons_succ, List.getElem?_cons_zero]; exact rfl)
    · kernel_rfl
    · kernel_rfl
    · kernel_rfl
    · exact fun _ _ _ h => h
    · first | ((refine Or.inl ⟨by rfl, ?_⟩; intro w hSw; obtain ⟨hS1, hS2, hS3⟩ := hSw; go_simp; try with_reducible rfl)) | (refine Or.inr ⟨by rfl, ?_⟩; rfl)
    · assumption
    try simp only [Act.put, List.setIfInBounds_toArray, List.set_cons_zero, List.set_cons_succ]
    try simp only [F1.out, F2.out]
    refine wpAnyH_take (i := 6) (oi := ?_) (v := ?_) ?_ ?_ ?_ ?_ ?_ ?_ ?_ ?_
    rotate_left 2
    · (simp only [List.getElem?_toArray, List.getElem?_cons_succ, List.getElem?_cons_zero]; exact rfl)
    · kernel_rfl
    · kernel_rfl
    · kernel_rfl
    · exact fun _ _ _ h => h
    · first | (refine Or.inl ⟨by rfl, ?_⟩; intro w hSw; (try dsimp only at hSw); go_simp; try with_reducible rfl) | (refine Or.inr ⟨by rfl, ?_⟩; rfl)
    · assumption
    try simp only [Act.put, List.setIfInBounds_toArray, List.set_cons_zero, List.set_cons_succ]
    try simp only [F1.out, F2.out]
    refine wpAnyH_take (i := 7) (oi := ?_) (v := ?_) ?_ ?_ ?_ ?_ ?_ ?_ ?_ ?_
    rotate_left 2
    · (simp only [List.getElem?_toArray, List.getElem?_cons_succ, List.getElem?_cons_zero]; exact rfl)
    · kernel_rfl
    · kernel_rfl
    · kernel_rfl
    · exact fun _ _ _ h => h
    · first | ((refine Or.inl ⟨by rfl, ?_⟩; intro w hSw; obtain ⟨hS1, hS2, hS3⟩ := hSw; go_simp; try with_reducible rfl)) | (refine Or.inr ⟨by rfl, ?_⟩; rfl)
    · assumption
    try simp only [Act.put, List.setIfInBounds_toArray, List.set_cons_zero, List.set_cons_succ]
    try simp only [F1.out, F2.out]
    refine wpAnyH_ready (rs := [2]) (by kernel_rfl) (by simp) ?_
    refine AllReadyH.cons (o := ?_) ?_ (fun K hK => ?_) ?_
    rotate_left 1
    · (simp only [List.getElem?_toArray, List.getElem?_cons_succ, List.getElem?_cons_zero]; exact rfl)
    · go_simp
      ((go_at_call 34; (with_reducible refine (KI2.out _ _ hx).mono ?_); rintro e wx ⟨rfl, hx⟩; dsimp only))
      refine hK.out _ _ ?_ (fun hHeld => ?_)
      · (try dsimp only) <;> (exact SX.out _ _ hx (by simp))
      clear hK K
      try simp only [Act.put, List.setIfInBounds_toArray, List.set_cons_zero, List.set_cons_succ]
      try simp only [F1.out, F2.out]
      refine wpAnyH_take (i := 3) (oi := ?_) (v := ?_) ?_ ?_ ?_ ?_ ?_ ?_ ?_ ?_
      rotate_left 2
      · (simp only [List.getElem?_toArray, List.getElem?_cons_succ, List.getElem?_cons_zero]; exact rfl)
      · kernel_rfl
      · kernel_rfl
      · kernel_rfl
      · exact fun _ _ _ h => h
      · first | (refine Or.inl ⟨by rfl, ?_⟩; intro w hSw; (try dsimp only at hSw); go_simp; try with_reducible rfl) | (refine Or.inr ⟨by rfl, ?_⟩; rfl)
      · assumption
      try simp only [Act.put, List.setIfInBounds_toArray, List.set_cons_zero, List.set_cons_succ]
      try simp only [F1.out, F2.out]
      refine wpAnyH_take (i := 8) (oi := ?_) (v := ?_) ?_ ?_ ?_ ?_ ?_ ?_ ?_ ?_
      rotate_left 2
      · (simp only [List.getElem?_toArray, List.getElem?_cons_succ, List.getElem?_cons_zero]; exact rfl)
      · kernel_rfl
      · kernel_rfl
      · kernel_rfl
      · exact fun _ _ _ h => h
      · first | (refine Or.inl ⟨by rfl, ?_⟩; intro w hSw; (try dsimp only at hSw); go_simp; try with_reducible rfl) | (refine Or.inr ⟨by rfl, ?_⟩; rfl)
      · assumption
      try simp only [Act.put, List.setIfInBounds_toArray, List.set_cons_zero, List.set_cons_succ]
      try simp only [F1.out, F2.out]
      refine wpAnyH_take (i := 9) (oi := ?_) (v := ?_) ?_ ?_ ?_ ?_ ?_ ?_ ?_ ?_
      rotate_left 2
      · (simp only [List.getElem?_toArray, List.getElem?_cons_succ, List.getElem?_cons_zero]; exact rfl)
      · kernel_rfl
      · kernel_rfl
      · kernel_rfl
      · exact fun _ _ _ h => h
      · first | (refine Or.inl ⟨by rfl, ?_⟩; intro w hSw; (try dsimp only at hSw); go_simp; try with_reducible rfl) | (refine Or.inr ⟨by rfl, ?_⟩; rfl)
      · assumption
      try simp only [Act.put, List.setIfInBounds_toArray, List.set_cons_zero, List.set_cons_succ]
      try simp only [F1.out, F2.out]
      refine wpAnyH_done (by kernel_rfl) ?_ _
      have HX := Lib.hid hx
      clear hx SX KI2 F1 F2 z1 z2
      obtain ⟨q0, q1, q2, q3, q4⟩ := HCF2.out _ _ HX.out (by simp)
      have hfin : ∀ (t : List UInt8), tailC c = t → bp ++ ⟨t.toArray⟩ = ⟨X.toArray⟩ := fun t ht => by
        rw [← HP.out, ba_app, HXP.out, ht]
      have lbp : bp.size ≤ 28 := by rw [← HP.out, ba_size]; exact lp
      rcases RK.out with ⟨k, s0, j0, hn1⟩ | ⟨k, s0, hn1, j0, j1⟩ | ⟨k, s0, j0, hn1⟩ | ⟨k, j0, hn1, s0, s1⟩
      · obtain rfl : kn = 1 := by omega
        have tl := TLL.out
        rw [if_pos k] at tl
        have f1 := hfin _ tl
        have ls := LS.out
        have g1 := ba_app [32] (showOf c.name)
        rw [← g1] at f1
        have kS := KS.out
        have y1 := ba_size (showOf c.name)
        obtain ⟨bs, hbs⟩ : ∃ x, (⟨(showOf c.name).toArray⟩ : ByteArray) = x := ⟨_, rfl⟩
        rw [hbs] at f1 kS y1
        have z3 : ¬ (9223372036854775807 < 1 + bs.size) := by omega
        have z4 : ¬ (9223372036854775807 < bp.size + (1 + bs.size)) := by omega
        have F3 := Lib.hid f1; have KS2 := Lib.hid kS
        clear f1 g1 tl hfin kS hbs y1 ls KS q0 q1 q2 q3 k
        go_wp2_with fail
        refine (KS2.out _ _ HX.out).mono ?_
        rintro e w5 ⟨rfl, h5⟩
        have H5 := Lib.hid h5
        clear h5 HX KS2
        go_wp2_with fail
        go_ret
        exact ⟨congrArg (fun s => Ending.returned (Value.string s)) F3.out, St.weaken (A := [_]) H5.out⟩
      · obtain rfl : kn = 2 := by omega
        have tl := TLL.out
        rw [if_neg (by omega), if_pos k] at tl
        have f1 := hfin _ tl
        have g1 := ba_app [32] (Lib.itoa c.job)
        rw [← g1] at f1
        have kJ := KI.out c.job (by omega) (by omega)
        have y1 := ba_size (Lib.itoa c.job)
        have y2 : (Lib.itoa c.job).length ≤ 20 := by
          rw [itoa_nn _ j0]
          exact decD_len 20 _ (by omega) (by omega)
        obtain ⟨bs, hbs⟩ : ∃ x, (⟨(Lib.itoa c.job).toArray⟩ : ByteArray) = x := ⟨_, rfl⟩
        rw [hbs] at f1 kJ y1
        have z3 : ¬ (9223372036854775807 < 1 + bs.size) := by omega
        have z4 : ¬ (9223372036854775807 < bp.size + (1 + bs.size)) := by omega
        have F3 := Lib.hid f1; have KJ := Lib.hid kJ
        clear f1 g1 tl hfin kJ hbs y1 y2 k q0 q1 q2 q4
        go_wp2_with fail
        refine (KJ.out _ _ HX.out).mono ?_
        rintro e w5 ⟨rfl, h5⟩
        have H5 := Lib.hid h5
        clear h5 HX KJ
        go_wp2_with fail
        go_ret
        exact ⟨congrArg (fun s => Ending.returned (Value.string s)) F3.out, St.weaken (A := [_]) H5.out⟩
      · obtain hk36 : kn = 3 ∨ kn = 6 := by omega
        have tl := TLL.out
        rw [if_neg (by omega), if_neg (by omega), if_neg (by omega)] at tl
        have f1 := hfin _ tl
        have f2 : bp = ⟨X.toArray⟩ := by rw [← f1]; apply ByteArray.ext; rw [ByteArray.data_append]; simp
        have F3 := Lib.hid f2
        clear f1 f2 tl hfin k q0 q1 q2 q3 q4
        rcases hk36 with rfl | rfl
        · go_wp2_with fail
          go_ret
          exact ⟨congrArg (fun s => Ending.returned (Value.string s)) F3.out, St.weaken (A := [_]) HX.out⟩
        · go_wp2_with fail
          go_ret
          exact ⟨congrArg (fun s => Ending.returned (Value.string s)) F3.out, St.weaken (A := [_]) HX.out⟩
      · obtain hk45 : kn = 4 ∨ kn = 5 := by omega
        have tl := TLL.out
        rw [if_neg (by omega), if_neg (by omega), if_pos k] at tl
        have f1 := hfin _ tl
        have g1 := ba_app [32] (Lib.itoa c.slot)
        rw [← g1] at f1
        have kJ := KI.out c.slot (by omega) (by omega)
        have y1 := ba_size (Lib.itoa c.slot)
        have y2 : (Lib.itoa c.slot).length ≤ 20 := by
          rw [itoa_nn _ s0]
          exact decD_len 20 _ (by omega) (by omega)
        obtain ⟨bs, hbs⟩ : ∃ x, (⟨(Lib.itoa c.slot).toArray⟩ : ByteArray) = x := ⟨_, rfl⟩
        rw [hbs] at f1 kJ y1
        have z3 : ¬ (9223372036854775807 < 1 + bs.size) := by omega
        have z4 : ¬ (9223372036854775807 < bp.size + (1 + bs.size)) := by omega
        have F3 := Lib.hid f1; have KJ := Lib.hid kJ
        clear f1 g1 tl hfin kJ hbs y1 y2 k q0 q1 q3 q4
        rcases hk45 with rfl | rfl
        · go_wp2_with fail
          refine (KJ.out _ _ HX.out).mono ?_
          rintro e w5 ⟨rfl, h5⟩
          have H5 := Lib.hid h5
          clear h5 HX KJ
          go_wp2_with fail
          go_ret
          exact ⟨congrArg (fun s => Ending.returned (Value.string s)) F3.out, St.weaken (A := [_]) H5.out⟩
        · go_wp2_with fail
          refine (KJ.out _ _ HX.out).mono ?_
          rintro e w5 ⟨rfl, h5⟩
          have H5 := Lib.hid h5
          clear h5 HX KJ
          go_wp2_with fail
          go_ret
          exact ⟨congrArg (fun s => Ending.returned (Value.string s)) F3.out, St.weaken (A := [_]) H5.out⟩
    exact AllReadyH.nil
end
end Go.Proofs.YtjcekmmieihllaaDoor
