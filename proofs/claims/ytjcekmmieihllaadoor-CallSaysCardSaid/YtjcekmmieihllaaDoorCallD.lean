/- The document's calls in words: walks. -/
import Derived.Test.YtjcekmmieihllaaDoorCallB
import Derived.Test.YtjcekmmieihllaaDoorCallC
import Derived.Test.YtjcekmmieihllaaDoorRshow
namespace Go.Proofs.YtjcekmmieihllaaDoor
set_option linter.unusedVariables false
set_option linter.unusedSimpArgs false
set_option linter.unnecessarySimpa false
open Go.RowKit Go.Lib

theorem ba_assoc (a b c : ByteArray) : a ++ b ++ c = a ++ (b ++ c) := by
  apply ByteArray.ext
  simp [ByteArray.data_append, Array.append_assoc]
section
variable {W w : World} {I : Nat → Option Obj} {F : List (Nat × Obj)}
set_option maxRecDepth 100000 in
theorem cdig_any (n : Int) (n0 : -9223372036854775808 ≤ n) (n1 : n ≤ 9223372036854775807) (h : St W w I F) :
    Calls Tryd.prog 36 #[.int .i64 n] w fun e w' => e = .returned (.string ⟨(Lib.itoa n).toArray⟩) ∧ St W w' I F := by
  by_cases hn : n < 0
  · obtain ⟨u, hu⟩ : ∃ u : Nat, -n = (u : Int) := ⟨(-n).toNat, by omega⟩
    have kD := rdec_any u (by omega) h
    have hw : IntKind.u64.wrap (-(IntKind.u64.wrap n)) = (u : Int) := by
      rw [IntKind.wrap_u64, IntKind.wrap_u64]
      omega
    have hw2 : IntKind.u64.wrap n = n + 18446744073709551616 := by
      rw [IntKind.wrap_u64]
      omega
    have hw3 : IntKind.u64.wrap (-(n + 18446744073709551616)) = (u : Int) := by rw [← hw2]; exact hw
    have hi : Lib.itoa n = 45 :: Lib.decDigits u := by
      unfold Lib.itoa
      rw [if_pos hn]
      congr 2
      omega
    have ld := decD_len 20 u (by omega) (by omega)
    have f1 := ba_app [45] (Lib.decDigits u)
    have y1 := ba_size (Lib.decDigits u)
    rw [hi]
    obtain ⟨bd, hbd⟩ : ∃ x, (⟨(Lib.decDigits u).toArray⟩ : ByteArray) = x := ⟨_, rfl⟩
    rw [hbd] at kD f1 y1
    have z1 : ¬ (9223372036854775807 < 1 + bd.size) := by omega
    have KD := Lib.hid kD; have F1 := Lib.hid f1; have H := Lib.hid h
    clear kD h hi ld f1 y1 hbd hu hw
    go_enter Tryd.func36, Tryd.ntmps36
    go_wp2_with fail
    refine KD.out.mono ?_
    rintro e w2 ⟨rfl, h2⟩
    have H2 := Lib.hid h2
    clear h2 H KD
    go_wp2_with fail
    go_ret
    exact ⟨congrArg (fun s => Ending.returned (Value.string s)) F1.out, H2.out⟩
  · obtain ⟨u, rfl⟩ : ∃ u : Nat, n = (u : Int) := ⟨n.toNat, by omega⟩
    have kD := rdec_any u (by omega) h
    have hi : Lib.itoa (u : Int) = Lib.decDigits u := by rw [itoa_nn _ (by omega), Int.toNat_natCast]
    rw [hi]
    have KD := Lib.hid kD
    clear kD h hi
    go_enter Tryd.func36, Tryd.ntmps36
    go_wp2_with fail
    refine KD.out.mono ?_
    rintro e w2 ⟨rfl, h2⟩
    have H2 := Lib.hid h2
    clear h2 KD
    go_wp2_with fail
    go_ret
    exact ⟨rfl, H2.out⟩
set_option maxRecDepth 100000 in
set_option maxHeartbeats 8000000 in
theorem cref_text (cv : CV W I) (c : Cl) (ok : c.Ok) (hn : c.name.size ≤ 1000000) (h : St W w I F) :
    Calls Tryd.prog 13 #[c.val] w fun e w' => e = .returned (.string ⟨(textC c).toArray⟩) ∧ St W w' I F := by
  have h0 := h.alloc (.cells c.cells 23)
  obtain ⟨b, hb⟩ : ∃ b, w.heap.size = b := ⟨_, rfl⟩
  rw [hb] at h0
  have kR := fun (v : World) (F : List (Nat × Obj)) (hv : St W v I F) => cref_right cv.t cv.t4 c ok hv
  have hi := call_info c
  have hcf : ∀ (v : World) (L : List (Nat × Obj)), St W v I L → (b, Obj.cells c.cells 23 (0, 0)) ∈ L → v.cell? ⟨b, 0, none⟩ = some (.int .i64 c.client) ∧ v.cell? ⟨b, 1, none⟩ = some (.int .i64 c.kind) ∧ v.cell? ⟨b, 2, none⟩ = some (.int .i64 c.slot) ∧ v.cell? ⟨b, 3, none⟩ = some (.int .i64 c.job) ∧ v.cell? ⟨b, 4, none⟩ = some (.string c.name) := fun v L hv hm => hv.clf hm
  have tx := textC.eq_1 c
  have rf := rightC_facts c
  have kI := fun (n : Int) (n0 : -9223372036854775808 ≤ n) (n1 : n ≤ 9223372036854775807) (v : World) (F : List (Nat × Obj)) (hv : St W v I F) => cdig_any n n0 n1 hv
  have kS := fun (v : World) (F : List (Nat × Obj)) (hv : St W v I F) => rshow_any cv.t c.name (by omega) hv
  have ls := showOf_len c.name
  have tl := tailC.eq_1 c
  unfold Cl.val at kR ⊢
  obtain ⟨R, hR⟩ : ∃ R, rightC c = R := ⟨_, rfl⟩
  obtain ⟨X, hX⟩ : ∃ X, textC c = X := ⟨_, rfl⟩
  rw [hR] at kR rf tx
  rw [hX] at tx ⊢
  generalize hC : c.cells = C at *
  have HI := Lib.hid hi; have HCF := Lib.hid hcf; have TX := Lib.hid tx; have RF := Lib.hid rf; have KI := Lib.hid kI; have KS := Lib.hid kS; have LS := Lib.hid ls; have TL := Lib.hid tl; have KR := Lib.hid kR; have H0 := Lib.hid h0; have OK := Lib.hid ok
  clear hi hcf tx rf kI kS ls tl kR h0 hR hX hC ok cv h
  go_enter Tryd.func13, Tryd.ntmps13
  go_wp2_with (first | (refine wpList_load_g (by rfl) 23 (.tmp 1) rfl (g := b) (off := 0) rfl H0.out (cs := C) (t := 23) (fr := (0, 0)) (by simp) C (fun j hj => by rw [Nat.zero_add]) _ Tryd.underlying23 rfl HI.out ?_))
  refine (KR.out _ _ H0.out).mono ?_
  rintro e w2 ⟨rfl, h2⟩
  have H2 := Lib.hid h2
  obtain ⟨c0, c1, c2, c3, c4⟩ := HCF.out _ _ h2 (by simp)
  clear h2 H0 KR
  cases R with
  | false =>
    have tx := TX.out
    rw [if_neg (by decide)] at tx
    subst tx
    go_wp2_with fail
    go_ret
    exact ⟨rfl, St.weaken (A := [_]) H2.out⟩
  | true =>
    obtain ⟨r0, r1, rk⟩ := RF.out rfl
    have tx := TX.out
    rw [if_pos rfl] at tx
    obtain ⟨kn, hkn⟩ : ∃ n : Nat, c.kind = (n : Int) := ⟨c.kind.toNat, by omega⟩
    have tl := TL.out
    rw [hkn, Int.toNat_natCast] at tx
    rw [hkn] at rk tl
    have hcf := HCF.out
    rw [hkn] at hcf
    have kI := KI.out c.client (by omega) (by omega)
    have li : (Lib.itoa c.client).length ≤ 20 := by
      rw [itoa_nn _ r0]
      exact decD_len 20 _ (by omega) (by omega)
    have f0 := ba_app (Lib.itoa c.client) [32]
    have y0 := ba_size (Lib.itoa c.client)
    have ya := ba_size (Lib.itoa c.client ++ [32])
    rw [List.length_append] at ya
    have hx2 : X = (Lib.itoa c.client ++ [32]) ++ (cwordsL.getD kn [] ++ tailC c) := by rw [tx]; simp
    generalize Lib.itoa c.client ++ [32] = is at *
    obtain ⟨bi, hbi⟩ : ∃ x, (⟨(Lib.itoa c.client).toArray⟩ : ByteArray) = x := ⟨_, rfl⟩
    rw [hbi] at kI f0 y0
    have bsz : bi.size ≤ 20 := by omega
    obtain ⟨b1, hb1⟩ : ∃ x, (⟨is.toArray⟩ : ByteArray) = x := ⟨_, rfl⟩
    rw [hb1] at f0
    have z1 : ¬ (9223372036854775807 < bi.size + 1) := by omega
    have F0 := Lib.hid f0; have KI2 := Lib.hid kI; have HB1 := Lib.hid hb1; have HX := Lib.hid hx2; have HCF2 := Lib.hid hcf; have TLL := Lib.hid tl; have RK := Lib.hid rk
    clear f0 kI hb1 hx2 hcf tl rk y0 ya li hbi tx HCF TX RF TL
    go_wp2_with fail
    refine (KI2.out _ _ H2.out).mono ?_
    rintro e w3 ⟨rfl, h3⟩
    have H3 := Lib.hid h3
    obtain ⟨q0, q1, q2, q3, q4⟩ := HCF2.out _ _ h3 (by simp)
    clear h3 H2 KI2 c0 c1 c2 c3 c4 hkn
    have hfin : ∀ (t : List UInt8), cwordsL.getD kn [] ++ tailC c = t → (bi ++ ⟨#[32]⟩) ++ ⟨t.toArray⟩ = ⟨X.toArray⟩ := fun t ht => by
      rw [F0.out, ← HB1.out, ba_app, HX.out, ht]
    rcases RK.out with ⟨k, s0, j0, hn1⟩ | ⟨k, s0, hn1, j0, j1⟩ | ⟨k, s0, j0, hn1⟩ | ⟨k, j0, hn1, s0, s1⟩
    · obtain rfl : kn = 1 := by omega
      have tl := TLL.out
      rw [if_pos k] at tl
      have f1 := hfin ([105, 110, 115, 116, 97, 108, 108, 32] ++ showOf c.name) (by rw [tl]; simp [cwordsL])
      have f2 := ba_app [105, 110, 115, 116, 97, 108, 108, 32] (showOf c.name)
      have y1 := ba_size (showOf c.name)
      have y2 : (showOf c.name).length ≤ 12000000 := by
        have := LS.out; omega
      have kJ := KS.out
      rw [← f2] at f1
      obtain ⟨bs, hbs⟩ : ∃ x, (⟨(showOf c.name).toArray⟩ : ByteArray) = x := ⟨_, rfl⟩
      rw [hbs] at f1 kJ y1
      have f3 : ((bi ++ ⟨#[32]⟩) ++ ⟨#[105, 110, 115, 116, 97, 108, 108, 32]⟩) ++ bs = ⟨X.toArray⟩ := by rw [ba_assoc _ _ bs]; exact f1
      have z2 : ¬ (9223372036854775807 < bi.size + 1 + 8) := by omega
      have z3 : ¬ (9223372036854775807 < bi.size + 1 + 8 + bs.size) := by omega
      have F3 := Lib.hid f3; have KJ := Lib.hid kJ
      clear f1 f2 f3 tl hfin kJ hbs y1 y2 k q0 q2 q3 HX
      go_wp2_with fail
      refine (KJ.out _ _ H3.out).mono ?_
      rintro e w5 ⟨rfl, h5⟩
      have H5 := Lib.hid h5
      clear h5 H3 KJ
      go_wp2_with fail
      go_ret
      exact ⟨congrArg (fun s => Ending.returned (Value.string s)) F3.out, St.weaken (A := [_]) H5.out⟩
    · obtain rfl : kn = 2 := by omega
      have tl := TLL.out
      rw [if_neg (by omega), if_pos k] at tl
      have f1 := hfin ([99, 97, 110, 99, 101, 108, 32] ++ Lib.itoa c.job) (by rw [tl]; simp [cwordsL])
      have f2 := ba_app [99, 97, 110, 99, 101, 108, 32] (Lib.itoa c.job)
      have y1 := ba_size (Lib.itoa c.job)
      have y2 : (Lib.itoa c.job).length ≤ 12000000 := by
        rw [itoa_nn _ (by omega)]; have := decD_len 20 (c.job.toNat) (by omega) (by omega); omega
      have kJ := KI.out c.job (by omega) (by omega)
      rw [← f2] at f1
      obtain ⟨bs, hbs⟩ : ∃ x, (⟨(Lib.itoa c.job).toArray⟩ : ByteArray) = x := ⟨_, rfl⟩
      rw [hbs] at f1 kJ y1
      have f3 : ((bi ++ ⟨#[32]⟩) ++ ⟨#[99, 97, 110, 99, 101, 108, 32]⟩) ++ bs = ⟨X.toArray⟩ := by rw [ba_assoc _ _ bs]; exact f1
      have z2 : ¬ (9223372036854775807 < bi.size + 1 + 7) := by omega
      have z3 : ¬ (9223372036854775807 < bi.size + 1 + 7 + bs.size) := by omega
      have F3 := Lib.hid f3; have KJ := Lib.hid kJ
      clear f1 f2 f3 tl hfin kJ hbs y1 y2 k q0 q2 q4 HX
      go_wp2_with fail
      refine (KJ.out _ _ H3.out).mono ?_
      rintro e w5 ⟨rfl, h5⟩
      have H5 := Lib.hid h5
      clear h5 H3 KJ
      go_wp2_with fail
      go_ret
      exact ⟨congrArg (fun s => Ending.returned (Value.string s)) F3.out, St.weaken (A := [_]) H5.out⟩
    · rcases k with k | k
      · obtain rfl : kn = 3 := by omega
        have tl := TLL.out
        rw [if_neg (by omega), if_neg (by omega), if_neg (by omega)] at tl
        have f1 := hfin [115, 116, 97, 116, 117, 115] (by rw [tl]; simp [cwordsL])
        have z2 : ¬ (9223372036854775807 < bi.size + 1 + 6) := by omega
        have F3 := Lib.hid f1
        clear f1 tl hfin k q0 q2 q3 q4 HX
        go_wp2_with fail
        go_ret
        exact ⟨by first | exact congrArg (fun s => Ending.returned (Value.string s)) F3.out | (rw [← F3.out, ← F0.out]; rfl), St.weaken (A := [_]) H3.out⟩
      · obtain rfl : kn = 6 := by omega
        have tl := TLL.out
        rw [if_neg (by omega), if_neg (by omega), if_neg (by omega)] at tl
        have f1 := hfin [114, 101, 98, 111, 111, 116] (by rw [tl]; simp [cwordsL])
        have z2 : ¬ (9223372036854775807 < bi.size + 1 + 6) := by omega
        have F3 := Lib.hid f1
        clear f1 tl hfin k q0 q2 q3 q4 HX
        go_wp2_with fail
        go_ret
        exact ⟨by first | exact congrArg (fun s => Ending.returned (Value.string s)) F3.out | (rw [← F3.out, ← F0.out]; rfl), St.weaken (A := [_]) H3.out⟩
    · rcases k with k | k
      · obtain rfl : kn = 4 := by omega
        have tl := TLL.out
        rw [if_neg (by omega), if_neg (by omega), if_pos (by omega)] at tl
        have f1 := hfin ([103, 111, 111, 100, 32] ++ Lib.itoa c.slot) (by rw [tl]; simp [cwordsL])
        have f2 := ba_app [103, 111, 111, 100, 32] (Lib.itoa c.slot)
        have y1 := ba_size (Lib.itoa c.slot)
        have y2 : (Lib.itoa c.slot).length ≤ 12000000 := by
          rw [itoa_nn _ (by omega)]; have := decD_len 20 (c.slot.toNat) (by omega) (by omega); omega
        have kJ := KI.out c.slot (by omega) (by omega)
        rw [← f2] at f1
        obtain ⟨bs, hbs⟩ : ∃ x, (⟨(Lib.itoa c.slot).toArray⟩ : ByteArray) = x := ⟨_, rfl⟩
        rw [hbs] at f1 kJ y1
        have f3 : ((bi ++ ⟨#[32]⟩) ++ ⟨#[103, 111, 111, 100, 32]⟩) ++ bs = ⟨X.toArray⟩ := by rw [ba_assoc _ _ bs]; exact f1
        have z2 : ¬ (9223372036854775807 < bi.size + 1 + 5) := by omega
        have z3 : ¬ (9223372036854775807 < bi.size + 1 + 5 + bs.size) := by omega
        have F3 := Lib.hid f3; have KJ := Lib.hid kJ
        clear f1 f2 f3 tl hfin kJ hbs y1 y2 k q0 q3 q4 HX
        go_wp2_with fail
        refine (KJ.out _ _ H3.out).mono ?_
        rintro e w5 ⟨rfl, h5⟩
        have H5 := Lib.hid h5
        clear h5 H3 KJ
        go_wp2_with fail
        go_ret
        exact ⟨congrArg (fun s => Ending.returned (Value.string s)) F3.out, St.weaken (A := [_]) H5.out⟩
      · obtain rfl : kn = 5 := by omega
        have tl := TLL.out
        rw [if_neg (by omega), if_neg (by omega), if_pos (by omega)] at tl
        have f1 := hfin ([98, 97, 100, 32] ++ Lib.itoa c.slot) (by rw [tl]; simp [cwordsL])
        have f2 := ba_app [98, 97, 100, 32] (Lib.itoa c.slot)
        have y1 := ba_size (Lib.itoa c.slot)
        have y2 : (Lib.itoa c.slot).length ≤ 12000000 := by
          rw [itoa_nn _ (by omega)]; have := decD_len 20 (c.slot.toNat) (by omega) (by omega); omega
        have kJ := KI.out c.slot (by omega) (by omega)
        rw [← f2] at f1
        obtain ⟨bs, hbs⟩ : ∃ x, (⟨(Lib.itoa c.slot).toArray⟩ : ByteArray) = x := ⟨_, rfl⟩
        rw [hbs] at f1 kJ y1
        have f3 : ((bi ++ ⟨#[32]⟩) ++ ⟨#[98, 97, 100, 32]⟩) ++ bs = ⟨X.toArray⟩ := by rw [ba_assoc _ _ bs]; exact f1
        have z2 : ¬ (9223372036854775807 < bi.size + 1 + 4) := by omega
        have z3 : ¬ (9223372036854775807 < bi.size + 1 + 4 + bs.size) := by omega
        have F3 := Lib.hid f3; have KJ := Lib.hid kJ
        clear f1 f2 f3 tl hfin kJ hbs y1 y2 k q0 q3 q4 HX
        go_wp2_with fail
        refine (KJ.out _ _ H3.out).mono ?_
        rintro e w5 ⟨rfl, h5⟩
        have H5 := Lib.hid h5
        clear h5 H3 KJ
        go_wp2_with fail
        go_ret
        exact ⟨congrArg (fun s => Ending.returned (Value.string s)) F3.out, St.weaken (A := [_]) H5.out⟩

end
end Go.Proofs.YtjcekmmieihllaaDoor
