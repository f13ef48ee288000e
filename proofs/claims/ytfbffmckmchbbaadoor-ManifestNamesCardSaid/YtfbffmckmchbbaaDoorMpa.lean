/- manifest: Parse: walk. -/
import Derived.Test.YtfbffmckmchbbaaDoorMbH
import Derived.Test.YtfbffmckmchbbaaDoorMkR
namespace Go.Proofs.YtfbffmckmchbbaaDoor
set_option linter.unusedVariables false
set_option linter.unusedSimpArgs false
open Go.RowKit Go.Lib

/-- The manifest that bytes say, so far. -/
def hdM (h : Hd) (dig : List UInt8) (A : Option Addr) (n c : Nat) : Man := ⟨pA h.prod, h.ver, h.size, h.chunk, dig, A, n, c⟩
theorem hd_bounds (L : Nat) (bs : List UInt8) : (hd L bs).ver < 18446744073709551616 ∧ (hd L bs).size < 4294967296 ∧ (hd L bs).chunk < 65536 := by
  have p (n : Nat) (s : Rs) : leV (tk n s).1 < 256 ^ n := Nat.lt_of_lt_of_le (leV_lt _) (Nat.pow_le_pow_right (by omega) (tk_len n s))
  exact ⟨p 8 _, p 4 _, p 2 _⟩
theorem hdM_ok {L : Nat} {bs dig : List UInt8} (hd' : dig.length = 32) (A : Option Addr) (n c : Nat) (hn : n ≤ 9223372036854775807) : (hdM (hd L bs) dig A n c).Ok := by
  obtain ⟨h1, h2, h3⟩ := hd_bounds L bs
  exact ⟨hd', by simp [hdM], by simp only [hdM]; omega, by simp only [hdM]; omega, by simp only [hdM]; omega, by simp only [hdM]; omega, by simp only [hdM]; omega, hn⟩

section
variable {W w : World} {I : Nat → Option Obj} {F : List (Nat × Obj)}
def PaPost0 (W : World) (I : Nat → Option Obj) (F : List (Nat × Obj)) (G : Bool) (m : Option Addr → Nat → Man) (N : Nat) (hs : List (List UInt8)) (e : Ending) (w' : World) : Prop :=
  (G = true → ∃ A c L0, e = .returned (.tuple #[(m A c).val, .int .i64 0]) ∧ Row 26 32 (.slice A N c) N (hcells hs) L0 ∧ St W w' I (L0 ++ F)) ∧
  (G = false → e = .returned (.tuple #[zman.val, .int .i64 131]) ∧ St W w' I F)
def PaPost (W : World) (I : Nat → Option Obj) (F : List (Nat × Obj)) (bs : List UInt8) : Ending → World → Prop :=
  PaPost0 W I F (ownGood bs) (fun A c => hdM (hd 96 bs) (hd 96 bs).dig A (pcnt (hd 96 bs)) c) (pcnt (hd 96 bs)) (hsOf (hd 96 bs).rest (pcnt (hd 96 bs)))

set_option maxRecDepth 100000 in
set_option maxHeartbeats 8000000 in
theorem mparse (t : TB W I) (p : Part) (hp : p.In W I) (hl : p.bs.length ≤ 100000) (hcap : p.bs.length ≤ p.c) (h : St W w I F) :
    Calls Tryd.prog 12 #[.slice p.A p.bs.length p.c] w (PaPost W I F p.bs) := by
  obtain ⟨A0, cap, bs⟩ := p
  simp only at hl hcap ⊢
  obtain ⟨b2, hb2⟩ : ∃ b, b = w.heap.size := ⟨_, rfl⟩
  have h1 := h.alloc (.cells zman.cells 29)
  rw [← hb2] at h1
  have kN := code_new ⟨A0, cap, bs⟩ hp (by simp only; omega) hcap h1
  simp only [Part.val] at kN
  have kN : Calls Tryd.prog 30 #[.slice A0 bs.length cap] (w.alloc (.cells zman.cells 29)) fun e w' => ∃ g, e = .returned (.pointer (some ⟨g, 0, none⟩)) ∧ RSt W w' I g (some bs) ((b2, .cells zman.cells 29 (0, 0)) :: F) := kN.mono fun e w' ⟨he, hr⟩ => ⟨_, he, hr⟩
  have kT : ∀ g v F', RSt W v I g (some bs) F' → Calls Tryd.prog 31 #[.pointer (some ⟨g, 0, none⟩), .int .i64 96] v fun e w' => e = .returned (.string (pA (hd 96 bs).prod)) ∧ RSt W w' I g (hd2 96 bs).2 F' := fun g v F' h => code_rtext h 96 (by omega)
  have kF3 : ∀ g v F', RSt W v I g (hd2 96 bs).2 F' → Calls Tryd.prog 32 #[.pointer (some ⟨g, 0, none⟩), .int .i64 8] v fun e w' => e = .returned (.int .u64 ((hd 96 bs).ver : Int)) ∧ RSt W w' I g (hd3 96 bs).2 F' := fun g v F' h => code_fixed h 8 (by omega)
  have kF4 : ∀ g v F', RSt W v I g (hd3 96 bs).2 F' → Calls Tryd.prog 32 #[.pointer (some ⟨g, 0, none⟩), .int .i64 4] v fun e w' => e = .returned (.int .u64 ((hd 96 bs).size : Int)) ∧ RSt W w' I g (hd4 96 bs).2 F' := fun g v F' h => code_fixed h 4 (by omega)
  have kF5 : ∀ g v F', RSt W v I g (hd4 96 bs).2 F' → Calls Tryd.prog 32 #[.pointer (some ⟨g, 0, none⟩), .int .i64 2] v fun e w' => e = .returned (.int .u64 ((hd 96 bs).chunk : Int)) ∧ RSt W w' I g (hd5 96 bs).2 F' := fun g v F' h => code_fixed h 2 (by omega)
  have kH6 : ∀ g v F', RSt W v I g (hd5 96 bs).2 F' → Calls Tryd.prog 33 #[.pointer (some ⟨g, 0, none⟩)] v fun e w' => e = .returned (.agg (bcells (hd 96 bs).dig)) ∧ RSt W w' I g (hd 96 bs).rest F' := fun g v F' h => mhash h
  have kH : ∀ k g v F', RSt W v I g (stN (hd 96 bs).rest k) F' → Calls Tryd.prog 33 #[.pointer (some ⟨g, 0, none⟩)] v fun e w' => e = .returned (.agg (bcells (hsAt (hd 96 bs).rest k))) ∧ RSt W w' I g (stN (hd 96 bs).rest (k + 1)) F' := fun k g v F' h => mhash h
  have hpl : (pA (hd 96 bs).prod).size ≤ 140737488355328 := by
    have h1 := leV_tk2 (some bs)
    have h2 : (hd 96 bs).prod.length ≤ _ := tk_len _ _
    rw [pA_size]
    have h3 : leV (hd1 bs).1 < 65536 := h1
    omega
  have hdl : (hd 96 bs).dig.length = 32 := pad32_len (tk_len _ _)
  obtain ⟨q1, q2, q3⟩ := hd_bounds 96 bs
  have hok : ∀ dig : List UInt8, dig.length = 32 → ∀ (A : Option Addr) (n c : Nat), n ≤ 1000 → (hdM (hd 96 bs) dig A n c).Ok := fun dig hd' A n c hn => hdM_ok hd' A n c (by omega)
  obtain ⟨S2, hS2⟩ : ∃ S, (hd2 96 bs).2 = S := ⟨_, rfl⟩
  obtain ⟨S3, hS3⟩ : ∃ S, (hd3 96 bs).2 = S := ⟨_, rfl⟩
  obtain ⟨S4, hS4⟩ : ∃ S, (hd4 96 bs).2 = S := ⟨_, rfl⟩
  obtain ⟨S5, hS5⟩ : ∃ S, (hd5 96 bs).2 = S := ⟨_, rfl⟩
  rw [hS2] at kT kF3
  rw [hS3] at kF3 kF4
  rw [hS4] at kF4 kF5
  rw [hS5] at kF5 kH6
  unfold PaPost
  obtain ⟨G, hG⟩ : ∃ G, ownGood bs = G := ⟨_, rfl⟩
  unfold ownGood at hG
  rw [show ownGood bs = G from hG]
  generalize hd 96 bs = H at *
  obtain ⟨prod, ver, size, chunk, dig, rest⟩ := H
  simp only at *
  obtain ⟨N, hN⟩ : ∃ N, pcnt ⟨prod, ver, size, chunk, dig, rest⟩ = N := ⟨_, rfl⟩
  rw [hN] at hG ⊢
  have hN65 : N ≤ 65 := by rw [← hN]; exact pcnt_le _
  have hNi : min (cntM size chunk) 65 = (N : Int) := by
    have h0 : 0 ≤ cntM size chunk := by
      unfold cntM
      split
      · omega
      · have := Int.ediv_nonneg (by omega : (0 : Int) ≤ (size : Int) - 1) (by omega : (0 : Int) ≤ (chunk : Int)); omega
    rw [← hN]
    unfold pcnt
    simp only
    omega
  obtain ⟨CN, hCN⟩ : ∃ C, cntM size chunk = C := ⟨_, rfl⟩
  rw [hCN] at hNi
  have HCN := Lib.hid hCN; have HNI := Lib.hid hNi
  clear hN hCN hNi
  have KT := Lib.hid kT; have KF3 := Lib.hid kF3; have KF4 := Lib.hid kF4; have KF5 := Lib.hid kF5; have KH6 := Lib.hid kH6; have KH := Lib.hid kH; have HOK := Lib.hid hok; have HDL := Lib.hid hdl; have HG := Lib.hid hG; have HPL := Lib.hid hpl; have TT := Lib.hid t
  clear kT kF3 kF4 kF5 kH6 kH hok hdl hS2 hS3 hS4 hS5 hG hpl t
  have q2i : (size : Int) < 4294967296 := by omega
  have q3i : (chunk : Int) < 65536 := by omega
  have hlit := zman_lit
  have KN := Lib.hid kN; have HLIT := Lib.hid hlit; have HB2 := Lib.hid hb2
  clear h h1 kN hp hlit hb2
  generalize hzc : zman.cells = zc at *
  have hx := HLIT.out
  subst hx
  go_enter Tryd.func12, Tryd.ntmps12
  go_wp2_with fail
  refine KN.out.mono ?_
  rintro e w1 ⟨g, rfl, h1⟩
  rw [← HB2.out]
  clear HB2 KN
  have H1 := Lib.hid h1
  clear h1
  go_wp2_with fail
  refine (KT.out _ _ _ H1.out).mono ?_
  rintro e w2 ⟨rfl, h2⟩
  have H2 := Lib.hid h2
  clear h2 H1 KT
  go_wp2_with fail
  refine (KF3.out _ _ _ H2.out).mono ?_
  rintro e w3 ⟨rfl, h3⟩
  have H3 := Lib.hid h3
  clear h3 H2 KF3
  go_wp2_with fail
  refine (KF4.out _ _ _ H3.out).mono ?_
  rintro e w4 ⟨rfl, h4⟩
  have H4 := Lib.hid h4
  clear h4 H3 KF4
  go_wp2_with fail
  refine (KF5.out _ _ _ H4.out).mono ?_
  rintro e w5 ⟨rfl, A5, n5, c5, x5, hr5, h5⟩
  have h6 := h5.alloc (.cells (Value.string ⟨#[]⟩ :: .int .u64 0 :: .int .i64 0 :: .int .i64 0 :: .int .u8 0 :: .int .u8 0 :: .int .u8 0 :: .int .u8 0 :: .int .u8 0 :: .int .u8 0 :: .int .u8 0 :: .int .u8 0 :: .int .u8 0 :: .int .u8 0 :: .int .u8 0 :: .int .u8 0 :: .int .u8 0 :: .int .u8 0 :: .int .u8 0 :: .int .u8 0 :: .int .u8 0 :: .int .u8 0 :: .int .u8 0 :: .int .u8 0 :: .int .u8 0 :: .int .u8 0 :: .int .u8 0 :: .int .u8 0 :: .int .u8 0 :: .int .u8 0 :: .int .u8 0 :: .int .u8 0 :: .int .u8 0 :: .int .u8 0 :: .int .u8 0 :: .int .u8 0 :: .slice none 0 0 :: []).toArray 29)
  have hbuild := fun w => run_build_man4 (pA prod) ver size chunk w
  have okz := HOK.out z32 rfl none 0 0 (by omega)
  obtain ⟨mc, hmc⟩ : ∃ mc, mc = Man.cells ⟨pA prod, ver, size, chunk, z32, none, 0, 0⟩ := ⟨_, rfl⟩
  have hms : mc.size = 37 := by rw [hmc]; exact Man.cells_size okz
  have hone : mc.all (·.oneCell') = true := by rw [hmc]; exact Man.one _
  have hset := man_setdig ⟨pA prod, ver, size, chunk, z32, none, 0, 0⟩ okz dig HDL.out
  rw [← hmc] at hbuild hset
  have ix : (Tryd.prog.info? 29).map (·.size) = some mc.size := by rw [hms]; kernel_rfl
  have fx : 0 + mc.size ≤ ((Value.string ⟨#[]⟩ :: .int .u64 0 :: .int .i64 0 :: .int .i64 0 :: .int .u8 0 :: .int .u8 0 :: .int .u8 0 :: .int .u8 0 :: .int .u8 0 :: .int .u8 0 :: .int .u8 0 :: .int .u8 0 :: .int .u8 0 :: .int .u8 0 :: .int .u8 0 :: .int .u8 0 :: .int .u8 0 :: .int .u8 0 :: .int .u8 0 :: .int .u8 0 :: .int .u8 0 :: .int .u8 0 :: .int .u8 0 :: .int .u8 0 :: .int .u8 0 :: .int .u8 0 :: .int .u8 0 :: .int .u8 0 :: .int .u8 0 :: .int .u8 0 :: .int .u8 0 :: .int .u8 0 :: .int .u8 0 :: .int .u8 0 :: .int .u8 0 :: .int .u8 0 :: .slice none 0 0 :: []).toArray : Array Value).size := by rw [hms]; decide
  have H6 := Lib.hid h6; have HR5 := Lib.hid hr5; have HB := Lib.hid hbuild; have HMS := Lib.hid hms; have HMC := Lib.hid hmc; have HO := Lib.hid hone; have HSET := Lib.hid hset; have IX := Lib.hid ix; have FX := Lib.hid fx
  clear h5 h6 hr5 hbuild hms hmc hone hset ix fx H4 KF5 okz
  go_wp2_with (first
    | (with_reducible refine wpList_build_st rfl 29 _ rfl _ ?_ (HB.out _) ?_; · go_simp)
    | (with_reducible refine wpList_store_st rfl 29 (.tmp 5) (.tmp 18) rfl (g := w5.heap.size) (off := 0) mc rfl rfl H6.out FX.out IX.out HO.out ?_; intro w6 h6; refine Hid.out ?_))
  refine Lib.hid ?_
  rw [setMany_whole _ _ (by rw [Array.length_toList, HMS.out]; rfl), Array.toArray_toList] at h6
  generalize w5.heap.size = bm at *
  have H7 := Lib.hid h6
  clear h6 H6 HB IX FX HO
  generalize hzc : (Value.string ⟨#[]⟩ :: .int .u64 0 :: .int .i64 0 :: .int .i64 0 :: .int .u8 0 :: .int .u8 0 :: .int .u8 0 :: .int .u8 0 :: .int .u8 0 :: .int .u8 0 :: .int .u8 0 :: .int .u8 0 :: .int .u8 0 :: .int .u8 0 :: .int .u8 0 :: .int .u8 0 :: .int .u8 0 :: .int .u8 0 :: .int .u8 0 :: .int .u8 0 :: .int .u8 0 :: .int .u8 0 :: .int .u8 0 :: .int .u8 0 :: .int .u8 0 :: .int .u8 0 :: .int .u8 0 :: .int .u8 0 :: .int .u8 0 :: .int .u8 0 :: .int .u8 0 :: .int .u8 0 :: .int .u8 0 :: .int .u8 0 :: .int .u8 0 :: .int .u8 0 :: .slice none 0 0 :: []).toArray = zc at *
  have hzs : zc.size = 37 := by rw [← hzc]; rfl
  have hzo : zc.all (·.oneCell') = true := by
    have h9 := Man.one zman
    rw [zman_lit] at h9
    rw [← hzc]
    exact h9
  have hzi : (Tryd.prog.info? 29).map (·.size) = some zc.size := by rw [hzs]; kernel_rfl
  have hzf : 0 + zc.size ≤ zc.size := by omega
  have HZC := Lib.hid hzc; have HZS := Lib.hid hzs; have HZO := Lib.hid hzo; have HZI := Lib.hid hzi; have HZF := Lib.hid hzf
  clear hzc hzs hzo hzi hzf HLIT
  have kH7 := KH6.out g w6 ((bm, .cells mc 29 (0, 0)) :: (b2, .cells zc 29 (0, 0)) :: F) ⟨_, _, _, _, HR5.out, St.swap (A := [_]) (B := [_]) H7.out⟩
  have KH7 := Lib.hid kH7
  clear kH7 KH6 H7 HR5
  go_wp2_with fail
  refine KH7.out.mono ?_
  rintro e w7 ⟨rfl, A7, n7, c7, x7, hr7, h7⟩
  have h8 := St.swap (A := [_]) (B := [_]) h7
  have hds : (bcells dig).size = 32 := by rw [bcells_size, HDL.out]
  have hdi : (Tryd.prog.info? 26).map (·.size) = some (bcells dig).size := by rw [hds]; kernel_rfl
  have hdf : 4 + (bcells dig).size ≤ mc.size := by rw [hds, HMS.out]; decide
  have hdo := bcells_one dig
  have H8 := Lib.hid h8; have HR7 := Lib.hid hr7; have HDI := Lib.hid hdi; have HDF := Lib.hid hdf; have HDO := Lib.hid hdo
  clear h7 h8 hr7 hdi hdf hdo hds KH7
  go_wp2_with (with_reducible refine wpList_store_st rfl 26 (.tmp 21) (.tmp 20) rfl (g := bm) (off := 4) (bcells dig) rfl rfl H8.out HDF.out HDI.out HDO.out ?_; intro w8 h9; refine Hid.out ?_)
  refine Lib.hid ?_
  rw [HSET.out] at h9
  obtain ⟨M, hM⟩ : ∃ M : Option Addr → Nat → Nat → Man, M = fun A n c => hdM ⟨prod, ver, size, chunk, dig, rest⟩ dig A n c := ⟨_, rfl⟩
  have hMok : ∀ (A : Option Addr) (n c : Nat), n ≤ 1000 → (M A n c).Ok := fun A n c hn => by rw [hM]; exact HOK.out dig HDL.out A n c hn
  have h9 : St W w8 I ((bm, .cells (M none 0 0).cells 29 (0, 0)) :: (g, .cells #[.slice A7 n7 c7, .int .i64 x7] 88 (0, 0)) :: (b2, .cells zc 29 (0, 0)) :: F) := by rw [hM]; exact h9
  have fac : ∀ (A : Option Addr) (n c : Nat), n ≤ 1000 → ∀ (v : World) (J : Nat → Option Obj) (L : List (Nat × Obj)), St W v J L → (bm, Obj.cells (M A n c).cells 29 (0, 0)) ∈ L → v.cell? ⟨bm, 2, none⟩ = some (.int .i64 (size : Int)) ∧ v.cell? ⟨bm, 3, none⟩ = some (.int .i64 (chunk : Int)) ∧ v.cell? ⟨bm, 36, none⟩ = some (.slice A n c) := fun A n c hn v J L hv hm => by
    have h1 := man_cells (hMok A n c hn) hv hm
    rw [hM] at h1
    exact h1.2.2
  have hset36 : ∀ (A : Option Addr) (n c : Nat), n ≤ 1000 → ∀ (A' : Option Addr) (n' c' : Nat), (M A n c).cells.setIfInBounds 36 (.slice A' n' c') = (M A' n' c').cells := fun A n c hn A' n' c' => by
    rw [man_set36 _ (hMok A n c hn), hM]
    rfl
  obtain ⟨e2, e3, _⟩ := fac none 0 0 (by omega) _ _ _ h9 (List.mem_cons_self ..)
  have kC := fun (v : World) => count_any size chunk (by omega) (by omega) v
  rw [HCN.out] at kC
  have hNi := HNI.out
  have hMv : M = fun A n c => hdM ⟨prod, ver, size, chunk, dig, rest⟩ dig A n c := hM
  have H9 := Lib.hid h9; have FAC := Lib.hid fac; have HSET36 := Lib.hid hset36; have HMOK := Lib.hid hMok; have KC := Lib.hid kC; have HM := Lib.hid hM;
  clear h9 fac hset36 hMok kC hM hMv HSET HDI HDF HDO H8 HMC HMS
  go_wp2_with fail
  refine (KC.out _).mono ?_
  rintro e w9 ⟨rfl, rfl⟩
  clear KC e2 e3
  go_wp2_with fail
  go_loopw [28] (fun i wr => ∃ (k : Nat) (A : Option Addr) (c : Nat) (L0 : List (Nat × Obj)), i = .int .i64 k ∧ k ≤ N ∧ Row 26 32 (.slice A k c) k (hcells (hsOf rest k)) L0 ∧ RSt W wr I g (stN rest k) ((bm, .cells (M A k c).cells 29 (0, 0)) :: (L0 ++ ((b2, .cells zc 29 (0, 0)) :: F)))) (fun i _ => N - (intOf i).toNat)
  case atStart => exact ⟨0, none, 0, [], rfl, by omega, Row.nil _ _, _, _, _, _, HR7.out, St.swap (A := [_]) (B := [_]) H9.out⟩
  case round =>
    obtain ⟨k, A, c, L0, rfl, hk, hrow, hst⟩ := hrel
    clear H9 HR7
    by_cases hkl : k < N
    · have kS := KH.out k g
      obtain ⟨X, hX⟩ : ∃ X, bcells (hsAt rest k) = X := ⟨_, rfl⟩
      rw [hX] at kS
      have hXs : X.size = 32 := by rw [← hX, bcells_size]; exact pad32_len (tk_len _ _)
      have hone : ∀ u ∈ X.toList, u.oneCell' = true := by
        intro u hu
        have h1 := bcells_one (hsAt rest k)
        rw [← hX] at hu
        exact Array.all_eq_true_iff_forall_mem.1 h1 u (Array.mem_toList_iff.1 hu)
      have hadd : hcells (hsOf rest k) ++ X.toList = hcells (hsOf rest (k + 1)) := by
        rw [hsOf_succ, hcells_add, ← hX]
        simp [bcells]
      obtain ⟨A1, n1, c1, x1, hr1, hs1⟩ := hst
      have facts : ∀ (v : World) (L : List (Nat × Obj)), St W v I L → (bm, Obj.cells (M A k c).cells 29 (0, 0)) ∈ L → v.cell? ⟨bm, 36, none⟩ = some (.slice A k c) := fun v L hv hm => (FAC.out A k c (by omega) v I L hv hm).2.2
      have kS2 : ∀ v, St W v I ((g, .cells #[.slice A1 n1 c1, .int .i64 x1] 88 (0, 0)) :: (bm, .cells (M A k c).cells 29 (0, 0)) :: (L0 ++ ((b2, .cells zc 29 (0, 0)) :: F))) → Calls Tryd.prog 33 #[.pointer (some ⟨g, 0, none⟩)] v fun e w' => e = .returned (.agg X) ∧ RSt W w' I g (stN rest (k + 1)) ((bm, .cells (M A k c).cells 29 (0, 0)) :: (L0 ++ ((b2, .cells zc 29 (0, 0)) :: F))) := fun v h => kS v _ ⟨_, _, _, _, hr1, h⟩
      have CS := Lib.hid kS2; have HADD := Lib.hid hadd; have HONE := Lib.hid hone; have HROW := Lib.hid hrow; have HX := Lib.hid hX; have HST := Lib.hid hs1; have FACTS := Lib.hid facts
      have S0 : wr.drew.cell? ⟨bm, 36, none⟩ = some (.slice A k c) := facts _ _ hs1.drew1 (by simp)
      have F4 : (k : Int) < (N : Int) := by omega
      clear kS kS2 hadd hone hrow hX hs1 facts hr1
      go_wp2_with fail
      go_region_law (first
        | (go_simp; go_at_call 33; refine (CS.out _ (by first | exact HST.out.drew1 | exact HST.out.drew _ | exact HST.out)).mono ?_; rintro e w5 ⟨rfl, A2, n2, c2, x2, hr2, h5⟩; have S5 := FACTS.out _ _ h5 (by simp); have S5a : ∀ o, (w5.alloc o).cell? ⟨bm, 36, none⟩ = some (.slice A k c) := fun o => cell_old S5; dsimp only)
        | (refine step_append_row (F := [(g, .cells #[.slice A2 n2 c2, .int .i64 x2] 88 (0, 0)), (bm, .cells (M A k c).cells 29 (0, 0))] ++ ((b2, .cells zc 29 (0, 0)) :: F)) rfl (.tmp 31) (.tmp 34) _ rfl 26 (.agg #[.int .u8 0, .int .u8 0, .int .u8 0, .int .u8 0, .int .u8 0, .int .u8 0, .int .u8 0, .int .u8 0, .int .u8 0, .int .u8 0, .int .u8 0, .int .u8 0, .int .u8 0, .int .u8 0, .int .u8 0, .int .u8 0, .int .u8 0, .int .u8 0, .int .u8 0, .int .u8 0, .int .u8 0, .int .u8 0, .int .u8 0, .int .u8 0, .int .u8 0, .int .u8 0, .int .u8 0, .int .u8 0, .int .u8 0, .int .u8 0, .int .u8 0, .int .u8 0]) 32 32 Tryd.underlying27 (by kernel_rfl) rfl (by omega) rfl HROW.out (St.swap (A := [_, _]) (St.alloc_ h5 _)) rfl (Src.newS _ 32 _ 26 rfl 1 (by rw [fold32 X hXs _ rfl]; exact hXs)) (by rw [fold32 X hXs _ rfl]; exact HONE.out) (k + 1) rfl (hcells (hsOf rest (k + 1))) (by rw [fold32 X hXs _ rfl]; exact HADD.out) (by unfold maxLen; omega) (by omega) ?_; intro A6 c6 w6 L6 hr6 h6; have S6 : w6.cell? ⟨bm, 36, none⟩ = some (.slice A k c) := FACTS.out _ _ h6 (by simp); have Z6 : w6.frozen? ⟨bm, 36, none⟩ = false := h6.frozen (g := bm) (t := 29) (cs := (M A k c).cells) (by simp) 36; dsimp only))
      all_goals
        have h7 := St.set (A := L6 ++ [(g, Obj.cells #[.slice A2 n2 c2, .int .i64 x2] 88 (0, 0))]) (g := bm) (cs := (M A k c).cells) (t := 29) (fr := (0, 0)) (B := (b2, .cells zc 29 (0, 0)) :: F) (by rw [List.append_assoc]; exact h6) 36 (.slice A6 (k + 1) c6)
        rw [HSET36.out A k c (by omega), List.append_assoc] at h7
        have h9 := St.swap (A := L6) (B := [_, _]) h7
        have H9 := Lib.hid h9; have HR6 := Lib.hid hr6; have HR2 := Lib.hid hr2
        clear h7 h9 hr6 h6 S6 Z6 S0 h5 hr2 S5 S5a
        go_wp2_with fail
        refine ⟨⟨k + 1, A6, c6, L6, by go_num, by omega, HR6.out, _, _, _, _, HR2.out, H9.out⟩, ?_⟩
        simp [intOf]; omega
    · obtain rfl : k = N := by omega
      have kE := code_end hst
      obtain ⟨A1, n1, c1, x1, hr1, hs1⟩ := hst
      have hsw := St.swap (A := [_]) (B := [_]) hs1
      have okM := HMOK.out A k c (by omega)
      have hprod : (M A k c).prod = pA prod := by rw [HM.out]; rfl
      have kR := right_own TT.out (M A k c) okM (by rw [hprod]; exact HPL.out) hsw
      have hrm : rightM (M A k c) = rightB (pA prod) ver size chunk k := by rw [HM.out]; rfl
      rw [hrm, show (M A k c).val = .agg (M A k c).cells from rfl] at kR
      have hsz := Man.cells_size okM
      have hmo := Man.one (M A k c)
      have hmi : (Tryd.prog.info? 29).map (·.size) = some (M A k c).cells.size := by rw [hsz]; kernel_rfl
      have hmf : 0 + (M A k c).cells.size ≤ zc.size := by rw [hsz, HZS.out]; omega
      obtain ⟨mk, hmk⟩ : ∃ mk, mk = (M A k c).cells := ⟨_, rfl⟩
      rw [← hmk] at kR hmo hmi hmf hsz hsw
      have hval : ((fun A c => hdM ⟨prod, ver, size, chunk, dig, rest⟩ dig A k c) A c).val = .agg mk := by rw [hmk, HM.out]; rfl
      have hswb := St.swap (A := (bm, _) :: (g, _) :: L0) (B := [(b2, _)]) hsw
      have HS := Lib.hid hsw; have HSB := Lib.hid hswb; have KE := Lib.hid kE; have KR := Lib.hid kR; have HMO := Lib.hid hmo; have HMI := Lib.hid hmi; have HMF := Lib.hid hmf; have HSZ := Lib.hid hsz; have HVAL := Lib.hid hval; have HROW := Lib.hid hrow
      clear kE hr1 hs1 hsw hswb okM hprod kR hrm hsz hmo hmi hmf hmk hval hrow KH HOK
      obtain ⟨R, hR⟩ : ∃ R, rightB (pA prod) ver size chunk k = R := ⟨_, rfl⟩
      have hG := HG.out
      rw [hR] at KR hG
      clear hR HG
      go_wp2_with fail
      refine KE.out.mono ?_
      rintro e w9 ⟨x, rfl, hx, rfl⟩
      clear KE
      by_cases hx0 : x = 0
      · subst hx0
        have hsn : stN rest k = some [] := hx.1 rfl
        rw [hsn, decide_eq_true rfl, Bool.true_and] at hG
        subst hG
        clear hx hsn
        go_wp2_with (refine wpList_load_g (by rfl) 29 (.tmp 5) rfl (g := bm) (off := 0) rfl HS.out (cs := mk) (t := 29) (fr := (0, 0)) (by simp) mk (fun j hj => by rw [Nat.zero_add]) _ Tryd.underlying29 rfl HMI.out ?_)
        refine KR.out.mono ?_
        rintro e w10 ⟨rfl, h10⟩
        have h11 := St.swap (A := (bm, _) :: (g, _) :: L0) (B := [(b2, _)]) h10
        have H10 := Lib.hid h10; have H11 := Lib.hid h11
        clear h10 h11 HS HSB KR
        cases R with
        | true =>
          go_wp2_with (first
            | (with_reducible refine wpList_load_st rfl 29 (.tmp 5) rfl (g := bm) (off := 0) rfl H10.out (List.mem_cons_self ..) mk (fun j hj => by rw [Nat.zero_add]) _ Tryd.underlying29 rfl HMI.out ?_)
            | (with_reducible refine wpList_store_st rfl 29 (.tmp 2) (.tmp 47) rfl (g := b2) (off := 0) mk rfl rfl H11.out HMF.out HMI.out HMO.out ?_; intro w12 h12; refine Hid.out ?_))
          refine Lib.hid ?_
          rw [setMany_whole _ _ (by rw [Array.length_toList, HSZ.out, HZS.out]), Array.toArray_toList] at h12
          have H12 := Lib.hid h12
          clear h12
          go_wp2_with fail
          refine bodyPost_ret (results_row_tmp rfl _ _ b2 29 mk (0, 0) _ rfl (H12.out.own (b2, _) (List.mem_cons_self ..)) Tryd.underlying29 rfl HMI.out) rfl ?_
          exact ⟨fun _ => ⟨A, c, L0, by rw [HVAL.out]; rfl, HROW.out, St.weaken (A := [_, _, _]) H12.out⟩, fun h => by cases h⟩
        | false =>
          have HZ : Hid (∀ w, (Instr.build 29 #[]).run Tryd.prog w = .ok (.agg zc) w) := Lib.hid (fun w => by
            have h := run_build_zero w
            rw [HZC.out] at h
            exact h)
          have HL : Hid (zman.cells = zc) := HZC
          go_wp2_with (first
            | (with_reducible refine wpList_build_st rfl 29 _ rfl _ ?_ (HZ.out _) ?_; · go_simp)
            | (with_reducible refine wpList_store_st rfl 29 (.tmp 2) (.tmp 46) rfl (g := b2) (off := 0) zc rfl rfl H11.out HZF.out HZI.out HZO.out ?_; intro w12 h12; refine Hid.out ?_))
          refine Lib.hid ?_
          rw [setMany_whole _ _ (by rw [Array.length_toList]), Array.toArray_toList] at h12
          have H12 := Lib.hid h12
          clear h12
          go_wp2_with fail
          refine bodyPost_ret (results_row_tmp rfl _ _ b2 29 zc (0, 0) _ rfl (H12.out.own (b2, _) (List.mem_cons_self ..)) Tryd.underlying29 rfl HZI.out) rfl ?_
          refine ⟨fun h => (by cases h), fun _ => ⟨?_, ?_⟩⟩
          · rw [Man.val, HL.out]; rfl
          · exact St.weaken (A := (_, _) :: (_, _) :: (_, _) :: L0) H12.out
      · have hsn : ¬ stN rest k = some [] := fun h => hx0 (hx.2 h)
        rw [decide_eq_false hsn, Bool.false_and] at hG
        subst hG
        clear hx hsn KR
        have HZ : Hid (∀ w, (Instr.build 29 #[]).run Tryd.prog w = .ok (.agg zc) w) := Lib.hid (fun w => by
          have h := run_build_zero w
          rw [HZC.out] at h
          exact h)
        have HL : Hid (zman.cells = zc) := HZC
        go_wp2_with (first
          | (with_reducible refine wpList_build_st rfl 29 _ rfl _ ?_ (HZ.out _) ?_; · go_simp)
          | (with_reducible refine wpList_store_st rfl 29 (.tmp 2) (.tmp 46) rfl (g := b2) (off := 0) zc rfl rfl HSB.out HZF.out HZI.out HZO.out ?_; intro w12 h12; refine Hid.out ?_))
        refine Lib.hid ?_
        rw [setMany_whole _ _ (by rw [Array.length_toList]), Array.toArray_toList] at h12
        have H12 := Lib.hid h12
        clear h12
        go_wp2_with fail
        refine bodyPost_ret (results_row_tmp rfl _ _ b2 29 zc (0, 0) _ rfl (H12.out.own (b2, _) (List.mem_cons_self ..)) Tryd.underlying29 rfl HZI.out) rfl ?_
        refine ⟨fun h => (by cases h), fun _ => ⟨?_, ?_⟩⟩
        · rw [Man.val, HL.out]; rfl
        · exact St.weaken (A := (_, _) :: (_, _) :: (_, _) :: L0) H12.out
end
end Go.Proofs.YtfbffmckmchbbaaDoor
