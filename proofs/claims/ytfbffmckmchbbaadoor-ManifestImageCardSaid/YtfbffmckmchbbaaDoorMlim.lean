/- ManifestImage: the walk of the law. -/
import Derived.Test.YtfbffmckmchbbaaDoorMlX
import Derived.Test.YtfbffmckmchbbaaDoorMkR
import Derived.Test.YtfbffmckmchbbaaDoorQtail
namespace Go.Proofs.YtfbffmckmchbbaaDoor
set_option linter.unusedVariables false
set_option linter.unusedSimpArgs false
open Go.RowKit Go.Lib

theorem hashes_at {bs : List UInt8} {q n k : Nat} (hk : k < n) : (hashes bs q n)[k]? = some (hashOf (chunkAt bs q k)) := by
  unfold hashes
  rw [List.getElem?_map, List.getElem?_range hk]
  rfl
theorem HV_eq (bs : List UInt8) : HV bs = bcells (hashOf bs) := rfl

set_option maxRecDepth 100000 in
set_option maxHeartbeats 4000000 in
theorem walk_manifestImage (W : World) (tabs : Tabs W) {H : Type} {enc : TypeId × Value → H} {v0 : Value} (a0 : Arg enc Tryd.prog W 40 v0) :
    Calls Tryd.prog 8 #[v0] W fun e w' => e = .returned (.bool true) ∧ Below W.heap.size W w' := by
  obtain ⟨a, rfl, ⟨hin, hcap, hcm⟩, hps, v0, v1, c0, c1⟩ := a0.asked
  have t := TB.start tabs
  have h0 := (St.start W).alloc (.cells a.cells 40)
  have kA := man_alive t h0
  obtain ⟨ba, hba⟩ : ∃ b, W.heap.size = b := ⟨_, rfl⟩
  rw [hba] at h0 kA
  have kA2 : Calls Tryd.prog 11 #[] (W.alloc (.cells a.cells 40)) fun e w' => e = .returned (.bool true) ∧ St W w' (fun b => W.heap[b]?) [(ba, .cells a.cells 40 (0, 0))] := kA
  have KA := Lib.hid kA2; have HIN := Lib.hid hin; have TT := Lib.hid t; have HBA := Lib.hid hba
  have hfacts := fun (v : World) (J : Nat → Option Obj) (L : List (Nat × Obj)) (h : St W v J L) (hm : (ba, Obj.cells a.cells 40 (0, 0)) ∈ L) => asked_facts h hm
  have FA := Lib.hid hfacts
  clear hfacts kA kA2 h0 hin t a0 tabs
  generalize hac : a.cells = ac at *
  obtain ⟨prod, ver, ch, ⟨A, c, bs⟩⟩ := a
  simp only at *
  clear hac
  go_enter Tryd.func8, Tryd.ntmps8
  go_wp2_with fail
  refine KA.out.mono ?_
  rintro e w1 ⟨rfl, h1⟩
  obtain ⟨d0, d1, d2, d3⟩ := FA.out _ _ _ h1 (by simp)
  clear hba
  have HF : Hid (Below W.heap.size W w1) := Lib.hid (h1.below (Le.refl _))
  by_cases g1 : (300 : Int) < prod.size
  · clear KA h1
    go_wp2_with fail
    go_ret
    exact ⟨rfl, HF.out⟩
  by_cases g2 : (3000 : Int) < bs.length
  · clear KA h1
    go_wp2_with fail
    go_ret
    exact ⟨rfl, HF.out⟩
  have kM := pmk TT.out prod (by omega) ver v0 v1 ch c0 c1 ⟨A, c, bs⟩ HIN.out (by simp only; omega) hcap h1
  simp only at kM
  cases hk : mkOk prod ver ch bs with
  | false =>
    have hD : mkD prod ver ch bs = (mdat zman [], 131) := by unfold mkD; rw [hk]; rfl
    rw [hD] at kM
    have KM := Lib.hid kM
    clear kM h1 KA HF hD hk
    go_wp2_with fail
    refine KM.out.mono ?_
    rintro e w2 ⟨J1, m, hs, hle1, rfl, mi, hd, h2⟩
    have HLE1 := Lib.hid hle1; have MI1 := Lib.hid mi; have HD1 := Lib.hid hd
    clear KM hle1 hd d0 d1 d2 d3
    have hA := (h2).alloc (.cells zman.cells 29)
    rw [zman_lit] at hA
    obtain ⟨hmo, hmi, hfx, hsm⟩ := man_store (mi).ok
    have HA := Lib.hid hA; have HMO := Lib.hid hmo; have HMI3 := Lib.hid hmi; have HFX := Lib.hid hfx; have HSM := Lib.hid hsm
    rw [show m.val = .agg m.cells from rfl]
    clear hA hmo hmi hfx hsm 
    go_wp2_with (with_reducible refine wpList_store_st rfl 29 (.tmp 3) (.tmp 31) rfl (g := w2.heap.size) (off := 0) m.cells rfl rfl HA.out HFX.out HMI3.out HMO.out ?_; intro w3 h3; refine Hid.out ?_)
    refine Lib.hid ?_
    rw [HSM.out] at h3
    generalize w2.heap.size = b3 at *
    have H3 := Lib.hid h3
    clear HA HMO HFX HSM h3
    clear mi h2
    have kS := psame MI1.out MI.zero H3.out
    rw [decide_eq_true HD1.out, show m.val = .agg m.cells from rfl, show zman.val = .agg zman.cells from rfl, zman_lit] at kS
    have KS := Lib.hid kS
    clear kS HD1
    go_wp2_with (first
      | (refine wpList_load_g (by rfl) 29 (.tmp 3) rfl (g := b3) (off := 0) rfl H3.out (cs := m.cells) (t := 29) (fr := (0, 0)) (by simp) m.cells (fun j hj => by rw [Nat.zero_add]) _ Tryd.underlying29 rfl HMI3.out ?_))
    refine KS.out.mono ?_
    rintro e w6 ⟨rfl, h6⟩
    have HF : Hid (Below W.heap.size W w6) := Lib.hid (h6.below HLE1.out)
    clear h6 KS H3
    go_wp2_with fail
    go_ret
    exact ⟨by first | rfl | simp, HF.out⟩
  | true =>
  have hD : mkD prod ver ch bs = ((prod, ver, (bs.length : Int), ch, hashOf bs, hashes bs ch.toNat (mkN ch bs)), 0) := by unfold mkD; rw [hk]; rfl
  rw [hD] at kM
  have KM := Lib.hid kM; have HK := Lib.hid hk
  clear kM h1 KA HF hD hk
  go_wp2_with fail
  refine KM.out.mono ?_
  rintro e w2 ⟨J1, m, hs, hle1, rfl, mi, hd, h2⟩
  have HLE1 := Lib.hid hle1; have MI1 := Lib.hid mi
  unfold mdat at hd
  simp only [Prod.mk.injEq] at hd
  obtain ⟨e1, e2, e3, e4, e5, e6⟩ := hd
  clear KM hle1 d0 d1 d2 d3
  have hA := (h2).alloc (.cells zman.cells 29)
  rw [zman_lit] at hA
  obtain ⟨hmo, hmi, hfx, hsm⟩ := man_store (mi).ok
  have HA := Lib.hid hA; have HMO := Lib.hid hmo; have HMI3 := Lib.hid hmi; have HFX := Lib.hid hfx; have HSM := Lib.hid hsm
  rw [show m.val = .agg m.cells from rfl]
  clear hA hmo hmi hfx hsm 
  go_wp2_with (with_reducible refine wpList_store_st rfl 29 (.tmp 3) (.tmp 31) rfl (g := w2.heap.size) (off := 0) m.cells rfl rfl HA.out HFX.out HMI3.out HMO.out ?_; intro w3 h3; refine Hid.out ?_)
  refine Lib.hid ?_
  rw [HSM.out] at h3
  generalize w2.heap.size = b3 at *
  have H3 := Lib.hid h3
  clear HA HMO HFX HSM h3
  clear mi h2
  have hrB : rightB prod ver bs.length ch (mkN ch bs) = true := by
    have h := HK.out
    unfold mkOk at h
    rw [Bool.and_eq_true] at h
    exact h.2
  obtain ⟨N, hN⟩ : ∃ N, mkN ch bs = N := ⟨_, rfl⟩
  rw [hN] at hrB e6
  have hn : m.n = N := by rw [MI1.out.n, e6, hashes_len]
  have hr : rightM m = true := by
    unfold rightM
    rw [e1, e2, e3, e4, hn]
    exact hrB
  obtain ⟨r1, r2, r3, r4, r5, r6, r7, r8, r9, r10⟩ := (rightM_iff m).1 hr
  obtain ⟨t1, t2, t3⟩ := cntM_span m.size m.chunk r4 (by omega)
  rw [← r9, hn] at t1 t2 t3
  obtain ⟨q, hq⟩ : ∃ q : Nat, ch = (q : Int) := ⟨ch.toNat, by omega⟩
  have hq1 : 1 ≤ q := by omega
  rw [hq, Int.toNat_natCast] at e6
  have hpr : ∀ k : Nat, k < N → ∃ P Q : Nat, spanM m k = ((P : Int), (Q : Int)) ∧ 1 ≤ Q ∧ P + Q ≤ bs.length ∧ (chunkAt bs q k).length = Q ∧ chunkAt bs q k = (bs.drop P).take q ∧ hs[k]? = some (hashOf (chunkAt bs q k)) := fun k hk => by
    have p1 : (k : Int) * m.chunk ≤ ((N : Int) - 1) * m.chunk := Int.mul_le_mul_of_nonneg_right (by omega) (by omega)
    have hsp := spanM_yes hr (i := (k : Int)) (by omega) (by omega)
    rw [e3, e4, hq] at hsp
    rw [e4, hq] at p1 t2
    rw [e3] at t2
    have hkq : (k : Int) * (q : Int) = ((k * q : Nat) : Int) := by simp
    rw [hkq] at hsp p1
    refine ⟨k * q, min q (bs.length - k * q), ?_, ?_, ?_, ?_, rfl, ?_⟩
    · rw [hsp]
      congr 1
      omega
    · omega
    · omega
    · unfold chunkAt
      rw [List.length_take, List.length_drop]
    · rw [e6]
      exact hashes_at hk
  have r67 : (q : Int) ≤ 1024 ∧ 64 ≤ (q : Int) := by omega
  have hN64 : N ≤ 64 := by omega
  have facts := fun (v : World) (L : List (Nat × Obj)) (hv : St W v J1 L) (hmem : (b3, Obj.cells m.cells 29 (0, 0)) ∈ L) => man_cells MI1.out.ok hv hmem
  rw [e1, e2, e3, e4, hn] at facts
  have hdigc : ∀ v L, St W v J1 L → (b3, Obj.cells m.cells 29 (0, 0)) ∈ L → v.rangeAt b3 4 (bcells m.dig).toList := fun v L hv hmem =>
    hv.rangeAt (g := b3) (cs := m.cells) (t := 29) (fr := (0, 0)) hmem (fun j hj => by
      have hjl : j < (m.dig.map bval).length := by simpa [bcells] using hj
      have hu := List.getElem?_eq_getElem hjl
      exact (Man.gdx MI1.out.ok hu).trans hu.symm)
  have ix : (Tryd.prog.info? 26).map (·.size) = some (bcells m.dig).size := by rw [bcells_size, MI1.out.ok.dig]; kernel_rfl
  rw [e5] at hdigc ix
  have E1 : ∀ w, (Op.equalIn 10000 26 (.agg (HV bs)) (.agg (HV bs))).run Tryd.prog w = .ok true w := fun w => eq_HV bs w
  have kS := fun (v : World) (F : List (Nat × Obj)) (hv : St W v J1 F) => refsum ⟨A, c, bs⟩ (HIN.out.mono HLE1.out) (by simp only; omega) hv
  have kSp := fun (i : Int) (v : World) (F : List (Nat × Obj)) (hv : St W v J1 F) => span_own (TT.out.more HLE1.out) m MI1.out.ok (by have := MI1.out.psz; omega) i hv
  rw [show m.val = .agg m.cells from rfl] at kSp
  rw [← HV_eq bs] at hdigc ix
  obtain ⟨LL, hLL⟩ : ∃ LL, LL = [(b3, Obj.cells m.cells 29 (0, 0)), (ba, Obj.cells ac 40 (0, 0))] := ⟨_, rfl⟩
  have hst := H3.out
  rw [← hLL] at hst
  have m3 : (b3, Obj.cells m.cells 29 (0, 0)) ∈ LL := by rw [hLL]; simp
  have ma : (ba, Obj.cells ac 40 (0, 0)) ∈ LL := by rw [hLL]; simp
  have ksx : ∀ y : CW (fun v => St W v J1 LL), Calls Tryd.prog 24 #[.slice A bs.length c] y.w fun e w' => e = .returned (.agg (HV bs)) ∧ ∃ z : CW (fun v => St W v J1 LL), w' = z.w := fun y => (kS _ _ y.ok).mono fun e w' ⟨h1, h2⟩ => ⟨h1, ⟨_, h2⟩, rfl⟩
  have hx : ∀ v, (∃ y : CW (fun v => St W v J1 LL), v = y.w) → v.rangeAt b3 4 (HV bs).toList := by rintro _ ⟨y, rfl⟩; exact hdigc _ _ y.ok m3
  have ya : ∀ y : CW (fun v => St W v J1 LL), y.w.cell? ⟨ba, 0, none⟩ = some (.string prod) ∧ y.w.cell? ⟨ba, 1, none⟩ = some (.int .u64 ver) ∧ y.w.cell? ⟨ba, 2, none⟩ = some (.int .i64 ch) ∧ y.w.cell? ⟨ba, 3, none⟩ = some (.slice A bs.length c) := fun y => FA.out _ _ _ y.ok ma
  have yb := fun y : CW (fun v => St W v J1 LL) => facts _ _ y.ok m3
  have y0 := fun y => (ya y).1
  have y1 := fun y => (ya y).2.1
  have y3 := fun y => (ya y).2.2.2
  have z0 := fun y => (yb y).1
  have z1 := fun y => (yb y).2.1
  have z2 := fun y => (yb y).2.2.1
  have HDW := Lib.hid hst.drew1
  have hne : Nonempty (CW (fun v => St W v J1 LL)) := ⟨⟨_, HDW.out⟩⟩
  have KSX := Lib.hid ksx; have HX := Lib.hid hx; have IX := Lib.hid ix; have FACTS := Lib.hid facts; have KSP := Lib.hid kSp; have HPR := Lib.hid hpr; have HLL := Lib.hid hLL; have HR := Lib.hid hr; have HN := Lib.hid hn; have HQ := Lib.hid hq; have M3 := Lib.hid m3; have MA := Lib.hid ma
  clear ksx hx ix facts kSp hpr hLL hst kS ya yb hdigc hr hrB r8 r9 t2 t3 hN HK e1 e2 e3 e4 e5 e6 hn m3 ma H3
  clear r1 r2 r3 r4 r5 t1
  clear hq r6 r7
  generalize hXX : HV bs = X at *
  have HXX := Lib.hid hXX
  clear hXX
  go_wp2_with fail
  refine wp_region_cw (fun v => St W v J1 LL) HDW.out (by kernel_rfl) (by kernel_rfl) ?_
  repeat (first
    | (go_big_quiet_want; refine quiet_load_rowK 26 (.tmp 42) rfl (b := b3) (off := 4) rfl X _ HX.out Tryd.underlying26 rfl IX.out ?_; simp only [Act.put, List.setIfInBounds_toArray, List.set_cons_zero, List.set_cons_succ]; go_big_quiet_on)
    | go_big_quiet_step ((go_at_call 24; (with_reducible refine (KSX.out _).mono ?_); exact fun e w'' h => h)))
  refine wpQuiet_nil ?_
  rintro _ ⟨y, rfl⟩
  have hst := y.ok
  generalize y.w = w4 at *
  have hd36 := (FACTS.out _ _ hst M3.out).2.2.2.2
  have HS4 := Lib.hid hst
  clear hst HX IX KSX HDW hne y0 y1 y3 z0 z1 z2 E1
  go_wp2_with fail
  clear hd36
  go_loopw [73] (fun i wr => ∃ k : Nat, k ≤ N ∧ i = .int .i64 k ∧ St W wr J1 LL) (fun i _ => N - (intOf i).toNat)
  case atStart => exact ⟨0, by omega, rfl, HS4.out⟩
  case round =>
    obtain ⟨k, hk, rfl, hst⟩ := hrel
    clear HS4
    by_cases hkl : k < N
    · obtain ⟨P, Q, s1, s2, s3, s4, s5, s6⟩ := HPR.out k hkl
      obtain ⟨ck, hck⟩ : ∃ ck, chunkAt bs q k = ck := ⟨_, rfl⟩
      rw [hck] at s4 s5 s6
      obtain ⟨b0, o0, hA, hrg⟩ := MI1.out.hin.range hst s6
      have rg := hrg _ _ hst
      have hxl : (hashOf ck).length = 32 := hashOf_len ck
      obtain ⟨x, hx⟩ : ∃ x, hashOf ck = x := ⟨_, rfl⟩
      rw [hx] at rg hxl
      have hxi : (Tryd.prog.info? 26).map (·.size) = some (x.map bval).length := by rw [List.length_map, hxl]; kernel_rfl
      have hX : (bcells x).size = 32 := by rw [bcells_size, hxl]
      have ix : (Tryd.prog.info? 26).map (·.size) = some (bcells x).size := by rw [hX]; kernel_rfl
      have fx : 0 + (bcells x).size ≤ (#[.int .u8 0, .int .u8 0, .int .u8 0, .int .u8 0, .int .u8 0, .int .u8 0, .int .u8 0, .int .u8 0, .int .u8 0, .int .u8 0, .int .u8 0, .int .u8 0, .int .u8 0, .int .u8 0, .int .u8 0, .int .u8 0, .int .u8 0, .int .u8 0, .int .u8 0, .int .u8 0, .int .u8 0, .int .u8 0, .int .u8 0, .int .u8 0, .int .u8 0, .int .u8 0, .int .u8 0, .int .u8 0, .int .u8 0, .int .u8 0, .int .u8 0, .int .u8 0] : Array Value).size := by rw [hX]; decide
      have ox := bcells_one x
      have ex : setMany #[.int .u8 0, .int .u8 0, .int .u8 0, .int .u8 0, .int .u8 0, .int .u8 0, .int .u8 0, .int .u8 0, .int .u8 0, .int .u8 0, .int .u8 0, .int .u8 0, .int .u8 0, .int .u8 0, .int .u8 0, .int .u8 0, .int .u8 0, .int .u8 0, .int .u8 0, .int .u8 0, .int .u8 0, .int .u8 0, .int .u8 0, .int .u8 0, .int .u8 0, .int .u8 0, .int .u8 0, .int .u8 0, .int .u8 0, .int .u8 0, .int .u8 0, .int .u8 0] 0 (bcells x).toList = bcells x := by rw [setMany_whole _ _ (by simp [hX]), Array.toArray_toList]
      have H1a := Lib.hid (hst.alloc (.cells #[.int .u8 0, .int .u8 0, .int .u8 0, .int .u8 0, .int .u8 0, .int .u8 0, .int .u8 0, .int .u8 0, .int .u8 0, .int .u8 0, .int .u8 0, .int .u8 0, .int .u8 0, .int .u8 0, .int .u8 0, .int .u8 0, .int .u8 0, .int .u8 0, .int .u8 0, .int .u8 0, .int .u8 0, .int .u8 0, .int .u8 0, .int .u8 0, .int .u8 0, .int .u8 0, .int .u8 0, .int .u8 0, .int .u8 0, .int .u8 0, .int .u8 0, .int .u8 0] 26))
      have hki : (k : Int) < (N : Int) := by omega
      have hlx : (x.map bval).toArray = bcells x := rfl
      have IXX := Lib.hid ix; have FX := Lib.hid fx; have OX := Lib.hid ox; have EX := Lib.hid ex; have RG := Lib.hid rg; have HXI := Lib.hid hxi; have HXL := Lib.hid hxl; have HXV := Lib.hid hx; have HCK := Lib.hid hck; have S1 := Lib.hid s1; have S4 := Lib.hid s4; have S5 := Lib.hid s5
      clear ix fx ox ex rg hxi hxl hst hrg hx hX hck s1 s4 s5 s6
      rw [hA]
      go_wp2_with (first
        | (with_reducible refine wpList_load_mid rfl 26 (.tmp 76) rfl b0 (o0 + k * 32) rfl (x.map bval) _ RG.out Tryd.underlying26 rfl HXI.out ?_)
        | (with_reducible refine wpList_store_st rfl 26 (.tmp 6) (.tmp 77) rfl (g := wr.heap.size) (off := 0) (bcells x) rfl rfl H1a.out FX.out IXX.out OX.out ?_; intro w5 h5; refine Hid.out ?_))
      refine Lib.hid ?_
      rw [EX.out] at h5
      generalize wr.heap.size = b6 at *
      have kSp := KSP.out (k : Int) _ _ h5
      rw [S1.out] at kSp
      simp only at kSp
      have H5 := Lib.hid h5; have K := Lib.hid kSp
      have hm3 : (b3, Obj.cells m.cells 29 (0, 0)) ∈ (b6, Obj.cells (bcells x) 26 (0, 0)) :: LL := List.mem_cons_of_mem _ M3.out
      clear h5 kSp H1a FX OX EX RG HXI
      go_wp2_with (with_reducible refine wpList_load_st rfl 29 (.tmp 3) rfl (g := b3) (off := 0) rfl H5.out (cs := m.cells) (t := 29) (fr := (0, 0)) hm3 m.cells (fun j hj => by rw [Nat.zero_add]) _ Tryd.underlying29 rfl HMI3.out ?_)
      refine K.out.mono ?_
      rintro e w6 ⟨rfl, h6⟩
      clear K H5 hm3
      have sl : ∀ w, (Instr.slice 22 (.slice A bs.length c) (some (.int .i64 (P : Int))) (some (.int .i64 ((P : Int) + (Q : Int)))) none).run Tryd.prog w = .ok (.slice (subA A c P) Q (c - P)) w := fun w => by
        have h9 := run_slice_mid Tryd.underlying22 Tryd.sizeOf5 A bs.length c P (P + Q) (by omega) (by omega) w
        rw [Nat.add_sub_cancel_left, Int.natCast_add] at h9
        exact h9
      have hpin : Part.In ⟨subA A c P, c - P, ck⟩ W J1 := by
        rw [S5.out]
        exact Part.In_take (c - P) q (Part.In_drop (c - P) P hcap (HIN.out.mono HLE1.out))
      have hcl : ck.length = Q := S4.out
      have kS := fun (v : World) (F : List (Nat × Obj)) (hv : St W v J1 F) => refsum ⟨subA A c P, c - P, ck⟩ hpin (by simp only; omega) hv
      simp only [hcl] at kS
      have E2 : ∀ w, (Op.equalIn 10000 26 (.agg (bcells x)) (.agg (HV ck))).run Tryd.prog w = .ok true w := fun w => by
        have := eq_HV ck w
        rw [HV_eq, HXV.out] at this ⊢
        exact this
      obtain ⟨LK, hLK⟩ : ∃ LK, LK = (b6, Obj.cells (bcells x) 26 (0, 0)) :: LL := ⟨_, rfl⟩
      rw [← hLK] at h6
      have ksx : ∀ y : CW (fun v => St W v J1 LK), Calls Tryd.prog 24 #[.slice (subA A c P) Q (c - P)] y.w fun e w' => e = .returned (.agg (HV ck)) ∧ ∃ z : CW (fun v => St W v J1 LK), w' = z.w := fun y => (kS _ _ y.ok).mono fun e w' ⟨h1, h2⟩ => ⟨h1, ⟨_, h2⟩, rfl⟩
      have hx : ∀ v, (∃ y : CW (fun v => St W v J1 LK), v = y.w) → v.rangeAt b6 0 (bcells x).toList := by rintro _ ⟨y, rfl⟩; exact y.ok.rangeAt (g := b6) (cs := bcells x) (t := 26) (fr := (0, 0)) (by rw [hLK]; simp) (fun j hj => by simp)
      have y3 : ∀ y : CW (fun v => St W v J1 LK), y.w.cell? ⟨ba, 3, none⟩ = some (.slice A bs.length c) := fun y => (FA.out _ _ _ y.ok (by rw [hLK]; exact List.mem_cons_of_mem _ MA.out)).2.2.2
      have HDW := Lib.hid h6.drew1
      have hne : Nonempty (CW (fun v => St W v J1 LK)) := ⟨⟨_, HDW.out⟩⟩
      have KSX := Lib.hid ksx; have HX := Lib.hid hx; have HLK := Lib.hid hLK
      have f1 : ¬ ((P : Int) < 0) := by omega
      have f2 : ¬ ((Q : Int) < 1) := by omega
      have f3 : ¬ ((bs.length : Int) - (Q : Int) < (P : Int)) := by omega
      have f4 : (0 : Int) ≤ P := by omega
      have f5 : (P : Int) ≤ P + Q := by omega
      have f6 : (P : Int) + Q ≤ bs.length := by omega
      have f7 : (P : Int) + Q ≤ c := by omega
      have f1b : decide ((P : Int) < 0) = false := decide_eq_false f1
      have f2b : decide ((Q : Int) < 1) = false := decide_eq_false f2
      have f3b : decide ((bs.length : Int) - (Q : Int) < (P : Int)) = false := decide_eq_false f3
      clear ksx hx kS hpin hLK h6 HCK HXV HXL S1 S4 S5 hlx hcl
      generalize HV ck = Y at *
      generalize bcells x = X9 at *
      go_wp2_with fail
      refine wp_region_cw (fun v => St W v J1 LK) HDW.out (by kernel_rfl) (by kernel_rfl) ?_
      repeat (first
        | (go_big_quiet_want; refine quiet_load_rowK 26 (.tmp 6) rfl (b := b6) (off := 0) rfl X9 _ HX.out Tryd.underlying26 rfl IXX.out ?_; simp only [Act.put, List.setIfInBounds_toArray, List.set_cons_zero, List.set_cons_succ]; go_big_quiet_on)
        | go_big_quiet_step ((go_at_call 24; (with_reducible refine (KSX.out _).mono ?_); exact fun e w'' h => h)))
      refine wpQuiet_nil ?_
      rintro _ ⟨y, rfl⟩
      have hst := y.ok
      generalize y.w = w7 at *
      rw [HLK.out] at hst
      have HST := Lib.hid (St.weaken (A := [_]) hst)
      clear hst HX IXX KSX HDW hne y3 E2 sl HLK
      go_wp2_with fail
      refine ⟨⟨k + 1, by omega, by go_num, HST.out⟩, by simp [intOf]; omega⟩
    · obtain rfl : k = N := by omega
      have HF : Hid (Below W.heap.size W wr) := Lib.hid (hst.below HLE1.out)
      clear hst
      go_wp2_with fail
      go_ret
      exact ⟨rfl, HF.out⟩
end Go.Proofs.YtfbffmckmchbbaaDoor
