/- ImageBack: the walk of the law. -/
import Derived.Test.YtkpgliaahibjgaaDoorBackC
namespace Go.Proofs.YtkpgliaahibjgaaDoor
set_option linter.unusedVariables false
set_option linter.unusedSimpArgs false
open Go.RowKit Go.Lib

theorem made_right {prod : ByteArray} {ver ch : Int} {bs : List UInt8} {A : Option Addr} {c : Nat} (h : mkOk prod ver ch bs = true) : rightM (madeM prod ver ch bs A (mkN ch bs) c) = true := by
  unfold mkOk at h
  rw [Bool.and_eq_true] at h
  exact h.2

theorem strm_cut {W w : World} {J : Nat → Option Obj} {s g want : Nat} {m0 : Man} {b0 : List UInt8} {F : List (Nat × Obj)} (t : TB W J) (m : Man) (ok : m.Ok) (hps : m.prod.size ≤ 140737488355328) (p : Part) (hp : p.In W J) (hl : p.bs.length ≤ 1000000) (hcap : p.bs.length ≤ p.c) (hr : rightM m = true) (hms : (p.bs.length : Int) = m.size) (h : Strm W w J s g m0 b0 want F) :
    Calls Tryd.prog 24 #[.agg m.cells, .slice p.A p.bs.length p.c] w fun e w' => ∃ J' A c L0, ∃ qs : List Part, Le J J' ∧ e = .returned (.tuple #[.slice A m.n c, .int .i64 0]) ∧ qs.map (·.bs) = (List.range m.n).map (cutAt m p.bs) ∧ (∀ q ∈ qs, q.In W J') ∧ Row 22 1 (.slice A m.n c) m.n (qs.map Part.val) L0 ∧ Strm W w' J' s g m0 b0 want (L0 ++ F) := by
  obtain ⟨G, hG, hst⟩ := h
  refine (icut t m ok hps p hp hl hcap hst).mono fun e w' hpost => ?_
  obtain ⟨J', A, c, L0, qs, h1, h2, h3, h4, h5, h6⟩ := hpost.2.2 hr hms
  have h7 := St.swap (A := L0) (B := G ++ [(s, Obj.cells (sCells m0 g want) 71 (0, 0))]) (F := F) (by simpa using h6)
  exact ⟨J', A, c, L0, qs, h1, h2, h3, h4, h5, G, hG, by simpa using h7⟩

set_option maxRecDepth 100000 in
set_option maxHeartbeats 4000000 in
theorem walk_imageBack (W : World) (tabs : Tabs W) {H : Type} {enc : TypeId × Value → H} {v0 v1 : Value} (a0 : Arg enc Tryd.prog W 59 v0) (a1 : Arg enc Tryd.prog W 22 v1) :
    Calls Tryd.prog 7 #[v0, v1] W fun e w' => e = .returned (.bool true) ∧ Below W.heap.size W w' := by
  obtain ⟨a, rfl, ⟨hpin, hpc, -⟩, hpz, vz0, vz1, cz0, cz1⟩ := a0.asked
  obtain ⟨WA, n, wcap, xs, rfl, rfl, hwc, -, hwin⟩ := a1.bytes Tryd.underlying22 Tryd.underlying5 (by kernel_rfl)
  have t := TB.start tabs
  have h0 := (St.start W).alloc (.cells a.cells 59)
  have kA := image_alive t h0
  generalize hb2 : W.heap.size = b2 at *
  obtain ⟨prod, ver, ch, ⟨A0, cap, bs⟩⟩ := a
  simp only [Asked.cells] at *
  have cl : ∀ v I L, St W v I ((b2, .cells #[.string prod, .int .u64 ver, .int .i64 ch, .slice A0 bs.length cap] 59 (0, 0)) :: L) → v.cell? ⟨b2, 0, none⟩ = some (.string prod) ∧ v.cell? ⟨b2, 1, none⟩ = some (.int .u64 ver) ∧ v.cell? ⟨b2, 2, none⟩ = some (.int .i64 ch) ∧ v.cell? ⟨b2, 3, none⟩ = some (.slice A0 bs.length cap) := fun v I L h => by
    have h9 := h.cell (g := b2) (cs := #[.string prod, .int .u64 ver, .int .i64 ch, .slice A0 bs.length cap]) (t := 59) (fr := (0, 0)) (List.mem_cons_self ..)
    exact ⟨h9 0, h9 1, h9 2, h9 3⟩
  have KA := Lib.hid kA; have TT := Lib.hid t; have HB2 := Lib.hid hb2; have HPIN := Lib.hid hpin; have HWIN := Lib.hid hwin; have CL := Lib.hid cl; have HPC := Lib.hid hpc; have HWC := Lib.hid hwc
  clear kA t a0 a1 tabs h0 hpin hwin cl hpc hwc
  go_enter Tryd.func7, Tryd.ntmps7
  go_wp2_with fail
  clear hb2
  refine KA.out.mono ?_
  rintro e w1 ⟨rfl, h1⟩
  clear KA
  obtain ⟨q0, q1, q2, q3⟩ := CL.out _ _ _ h1
  by_cases hg : (300 : Int) < prod.size ∨ (3000 : Int) < bs.length ∨ (1500 : Int) < xs.length
  · have hfin := h1.below (Le.refl _)
    rw [HB2.out] at hfin
    have HF := Lib.hid hfin
    clear h1 hfin
    by_cases g1 : (300 : Int) < prod.size
    · go_wp2_with fail
      go_ret
      exact ⟨rfl, HF.out⟩
    by_cases g2 : (3000 : Int) < bs.length
    · have g1' : decide ((300 : Int) < prod.size) = false := decide_eq_false g1
      go_wp2_with fail
      go_ret
      exact ⟨rfl, HF.out⟩
    have g3 : (1500 : Int) < xs.length := by omega
    have g1' : decide ((300 : Int) < prod.size) = false := decide_eq_false g1
    have g2' : decide ((3000 : Int) < bs.length) = false := decide_eq_false g2
    go_wp2_with fail
    go_ret
    exact ⟨rfl, HF.out⟩
  have g1 : ¬ ((300 : Int) < prod.size) := fun h => hg (.inl h)
  have g2 : ¬ ((3000 : Int) < bs.length) := fun h => hg (.inr (.inl h))
  have g3 : ¬ ((1500 : Int) < xs.length) := fun h => hg (.inr (.inr h))
  have g1' : decide ((300 : Int) < prod.size) = false := decide_eq_false g1
  have g2' : decide ((3000 : Int) < bs.length) = false := decide_eq_false g2
  have g3' : decide ((1500 : Int) < xs.length) = false := decide_eq_false g3
  have b1 : prod.size ≤ 300 := by omega
  have b2' : bs.length ≤ 3000 := by omega
  have b3' : xs.length ≤ 1500 := by omega
  have kM := rmake TT.out prod (by omega) ver vz0 vz1 ch cz0 cz1 ⟨A0, cap, bs⟩ HPIN.out (by simp only; omega) HPC.out h1
  simp only at kM
  have H1 := Lib.hid h1; have KM := Lib.hid kM
  clear h1 kM hg
  go_wp2_with fail
  refine KM.out.mono ?_
  rintro e w2 hpost
  clear KM H1
  have hgen : ∃ m J r, e = .returned (.tuple #[.agg m.cells, .int .i64 r]) ∧ m.Ok ∧ Le (fun b => W.heap[b]?) J ∧ St W w2 J [(b2, .cells #[.string prod, .int .u64 ver, .int .i64 ch, .slice A0 bs.length cap] 59 (0, 0))] ∧ (r = 131 ∨ r = 0 ∧ ∃ A c, m = madeM prod ver ch bs A (mkN ch bs) c ∧ mkOk prod ver ch bs = true ∧ HsIn A (hashes bs ch.toNat (mkN ch bs)) W J) := by
    cases hmk : mkOk prod ver ch bs with
    | false =>
      obtain ⟨he, hst⟩ := hpost.2 hmk
      exact ⟨zman, _, 131, he, zman_ok, Le.refl _, hst, .inl rfl⟩
    | true =>
      obtain ⟨A, c, L0, he, hrow, hst⟩ := hpost.1 hmk
      have hl32 : ∀ h ∈ hashes bs ch.toNat (mkN ch bs), h.length = 32 := by
        intro h hh
        obtain ⟨k, _, rfl⟩ := List.mem_map.1 hh
        exact hashOf_len _
      have hr2 : Row 31 32 (.slice A (hashes bs ch.toNat (mkN ch bs)).length c) (hashes bs ch.toNat (mkN ch bs)).length (hcells (hashes bs ch.toNat (mkN ch bs))) L0 := by rw [hashes_len]; exact hrow
      obtain ⟨J, hle, hh, h4⟩ := hs_freeze hl32 hr2 hst
      have hn64 : mkN ch bs ≤ 64 := by
        have h9 := hmk
        unfold mkOk at h9
        rw [Bool.and_eq_true] at h9
        exact of_decide_eq_true h9.1
      exact ⟨_, J, 0, he, madeM_ok vz0 vz1 cz0 cz1 (by omega) (by omega), hle, h4, .inr ⟨rfl, A, c, rfl, rfl, hh⟩⟩
  obtain ⟨m, J, r, rfl, hok, hle, h4, hr⟩ := hgen
  have h5 := h4.alloc (.cells zman.cells 34)
  rw [zman_lit] at h5
  have hms := Man.cells_size hok
  have hmo := Man.one m
  have hmi : (Tryd.prog.info? 34).map (·.size) = some m.cells.size := by rw [hms]; kernel_rfl
  have hfx : 0 + m.cells.size ≤ (Value.string ⟨#[]⟩ :: .int .u64 0 :: .int .i64 0 :: .int .i64 0 :: .int .u8 0 :: .int .u8 0 :: .int .u8 0 :: .int .u8 0 :: .int .u8 0 :: .int .u8 0 :: .int .u8 0 :: .int .u8 0 :: .int .u8 0 :: .int .u8 0 :: .int .u8 0 :: .int .u8 0 :: .int .u8 0 :: .int .u8 0 :: .int .u8 0 :: .int .u8 0 :: .int .u8 0 :: .int .u8 0 :: .int .u8 0 :: .int .u8 0 :: .int .u8 0 :: .int .u8 0 :: .int .u8 0 :: .int .u8 0 :: .int .u8 0 :: .int .u8 0 :: .int .u8 0 :: .int .u8 0 :: .int .u8 0 :: .int .u8 0 :: .int .u8 0 :: .int .u8 0 :: .slice none 0 0 :: []).toArray.size := by rw [hms]; decide
  have hsm : setMany (Value.string ⟨#[]⟩ :: .int .u64 0 :: .int .i64 0 :: .int .i64 0 :: .int .u8 0 :: .int .u8 0 :: .int .u8 0 :: .int .u8 0 :: .int .u8 0 :: .int .u8 0 :: .int .u8 0 :: .int .u8 0 :: .int .u8 0 :: .int .u8 0 :: .int .u8 0 :: .int .u8 0 :: .int .u8 0 :: .int .u8 0 :: .int .u8 0 :: .int .u8 0 :: .int .u8 0 :: .int .u8 0 :: .int .u8 0 :: .int .u8 0 :: .int .u8 0 :: .int .u8 0 :: .int .u8 0 :: .int .u8 0 :: .int .u8 0 :: .int .u8 0 :: .int .u8 0 :: .int .u8 0 :: .int .u8 0 :: .int .u8 0 :: .int .u8 0 :: .int .u8 0 :: .slice none 0 0 :: []).toArray 0 m.cells.toList = m.cells := by rw [setMany_whole _ _ (by rw [Array.length_toList, hms]; rfl), Array.toArray_toList]
  have H5 := Lib.hid h5; have HMO := Lib.hid hmo; have HMI := Lib.hid hmi; have HFX := Lib.hid hfx; have HSM := Lib.hid hsm; have HOK := Lib.hid hok; have HR := Lib.hid hr; have HLE := Lib.hid hle
  clear h4 h5 hmo hmi hfx hsm hok hr hle hms hpost q0 q1 q2 q3
  go_wp2_with (with_reducible refine wpList_store_st rfl 34 (.tmp 5) (.tmp 40) rfl (g := w2.heap.size) (off := 0) m.cells rfl rfl H5.out HFX.out HMI.out HMO.out ?_; intro w3 h6; refine Hid.out ?_)
  refine Lib.hid ?_
  rw [HSM.out] at h6
  have H6 := Lib.hid h6
  clear H5 HFX HMO HSM h6
  generalize w2.heap.size = b5 at *
  rcases HR.out with rfl | ⟨rfl, A, c, hm, hmk, hh⟩
  · have hfin := (H6.out.less HLE.out).below (Le.refl _)
    rw [HB2.out] at hfin
    have HF := Lib.hid hfin
    clear H6 HR hfin
    go_wp2_with fail
    go_ret
    exact ⟨rfl, HF.out⟩
  · have hright : rightM m = true := by rw [hm]; exact made_right hmk
    have hmn : m.n = (hashes bs ch.toNat (mkN ch bs)).length := by rw [hm, hashes_len]; rfl
    have hmA : m.A = A := by rw [hm]; rfl
    have hmp : m.prod.size ≤ 300 := by rw [hm]; exact b1
    have hms : (bs.length : Int) = m.size := by rw [hm]; rfl
    have hmd : m.dig = hashOf bs := by rw [hm]; rfl
    have hmc : m.chunk = ch := by rw [hm]; rfl
    have hn64 : mkN ch bs ≤ 64 := by
      have h9 := hmk
      unfold mkOk at h9
      rw [Bool.and_eq_true] at h9
      exact of_decide_eq_true h9.1
    have hlen : (hashes bs ch.toNat (mkN ch bs)).length ≤ 64 := by rw [hashes_len]; exact hn64
    obtain ⟨hs, hhs⟩ : ∃ hs, hs = hashes bs ch.toNat (mkN ch bs) := ⟨_, rfl⟩
    rw [← hhs] at hmn hh hlen
    rw [← hmA] at hh
    have hNew := inew (TT.out.more HLE.out) m HOK.out hs hmn hh (by omega) (by omega) H6.out
    rw [show m.val = .agg m.cells from rfl] at hNew
    have HNEW := Lib.hid hNew; have HRI := Lib.hid hright; have HMN := Lib.hid hmn; have HMS := Lib.hid hms; have HMD := Lib.hid hmd; have HMC := Lib.hid hmc; have HHS := Lib.hid hhs; have HHH := Lib.hid hh; have HMK := Lib.hid hmk; have HMP := Lib.hid hmp; have HLN := Lib.hid hlen
    clear HR hm hmk hh hright hmn hmA hmp hms hmd hmc hn64 hlen hhs hNew
    go_wp2_with (with_reducible refine wpList_load_st rfl 34 (.tmp 5) rfl (g := b5) (off := 0) rfl H6.out (List.mem_cons_self ..) m.cells (fun j hj => by rw [Nat.zero_add]) _ Tryd.underlying34 rfl HMI.out ?_)
    refine HNEW.out.mono ?_
    rintro e w4 ⟨hyes, -⟩
    obtain ⟨J3, A', c', s, g, hle3, rfl, hh3, h7⟩ := hyes HRI.out
    have okA := Man.at_ok (A := A') (c := c') HOK.out HMN.out
    have hmo : ({ m with A := A', n := hs.length, c := c' } : Man) = m.at_ hs A' c' := rfl
    rw [hmo] at h7
    have t3 := (TT.out.more HLE.out).more hle3
    have hin3 := (HPIN.out.mono HLE.out).mono hle3
    have hcut := strm_cut t3 m HOK.out (by have := HMP.out; omega) ⟨A0, cap, bs⟩ hin3 (by simp only; omega) HPC.out HRI.out HMS.out h7
    simp only at hcut
    have q3 : w4.cell? ⟨b2, 3, none⟩ = some (.slice A0 bs.length cap) := (Strm.frame1 h7).cell (g := b2) (cs := #[.string prod, .int .u64 ver, .int .i64 ch, .slice A0 bs.length cap]) (t := 59) (fr := (0, 0)) (by simp) 3
    have h7s : St W w4 J3 ((b5, .cells m.cells 34 (0, 0)) :: [(b2, .cells #[.string prod, .int .u64 ver, .int .i64 ch, .slice A0 bs.length cap] 59 (0, 0))]) := St.weaken (A := [_]) (Strm.frame1 h7)
    have H7S := Lib.hid h7s
    clear h7s
    have HCUT := Lib.hid hcut; have H7 := Lib.hid h7; have T3 := Lib.hid t3; have HIN3 := Lib.hid hin3; have OKA := Lib.hid okA; have HLE3 := Lib.hid hle3; have HH3 := Lib.hid hh3
    clear hcut h7 t3 hin3 okA hle3 hh3 hmo hyes HNEW H6
    go_wp2_with (with_reducible refine wpList_load_st rfl 34 (.tmp 5) rfl (g := b5) (off := 0) rfl H7S.out (List.mem_cons_self ..) m.cells (fun j hj => by rw [Nat.zero_add]) _ Tryd.underlying34 rfl HMI.out ?_)
    refine HCUT.out.mono ?_
    rintro e w5 ⟨J4, A1, c1, L0, qs, hle4, rfl, hq, hqi, hrow, h8⟩
    have H8 := Lib.hid h8; have HQ := Lib.hid hq; have HQI := Lib.hid hqi; have HROW := Lib.hid hrow; have HLE4 := Lib.hid hle4
    clear h8 hq hqi hrow hle4 HCUT H7 H7S q3
    go_wp2_with fail
    obtain ⟨FB, hFB⟩ : ∃ FB, [(b5, Obj.cells m.cells 34 (0, 0)), (b2, .cells #[.string prod, .int .u64 ver, .int .i64 ch, .slice A0 bs.length cap] 59 (0, 0))] = FB := ⟨_, rfl⟩
    have h8 := H8.out
    rw [hFB] at h8
    have H8' := Lib.hid h8; have HFB := Lib.hid hFB
    clear h8 hFB H8
    go_loopw [68] (fun i wr => ∃ (k : Nat) (J5 : Nat → Option Obj), i = .int .i64 k ∧ k ≤ m.n ∧ Le J4 J5 ∧ Strm W wr J5 s g (m.at_ hs A' c') ((List.range k).map (cutAt m bs)).flatten k (L0 ++ FB)) (fun i _ => m.n - (intOf i).toNat)
    case atStart => exact ⟨0, J4, rfl, by omega, Le.refl _, H8'.out⟩
    case round =>
      obtain ⟨k, J5, rfl, hk, hle5, hst⟩ := hrel
      clear H8'
      have hlen : qs.length = m.n := by
        have h9 := congrArg List.length HQ.out
        simpa using h9
      by_cases hkl : k < m.n
      · obtain ⟨q, hqk⟩ : ∃ q, qs[k]? = some q := ⟨_, List.getElem?_eq_getElem (by omega)⟩
        have hqb : q.bs = cutAt m bs k := by
          have h9 := congrArg (fun l => l[k]?) HQ.out
          simp only [List.getElem?_map, hqk, List.getElem?_range hkl, Option.map_some] at h9
          injection h9
        have hqv : (qs.map Part.val)[k]? = some q.val := by rw [List.getElem?_map, hqk]; rfl
        obtain ⟨gq, off, cap2, cur, hv, hL, hcu⟩ := HROW.out.cells hqv
        injection hv with hv hv2 hv3
        have d0 : wr.cell? ⟨gq, off + k, none⟩ = some (.slice q.A q.bs.length q.c) := ((Strm.frame1 hst).cell (g := gq) (cs := cur) (t := 22) (fr := (0, 0)) (by rw [hL]; simp) (off + k)).trans hcu
        have hqi := HQI.out q (List.mem_of_getElem? hqk)
        obtain ⟨e1, e2, e3, e4⟩ := back_errs HRI.out HMS.out HMN.out HHS.out (by rw [HMC.out]) hkl
        rw [← hqb] at e2 e3 e4
        have hql : q.bs.length ≤ 3000 := by rw [hqb]; unfold cutAt; rw [List.length_take, List.length_drop]; omega
        have hbo : ((List.range k).map (cutAt m bs)).flatten.length ≤ 3000 := by rw [cut_join HRI.out HMS.out k hk, List.length_take]; omega
        have hnext : ((List.range (k + 1)).map (cutAt m bs)).flatten = ((List.range k).map (cutAt m bs)).flatten ++ q.bs := by
          rw [List.range_succ, List.map_append, List.flatten_append, hqb]
          simp
        obtain ⟨bo, hbo'⟩ : ∃ bo, ((List.range k).map (cutAt m bs)).flatten = bo := ⟨_, rfl⟩
        rw [hbo'] at hst hbo hnext
        have hn64 : m.n ≤ 64 := by rw [HMN.out]; exact HLN.out
        have kT : ∀ v J6 X (i : Int) (i0 : -9223372036854775808 ≤ i) (i1 : i ≤ 9223372036854775807) (p : Part), Le J5 J6 → p.In W J6 → p.bs.length ≤ 4000 → Strm W v J6 s g (m.at_ hs A' c') bo k X → Calls Tryd.prog 15 #[.pointer (some ⟨s, 0, none⟩), .int .i64 i, .slice p.A p.bs.length p.c] v fun e w' => e = .returned (.int .i64 (takeErr m hs k i p.bs)) ∧ if takeErr m hs k i p.bs = 0 then Strm W w' J6 s g (m.at_ hs A' c') (bo ++ p.bs) (k + 1) X else Strm W w' J6 s g (m.at_ hs A' c') bo k X := fun v J6 X i i0 i1 p hl hp hpl hv => by
          have h9 := itake ((T3.out.more HLE4.out).more (hle5.trans hl)) OKA.out hs rfl (HH3.out.mono (HLE4.out.trans (hle5.trans hl))) (by show m.prod.size ≤ _; have := HMP.out; omega) (by have := HLN.out; omega) (by have := HMN.out; omega) (by omega) i i0 i1 p hp (by omega) hv
          have htk := Man.at_take (A := A') (c := c') HMN.out k i p.bs
          refine h9.mono fun e w' ⟨h1, h2⟩ => ?_
          rw [htk] at h1 h2
          exact ⟨h1, h2⟩
        have k1 : ∀ v J6 X, Le J5 J6 → Strm W v J6 s g (m.at_ hs A' c') bo k X → Calls Tryd.prog 15 #[.pointer (some ⟨s, 0, none⟩), .int .i64 ((k : Int) + 1), .slice q.A q.bs.length q.c] v fun e w' => e = .returned (.int .i64 151) ∧ Strm W w' J6 s g (m.at_ hs A' c') bo k X := fun v J6 X hl hv => by
          refine (kT v J6 X ((k : Int) + 1) (by omega) (by omega) q hl (hqi.mono (hle5.trans hl)) (by omega) hv).mono fun e w' ⟨h1, h2⟩ => ?_
          rw [e1] at h1 h2
          rw [if_neg (by decide)] at h2
          exact ⟨h1, h2⟩
        have k2 : ∀ v J6 X A c l, l = q.bs.length + 1 → Le J5 J6 → Part.In ⟨A, c, q.bs ++ [0]⟩ W J6 → Strm W v J6 s g (m.at_ hs A' c') bo k X → Calls Tryd.prog 15 #[.pointer (some ⟨s, 0, none⟩), .int .i64 k, .slice A l c] v fun e w' => e = .returned (.int .i64 152) ∧ Strm W w' J6 s g (m.at_ hs A' c') bo k X := fun v J6 X A c l hl1 hl hi hv => by
          have h9 := kT v J6 X (k : Int) (by omega) (by omega) ⟨A, c, q.bs ++ [0]⟩ hl hi (by simp only [List.length_append, List.length_singleton]; omega) hv
          simp only [List.length_append, List.length_singleton] at h9
          rw [hl1]
          refine h9.mono fun e w' ⟨h1, h2⟩ => ?_
          rw [e2] at h1 h2
          rw [if_neg (by decide)] at h2
          exact ⟨h1, h2⟩
        have k3 : hashOf xs ≠ hashOf q.bs → ∀ v J6 X, Le J5 J6 → Strm W v J6 s g (m.at_ hs A' c') bo k X → Calls Tryd.prog 15 #[.pointer (some ⟨s, 0, none⟩), .int .i64 k, .slice WA xs.length wcap] v fun e w' => e = .returned (.int .i64 152) ∧ Strm W w' J6 s g (m.at_ hs A' c') bo k X := fun hne v J6 X hl hv => by
          have h9 := kT v J6 X (k : Int) (by omega) (by omega) ⟨WA, wcap, xs⟩ hl (HWIN.out.mono (((HLE.out.trans HLE3.out).trans HLE4.out).trans (hle5.trans hl))) (by simp only; omega) hv
          refine h9.mono fun e w' ⟨h1, h2⟩ => ?_
          rw [e3 xs hne] at h1 h2
          rw [if_neg (by decide)] at h2
          exact ⟨h1, h2⟩
        have k4 : ∀ v J6 X, Le J5 J6 → Strm W v J6 s g (m.at_ hs A' c') bo k X → Calls Tryd.prog 15 #[.pointer (some ⟨s, 0, none⟩), .int .i64 k, .slice q.A q.bs.length q.c] v fun e w' => e = .returned (.int .i64 0) ∧ Strm W w' J6 s g (m.at_ hs A' c') (bo ++ q.bs) (k + 1) X := fun v J6 X hl hv => by
          refine (kT v J6 X (k : Int) (by omega) (by omega) q hl (hqi.mono (hle5.trans hl)) (by omega) hv).mono fun e w' ⟨h1, h2⟩ => ?_
          rw [e4] at h1 h2
          rw [if_pos rfl] at h2
          exact ⟨h1, h2⟩
        have kW : ∀ v J6 X, Strm W v J6 s g (m.at_ hs A' c') bo k X → Calls Tryd.prog 20 #[.pointer (some ⟨s, 0, none⟩)] v fun e w' => e = .returned (.bool false) ∧ Strm W w' J6 s g (m.at_ hs A' c') bo k X := fun v J6 X hv => by
          refine (iwhole OKA.out (by omega) hv).mono fun e w' ⟨h1, h2⟩ => ⟨?_, h2⟩
          rw [h1, show ((k : Int) == ((m.at_ hs A' c').n : Int)) = false from beq_eq_false_iff_ne.2 (by show (k : Int) ≠ ((hs.length : Nat) : Int); have := HMN.out; omega)]
          rfl
        have kS1 : ∀ v J6 X, Le J5 J6 → Strm W v J6 s g (m.at_ hs A' c') bo k X → Calls Tryd.prog 23 #[.slice WA xs.length wcap] v fun e w' => e = .returned (.agg (HV xs)) ∧ Strm W w' J6 s g (m.at_ hs A' c') bo k X := fun v J6 X hl hv =>
          strm_lift (fun L hL => refsum ⟨WA, wcap, xs⟩ (HWIN.out.mono (((HLE.out.trans HLE3.out).trans HLE4.out).trans (hle5.trans hl))) (by simp only; omega) hL) hv
        have kS2 : ∀ v J6 X, Le J5 J6 → Strm W v J6 s g (m.at_ hs A' c') bo k X → Calls Tryd.prog 23 #[.slice q.A q.bs.length q.c] v fun e w' => e = .returned (.agg (HV q.bs)) ∧ Strm W w' J6 s g (m.at_ hs A' c') bo k X := fun v J6 X hl hv =>
          strm_lift (fun L hL => refsum q (hqi.mono (hle5.trans hl)) (by omega) hL) hv
        have eqh : ∀ w, (Op.equalIn 10000 31 (.agg (HV xs)) (.agg (HV q.bs))).run Tryd.prog w = .ok (hashOf xs == hashOf q.bs) w := fun w => eq_bcells _ _ (hashOf_len _) (hashOf_len _) w
        have hki : (k : Int) < (m.n : Int) := by omega
        have hqin : Part.In ⟨q.A, q.c, q.bs⟩ W J5 := hqi.mono hle5
        have K1 := Lib.hid k1; have K2 := Lib.hid k2; have K3 := Lib.hid k3; have K4 := Lib.hid k4; have KW := Lib.hid kW; have KS1 := Lib.hid kS1; have KS2 := Lib.hid kS2; have EQH := Lib.hid eqh; have HST := Lib.hid hst; have HLE5 := Lib.hid hle5; have HQIN := Lib.hid hqin; have HNEXT := Lib.hid hnext; have HQL := Lib.hid hql
        clear k1 k2 k3 k4 kW kS1 kS2 eqh hst hle5 hqin hnext kT e1 e2 e3 e4 hqi hcu hL hqv hqb hqk hv2 hv3 hbo hbo' hql
        subst hv
        go_wp2_with fail
        refine (K1.out _ _ _ (Le.refl _) HST.out).mono ?_
        rintro e w6 ⟨rfl, h6⟩
        have h7 := strm_alloc h6 (.cells #[] 5)
        have H7 := Lib.hid h7
        clear h6 h7 HST K1 d0
        go_wp2_with (at_builtin; refine Hid.out ?_)
        refine Lib.hid ?_
        refine wpList_append_strm (X := L0 ++ FB) (by rfl) (.tmp 82) (.tmp 83) 22 rfl Tryd.underlying22 (xs := []) rfl (Row.empty 5 1 _) H7.out rfl rfl HQIN.out q.bs.length (by omega) (by have := HQL.out; omega) ?_
        intro A6 c6 w7 L6 hr6 h7
        have h8 := strm_alloc h7 (.cells #[.int .u8 0] 5)
        obtain ⟨J6, le6, in6, h9⟩ := strm_freeze (L0 := [(w7.heap.size, .cells #[.int .u8 0] 5 (0, 0))]) (X := L6 ++ (L0 ++ FB)) rfl (row_zero _) h8
        rw [List.nil_append] at hr6
        have H9 := Lib.hid h9; have HR6 := Lib.hid hr6; have HIN6 := Lib.hid in6; have HLE6 := Lib.hid le6
        clear h7 h8 h9 hr6 in6 le6 H7
        go_wp2_with (at_builtin; refine Hid.out ?_)
        refine Lib.hid ?_
        refine wpList_append_strm (X := L0 ++ FB) (by rfl) (.tmp 84) (.tmp 85) 22 rfl Tryd.underlying22 (xs := q.bs) (ys := [0]) rfl HR6.out H9.out rfl rfl HIN6.out (q.bs.length + 1) rfl (by have := HQL.out; omega) ?_
        intro A8 c8 w8 L8 hr8 h10
        obtain ⟨J8, le8, in8, h11⟩ := strm_freeze (X := L0 ++ FB) (by rw [List.length_append]; rfl) hr8 h10
        have H11 := Lib.hid h11; have HIN8 := Lib.hid in8; have HLE8 := Lib.hid (HLE6.out.trans le8)
        clear h10 h11 hr8 in8 le8 H9 HR6 HIN6 HLE6
        go_wp2_with fail
        refine (K2.out _ _ _ _ _ _ rfl HLE8.out HIN8.out H11.out).mono ?_
        rintro e w9 ⟨rfl, h12⟩
        have H12 := Lib.hid h12
        clear h12 H11 HIN8 K2
        go_wp2_with fail
        refine (KS1.out _ _ _ HLE8.out H12.out).mono ?_
        rintro e w10 ⟨rfl, h13⟩
        have H13 := Lib.hid h13
        clear h13 H12 KS1
        go_wp2_with fail
        refine (KS2.out _ _ _ HLE8.out H13.out).mono ?_
        rintro e w11 ⟨rfl, h14⟩
        have H14 := Lib.hid h14
        clear h14 H13 KS2
        have eqh := EQH.out
        by_cases hne : hashOf xs = hashOf q.bs
        · have hb : (hashOf xs == hashOf q.bs) = true := by rw [hne]; simp
          rw [hb] at eqh
          clear hne hb EQH K3
          generalize HV xs = hx at *
          generalize HV q.bs = hq at *
          go_wp2_with fail
          refine (KW.out _ _ _ H14.out).mono ?_
          rintro e w13 ⟨rfl, h16⟩
          have H16 := Lib.hid h16
          clear h16 H14 KW
          go_wp2_with fail
          refine (K4.out _ _ _ HLE8.out H16.out).mono ?_
          rintro e w14 ⟨rfl, h17⟩
          have H17 := Lib.hid h17
          clear h17 H16 K4
          go_wp2_with fail
          go_roundw
          case rel => exact ⟨k + 1, J8, by go_num, by omega, HLE5.out.trans HLE8.out, by rw [HNEXT.out]; exact H17.out⟩
          case measure => simp [intOf]; omega
        · have hb : (hashOf xs == hashOf q.bs) = false := beq_eq_false_iff_ne.2 hne
          rw [hb] at eqh
          have k3 := K3.out hne
          have K3' := Lib.hid k3
          clear hne hb EQH K3 k3
          generalize HV xs = hx at *
          generalize HV q.bs = hq at *
          go_wp2_with fail
          refine (K3'.out _ _ _ HLE8.out H14.out).mono ?_
          rintro e w12 ⟨rfl, h15⟩
          have H15 := Lib.hid h15
          clear h15 H14 K3' eqh
          go_wp2_with fail
          refine (KW.out _ _ _ H15.out).mono ?_
          rintro e w13 ⟨rfl, h16⟩
          have H16 := Lib.hid h16
          clear h16 H15 KW
          go_wp2_with fail
          refine (K4.out _ _ _ HLE8.out H16.out).mono ?_
          rintro e w14 ⟨rfl, h17⟩
          have H17 := Lib.hid h17
          clear h17 H16 K4
          go_wp2_with fail
          go_roundw
          case rel => exact ⟨k + 1, J8, by go_num, by omega, HLE5.out.trans HLE8.out, by rw [HNEXT.out]; exact H17.out⟩
          case measure => simp [intOf]; omega
      · obtain rfl : k = m.n := by omega
        have hw := cut_whole HRI.out HMS.out
        rw [hw] at hst
        have hmn : m.n = hs.length := HMN.out
        have hle0 : Le (fun b => W.heap[b]?) J5 := ((HLE.out.trans HLE3.out).trans HLE4.out).trans hle5
        have kW : ∀ y : CW (fun v => Strm W v J5 s g (m.at_ hs A' c') bs m.n (L0 ++ FB)), Calls Tryd.prog 20 #[.pointer (some ⟨s, 0, none⟩)] y.w fun e w' => e = .returned (.bool true) ∧ ∃ z : CW (fun v => Strm W v J5 s g (m.at_ hs A' c') bs m.n (L0 ++ FB)), w' = z.w := fun y => by
          refine (iwhole OKA.out (by omega) y.ok).mono fun e w' ⟨h1, h2⟩ => ⟨?_, ⟨_, h2⟩, rfl⟩
          rw [h1, show (m.at_ hs A' c').dig = hashOf bs from HMD.out, show ((m.n : Int) == ((m.at_ hs A' c').n : Int)) = true from beq_iff_eq.2 (by show (m.n : Int) = ((hs.length : Nat) : Int); omega)]
          simp
        have kL : ∀ y : CW (fun v => Strm W v J5 s g (m.at_ hs A' c') bs m.n (L0 ++ FB)), Calls Tryd.prog 22 #[.pointer (some ⟨s, 0, none⟩)] y.w fun e w' => e = .returned (.int .i64 bs.length) ∧ ∃ z : CW (fun v => Strm W v J5 s g (m.at_ hs A' c') bs m.n (L0 ++ FB)), w' = z.w := fun y => (ilen OKA.out (by omega) y.ok).mono fun e w' ⟨h1, h2⟩ => ⟨h1, y, h2.symm⟩
        have kT : ∀ y : CW (fun v => Strm W v J5 s g (m.at_ hs A' c') bs m.n (L0 ++ FB)), Calls Tryd.prog 15 #[.pointer (some ⟨s, 0, none⟩), .int .i64 m.n, .slice none 0 0] y.w fun e w' => e = .returned (.int .i64 151) ∧ ∃ z : CW (fun v => Strm W v J5 s g (m.at_ hs A' c') bs m.n (L0 ++ FB)), w' = z.w := fun y => by
          have h9 := itake ((T3.out.more HLE4.out).more hle5) OKA.out hs rfl (HH3.out.mono (HLE4.out.trans hle5)) (by show m.prod.size ≤ _; have := HMP.out; omega) (by have := HLN.out; omega) (by omega) (by omega) (m.n : Int) (by omega) (by have := HLN.out; omega) ⟨none, 0, []⟩ (Part.In_nil _ _) (by simp) y.ok
          have htk := Man.at_take (A := A') (c := c') HMN.out m.n (m.n : Int) []
          have e9 : takeErr m hs m.n (m.n : Int) [] = 151 := by unfold takeErr; rw [if_pos (.inl rfl)]
          rw [e9] at htk
          refine h9.mono fun e w' ⟨h1, h2⟩ => ?_
          rw [htk] at h1 h2
          rw [if_neg (by decide)] at h2
          exact ⟨h1, ⟨_, h2⟩, rfl⟩
        have y3 : ∀ y : CW (fun v => Strm W v J5 s g (m.at_ hs A' c') bs m.n (L0 ++ FB)), y.w.cell? ⟨b2, 3, none⟩ = some (.slice A0 bs.length cap) := fun y => by
          have hm : (b2, Obj.cells #[.string prod, .int .u64 ver, .int .i64 ch, .slice A0 bs.length cap] 59 (0, 0)) ∈ FB := by rw [← HFB.out]; simp
          exact y.ok.frame1.cell (g := b2) (cs := #[.string prod, .int .u64 ver, .int .i64 ch, .slice A0 bs.length cap]) (t := 59) (fr := (0, 0)) (by simp [hm]) 3
        have HDW := Lib.hid (Strm.drew1 hst)
        have hne : Nonempty (CW (fun v => Strm W v J5 s g (m.at_ hs A' c') bs m.n (L0 ++ FB))) := ⟨⟨_, HDW.out⟩⟩
        have KW := Lib.hid kW; have KL := Lib.hid kL; have KT := Lib.hid kT; have HLE0 := Lib.hid hle0
        clear kW kL kT hst hw hle0 hle5 hmn
        go_wp2_with fail
        refine wp_region_cw (fun v => Strm W v J5 s g (m.at_ hs A' c') bs m.n (L0 ++ FB)) HDW.out (by kernel_rfl) (by kernel_rfl) ?_
        repeat (first
          | go_big_quiet_step ((go_at_call 20; (with_reducible refine (KW.out _).mono ?_); exact fun e w'' h => h))
          | go_big_quiet_step ((go_at_call 22; (with_reducible refine (KL.out _).mono ?_); exact fun e w'' h => h))
          | go_big_quiet_step ((go_at_call 15; (with_reducible refine (KT.out _).mono ?_); exact fun e w'' h => h)))
        refine wpQuiet_nil ?_
        rintro _ ⟨z, rfl⟩
        have hfin := (Strm.frame1 z.ok).less HLE0.out
        have hF : Below W.heap.size W z.w := hfin.below (Le.refl _)
        have HF := Lib.hid hF
        clear hfin hF KW KL KT HDW hne y3
        go_wp2_with fail
        go_ret
        exact ⟨by first | rfl | simp, by have h := HF.out; rw [HB2.out] at h; exact h⟩
end Go.Proofs.YtkpgliaahibjgaaDoor
