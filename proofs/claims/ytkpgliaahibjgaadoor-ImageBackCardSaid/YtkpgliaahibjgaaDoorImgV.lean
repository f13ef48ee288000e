/- imageAlive: walk. -/
import Derived.Test.YtkpgliaahibjgaaDoorRngM
namespace Go.Proofs.YtkpgliaahibjgaaDoor
set_option linter.unusedVariables false
set_option linter.unusedSimpArgs false
open Go.RowKit Go.Lib

theorem name_core : nameOk ⟨#[99, 111, 114, 101]⟩ = true := by kernel_rfl
section
variable {W w : World} {I : Nat → Option Obj} {F L0 : List (Nat × Obj)} {s g want : Nat} {m : Man} {bs : List UInt8}
/-- A manifest's room, a chunk's place. -/
theorem core_right (A : Option Addr) (c : Nat) (bs : List UInt8) (hl : bs.length = 65) : mkN 64 bs = 2 ∧ mkOk ⟨#[99, 111, 114, 101]⟩ 1 64 bs = true ∧ rightM (madeM ⟨#[99, 111, 114, 101]⟩ 1 64 bs A 2 c) = true := by
  have h1 : mkN 64 bs = 2 := by unfold mkN; rw [hl]; decide
  refine ⟨h1, ?_, ?_⟩
  · unfold mkOk rightB
    rw [h1, name_core, hl]
    simp [cntM]
  · unfold rightM rightB madeM
    simp only
    rw [name_core, hl]
    simp [cntM]
theorem spanM_yes {m : Man} {i : Int} (h : rightM m = true) (h0 : 0 ≤ i) (h1 : i < m.n) : spanM m i = (i * m.chunk, min m.chunk (m.size - i * m.chunk)) := by
  unfold spanM
  rw [if_pos ⟨h, h0, h1⟩]
theorem takeErr_ok {m : Man} {hs : List (List UInt8)} {want : Nat} {b : List UInt8} (h1 : (want : Int) ≠ m.n) (h2 : (b.length : Int) = (spanM m want).2) (h3 : hs[want]? = some (hashOf b)) : takeErr m hs want want b = 0 := by
  unfold takeErr
  rw [if_neg (by simp; exact h1), if_neg]
  rw [List.getD_eq_getElem?_getD, h3]
  simp [h2]
/-- What a function hands back that made blocks of its own. -/
theorem strm_made {f : FuncId} {args : Array Value} {R : Ending → List (Nat × Obj) → Prop} (hf : ∀ L, St W w I L → Calls Tryd.prog f args w fun e w' => ∃ L0, R e L0 ∧ St W w' I (L0 ++ L)) (h : Strm W w I s g m bs want F) : Calls Tryd.prog f args w fun e w' => ∃ L0, R e L0 ∧ Strm W w' I s g m bs want (L0 ++ F) := by
  obtain ⟨G, hb, hst⟩ := h
  refine (hf _ hst).mono fun e w' ⟨L0, hr, h'⟩ => ⟨L0, hr, G, hb, ?_⟩
  have h2 := St.swap (A := L0) (B := G ++ [(s, Obj.cells (sCells m g want) 71 (0, 0))]) (F := F) (by simpa using h')
  simpa using h2
theorem sect65 (bs : List UInt8) (h : bs = List.replicate 65 0) : secN bs = 2 ∧ (hcells (sects bs 2))[64]? = some (.int .u8 0) ∧ (hcells (sects bs 2))[65]? = some (.int .u8 255) := by
  subst h
  exact ⟨rfl, by kernel_rfl, by kernel_rfl⟩

set_option maxRecDepth 100000 in
set_option maxHeartbeats 4000000 in
theorem image_alive (t : TB W I) (h : St W w I F) : Calls Tryd.prog 9 #[] w fun e w' => e = .returned (.bool true) ∧ St W w' I F := by
  have hmk := run_make_repl (P := Tryd.prog) 22 5 (.int .u8 0) 1 Tryd.underlying22 (by kernel_rfl) rfl 65 (by omega) (by omega)
  have h1 := h.alloc (.cells (Array.replicate 65 (.int .u8 0)) 5)
  obtain ⟨bs, hbs⟩ : ∃ bs : List UInt8, bs = List.replicate 65 0 := ⟨_, rfl⟩
  have hbc : bs.map bval = (Array.replicate 65 (Value.int .u8 0)).toList := by rw [hbs, Array.toList_replicate, List.map_replicate]; rfl
  have hbl : bs.length = 65 := by rw [hbs]; rfl
  obtain ⟨J, hle, hJ, h2⟩ := St.freeze h1
  have hin : Part.In ⟨some ⟨w.heap.size, 0, none⟩, 65, bs⟩ W J := part_lit hJ (fun j u hu => by rw [hbc, Array.getElem?_toList] at hu; exact hu)
  obtain ⟨b0, hb0⟩ : ∃ b, b = w.heap.size := ⟨_, rfl⟩
  rw [← hb0] at hin
  have tJ := t.more hle
  have hmak := rmake tJ ⟨#[99, 111, 114, 101]⟩ (by decide) 1 (by omega) (by omega) 64 (by omega) (by omega) ⟨some ⟨b0, 0, none⟩, 65, bs⟩ hin (by simp only; omega) (by simp only; omega) h2
  rw [hbl] at hmak
  generalize hV : (Array.replicate 65 (Value.int .u8 0)) = V at *
  have H2 := Lib.hid h2; have HMAK := Lib.hid hmak; have HBS := Lib.hid hbs; have HIN := Lib.hid hin; have TT := Lib.hid tJ; have HLE := Lib.hid hle; have HBL := Lib.hid hbl; have T0 := Lib.hid t; have H0 := Lib.hid h
  have hmk65 : ∀ w, (Instr.makeSlice 22 (.int .i64 65) (.int .i64 65)).run Tryd.prog w = .ok (.slice (some ⟨w.heap.size, 0, none⟩) 65 65) (w.alloc (.cells V 5)) := fun w => hmk w
  clear h h1 h2 hbc hJ hbs hin t tJ hle hmak hbl hV hmk
  go_enter Tryd.func9, Tryd.ntmps9
  go_wp2_with fail
  rw [← hb0]
  refine HMAK.out.mono ?_
  rintro e w1 ⟨hyes, -⟩
  clear hb0
  obtain ⟨c1, c2, -⟩ := core_right none 0 bs HBL.out
  obtain ⟨A, c, L0, rfl, hrow, h3⟩ := hyes c2
  rw [c1] at hrow ⊢
  obtain ⟨-, -, hright⟩ := core_right A c bs HBL.out
  have hl32 : ∀ h ∈ hashes bs 64 2, h.length = 32 := by
    intro h hh
    obtain ⟨k, _, rfl⟩ := List.mem_map.1 hh
    exact hashOf_len _
  have hr2 : Row 31 32 (.slice A (hashes bs 64 2).length c) (hashes bs 64 2).length (hcells (hashes bs 64 2)) L0 := by rw [hashes_len]; exact hrow
  obtain ⟨J2, hle2, hh, h4⟩ := hs_freeze hl32 hr2 h3
  have hok : (madeM ⟨#[99, 111, 114, 101]⟩ 1 64 bs A 2 c).Ok := madeM_ok (by omega) (by omega) (by omega) (by omega) (by have := HBL.out; omega) (by omega)
  have hs0 : (hashes bs 64 2)[0]? = some (hashOf (bs.take 64)) := rfl
  have hs1 : (hashes bs 64 2)[1]? = some (hashOf (bs.drop 64)) := by
    have : (bs.drop 64).take 64 = bs.drop 64 := List.take_of_length_le (by rw [List.length_drop, HBL.out]; omega)
    show some (hashOf ((bs.drop (1 * 64)).take 64)) = _
    rw [Nat.one_mul, this]
  have hsl := hashes_len bs 64 2
  obtain ⟨m, hm⟩ : ∃ m, m = madeM ⟨#[99, 111, 114, 101]⟩ 1 64 bs A 2 c := ⟨_, rfl⟩
  have hm1 : m.n = 2 ∧ m.size = 65 ∧ m.chunk = 64 ∧ m.dig = hashOf bs ∧ m.prod.size = 4 ∧ m.A = A := by
    rw [hm]
    exact ⟨rfl, by simp only [madeM]; rw [HBL.out]; rfl, rfl, rfl, rfl, rfl⟩
  rw [← hm] at hok hright ⊢
  generalize hashes bs 64 2 = hs at *
  obtain ⟨m1, m2, m3, m4, m5, m6⟩ := hm1
  rw [← m6] at hh
  have h5 := h4.alloc (.cells zman.cells 34)
  rw [zman_lit] at h5
  have hms := Man.cells_size hok
  have hmo := Man.one m
  have hmi : (Tryd.prog.info? 34).map (·.size) = some m.cells.size := by rw [hms]; kernel_rfl
  have hfx : 0 + m.cells.size ≤ (Value.string ⟨#[]⟩ :: .int .u64 0 :: .int .i64 0 :: .int .i64 0 :: .int .u8 0 :: .int .u8 0 :: .int .u8 0 :: .int .u8 0 :: .int .u8 0 :: .int .u8 0 :: .int .u8 0 :: .int .u8 0 :: .int .u8 0 :: .int .u8 0 :: .int .u8 0 :: .int .u8 0 :: .int .u8 0 :: .int .u8 0 :: .int .u8 0 :: .int .u8 0 :: .int .u8 0 :: .int .u8 0 :: .int .u8 0 :: .int .u8 0 :: .int .u8 0 :: .int .u8 0 :: .int .u8 0 :: .int .u8 0 :: .int .u8 0 :: .int .u8 0 :: .int .u8 0 :: .int .u8 0 :: .int .u8 0 :: .int .u8 0 :: .int .u8 0 :: .int .u8 0 :: .slice none 0 0 :: []).toArray.size := by rw [hms]; decide
  have hsm : setMany (Value.string ⟨#[]⟩ :: .int .u64 0 :: .int .i64 0 :: .int .i64 0 :: .int .u8 0 :: .int .u8 0 :: .int .u8 0 :: .int .u8 0 :: .int .u8 0 :: .int .u8 0 :: .int .u8 0 :: .int .u8 0 :: .int .u8 0 :: .int .u8 0 :: .int .u8 0 :: .int .u8 0 :: .int .u8 0 :: .int .u8 0 :: .int .u8 0 :: .int .u8 0 :: .int .u8 0 :: .int .u8 0 :: .int .u8 0 :: .int .u8 0 :: .int .u8 0 :: .int .u8 0 :: .int .u8 0 :: .int .u8 0 :: .int .u8 0 :: .int .u8 0 :: .int .u8 0 :: .int .u8 0 :: .int .u8 0 :: .int .u8 0 :: .int .u8 0 :: .int .u8 0 :: .slice none 0 0 :: []).toArray 0 m.cells.toList = m.cells := by rw [setMany_whole _ _ (by rw [Array.length_toList, hms]; rfl), Array.toArray_toList]
  have hval : m.val = .agg m.cells := rfl
  rw [hval]
  have hNew := fun (v : World) (hv : St W v J2 ((w1.heap.size, .cells m.cells 34 (0, 0)) :: F)) => inew (TT.out.more hle2) m hok hs (by rw [m1, hsl]) hh (by omega) (by omega) hv
  rw [hval] at hNew
  have H5 := Lib.hid h5; have HMO := Lib.hid hmo; have HMI := Lib.hid hmi; have HFX := Lib.hid hfx; have HSM := Lib.hid hsm; have HNEW := Lib.hid hNew; have HOK := Lib.hid hok; have HR := Lib.hid hright; have HS0 := Lib.hid hs0; have HS1 := Lib.hid hs1; have HSL := Lib.hid hsl; have HLE2 := Lib.hid hle2
  have HM1 := Lib.hid m1; have HM2 := Lib.hid m2; have HM3 := Lib.hid m3; have HM4 := Lib.hid m4; have HM5 := Lib.hid m5
  clear h3 h4 h5 hmo hmi hfx hsm hNew hok hright hs0 hs1 hsl hle2 hyes hrow hr2 hl32 hm hms HMAK H2 m1 m2 m3 m4 m5 m6 hh hval c1 c2
  go_wp2_with (with_reducible refine wpList_store_st rfl 34 (.tmp 2) (.tmp 11) rfl (g := w1.heap.size) (off := 0) m.cells rfl rfl H5.out HFX.out HMI.out HMO.out ?_; intro w2 h6; refine Hid.out ?_)
  refine Lib.hid ?_
  rw [HSM.out] at h6
  have H6 := Lib.hid h6
  clear H5 HFX HMO HSM h6
  generalize w1.heap.size = b2 at *
  go_wp2_with (with_reducible refine wpList_load_st rfl 34 (.tmp 2) rfl (g := b2) (off := 0) rfl H6.out (List.mem_cons_self ..) m.cells (fun j hj => by rw [Nat.zero_add]) _ Tryd.underlying34 rfl HMI.out ?_)
  refine (HNEW.out _ H6.out).mono ?_
  rintro e w3 ⟨hyes, -⟩
  obtain ⟨J3, A', c', s, g, hle3, rfl, hh3, h7⟩ := hyes HR.out
  obtain ⟨m', hm'⟩ : ∃ m', m' = ({ m with A := A', n := hs.length, c := c' } : Man) := ⟨_, rfl⟩
  rw [← hm'] at h7
  have hok' : m'.Ok := by rw [hm']; exact ⟨HOK.out.dig, HOK.out.v0, HOK.out.v1, HOK.out.s0, HOK.out.s1, HOK.out.c0, HOK.out.c1, by simp only; have := HSL.out; omega⟩
  have hr' : rightM m' = true := by
    have : rightM m' = rightM m := by rw [hm']; unfold rightM; simp only; rw [HSL.out, HM1.out]
    rw [this, HR.out]
  have hn' : m'.n = hs.length := by rw [hm']
  have hA' : m'.A = A' := by rw [hm']
  have hsz' : m'.size = 65 := by rw [hm']; exact HM2.out
  have hch' : m'.chunk = 64 := by rw [hm']; exact HM3.out
  have hdg' : m'.dig = hashOf bs := by rw [hm']; exact HM4.out
  have hps' : m'.prod.size = 4 := by rw [hm']; exact HM5.out
  clear hm' HNEW H6
  rw [← hA'] at hh3
  have hsl := HSL.out
  have hbl := HBL.out
  have t3 := (TT.out.more HLE2.out).more hle3
  have hin3 := (HIN.out.mono HLE2.out).mono hle3
  have sp0 : (spanM m' ((0 : Nat) : Int)).2 = 64 := by rw [spanM_yes hr' (by omega) (by rw [hn']; omega), hsz', hch']; decide
  have sp1 : (spanM m' ((1 : Nat) : Int)).2 = 1 := by rw [spanM_yes hr' (by omega) (by rw [hn']; omega), hsz', hch']; decide
  have te0 : takeErr m' hs 0 ((0 : Nat) : Int) (bs.take 64) = 0 := takeErr_ok (by rw [hn']; omega) (by rw [sp0, List.length_take, hbl]; rfl) HS0.out
  have te1 : takeErr m' hs 1 ((1 : Nat) : Int) (bs.drop 64) = 0 := takeErr_ok (by rw [hn']; omega) (by rw [sp1, List.length_drop, hbl]; rfl) HS1.out
  have k0 : ∀ v, Strm W v J3 s g m' [] 0 ((b2, .cells m.cells 34 (0, 0)) :: F) → Calls Tryd.prog 15 #[.pointer (some ⟨s, 0, none⟩), .int .i64 0, .slice (some ⟨b0, 0, none⟩) 64 65] v fun e w' => e = .returned (.int .i64 0) ∧ Strm W w' J3 s g m' (bs.take 64) 1 ((b2, .cells m.cells 34 (0, 0)) :: F) := fun v hv => by
    have h9 := itake t3 hok' hs hn' hh3 (by omega) (by omega) (by omega) (by simp) ((0 : Nat) : Int) (by omega) (by omega) ⟨some ⟨b0, 0, none⟩, 65, bs.take 64⟩ (Part.In_take 65 64 hin3) (by simp only [List.length_take]; omega) hv
    rw [show (⟨some ⟨b0, 0, none⟩, 65, bs.take 64⟩ : Part).bs.length = 64 by simp only [List.length_take, hbl]; rfl] at h9
    refine h9.mono fun e w' hp => ?_
    unfold TakePost at hp
    simp only [te0, if_pos] at hp
    exact ⟨hp.1, by simpa using hp.2⟩
  have k1 : ∀ v, Strm W v J3 s g m' (bs.take 64) 1 ((b2, .cells m.cells 34 (0, 0)) :: F) → Calls Tryd.prog 15 #[.pointer (some ⟨s, 0, none⟩), .int .i64 1, .slice (some ⟨b0, 64, none⟩) 1 1] v fun e w' => e = .returned (.int .i64 0) ∧ Strm W w' J3 s g m' bs 2 ((b2, .cells m.cells 34 (0, 0)) :: F) := fun v hv => by
    have h9 := itake t3 hok' hs hn' hh3 (by omega) (by omega) (by omega) (by rw [List.length_take]; omega) ((1 : Nat) : Int) (by omega) (by omega) ⟨some ⟨b0, 64, none⟩, 1, bs.drop 64⟩ (Part.In_drop 1 64 (by omega) hin3) (by simp only [List.length_drop]; omega) hv
    rw [show (⟨some ⟨b0, 64, none⟩, 1, bs.drop 64⟩ : Part).bs.length = 1 by simp only [List.length_drop, hbl]] at h9
    refine h9.mono fun e w' hp => ?_
    unfold TakePost at hp
    simp only [te1, if_pos, List.take_append_drop] at hp
    exact ⟨hp.1, hp.2⟩
  have H7 := Lib.hid h7; have K0 := Lib.hid k0; have K1 := Lib.hid k1; have HOK' := Lib.hid hok'; have HN' := Lib.hid hn'; have HD' := Lib.hid hdg'; have HIN3 := Lib.hid hin3; have HLE3 := Lib.hid hle3
  clear h7 k0 k1 hok' hn' hdg' te0 te1 sp0 sp1 hr' hA' hsz' hch' hps' hh3 t3 hin3 hle3 hsl hbl HS0 HS1 hyes HMI HOK HR HM1 HM2 HM3 HM4 HM5
  go_wp2_with fail
  refine (K0.out _ H7.out).mono ?_
  rintro e w4 ⟨rfl, h8⟩
  go_wp2_with fail
  refine (K1.out _ h8).mono ?_
  rintro e w5 ⟨rfl, h9⟩
  clear h8 H7 K0 K1
  have kS := strm_made (R := fun e L0 => ∃ A c, e = .returned (.slice A 2 c) ∧ Row 27 64 (.slice A 2 c) 2 (hcells (sects bs 2)) L0) (f := 10) (args := #[.slice (some ⟨b0, 0, none⟩) 65 65]) (fun L hL => by
    have h10 := isectors ⟨some ⟨b0, 0, none⟩, 65, bs⟩ HIN3.out (by simp only; have := HBL.out; omega) (by simp only; have := HBL.out; omega) hL
    simp only [HBL.out] at h10
    refine h10.mono fun e w' hp => ?_
    obtain ⟨A, c, L0, he, hr, h11⟩ := hp
    rw [(sect65 bs HBS.out).1] at he hr
    exact ⟨L0, ⟨A, c, he, hr⟩, h11⟩) h9
  have KS := Lib.hid kS
  clear kS h9
  go_wp2_with fail
  refine KS.out.mono ?_
  rintro e w6 ⟨L1, ⟨A1, c1, rfl, hrow⟩, h10⟩
  obtain ⟨-, hs64, hs65⟩ := sect65 bs HBS.out
  obtain ⟨gs, off, cap1, cur, hv, rfl, hc64⟩ := hrow.cells hs64
  obtain ⟨gs', off', cap1', cur', hv', hL', hc65⟩ := hrow.cells hs65
  injection hL' with hL' _
  injection hL' with q1 q2
  injection q2 with q2 _ _
  subst q1; subst q2
  injection hv with v1 v2 v3
  rw [v1] at hv' ⊢
  injection hv' with v4 v5 v6
  injection v4 with v4
  injection v4 with _ v4
  subst v4
  have kw := iwhole HOK'.out (by have := HBL.out; omega) h10
  have hwt : (((2 : Nat) : Int) == (m'.n : Int) && (hashOf bs == m'.dig)) = true := by rw [HN'.out, HSL.out, HD'.out]; simp
  rw [hwt] at kw
  have KW := Lib.hid kw
  clear kw hwt KS h10 v1 v2 v3 v5 v6 hrow hs64 hs65
  go_wp2_with fail
  refine KW.out.mono ?_
  rintro e w7 ⟨rfl, h11⟩
  have kl := ilen HOK'.out (by have := HBL.out; omega) h11
  rw [HBL.out] at kl
  have e64 : w7.cell? ⟨gs, off + 64, none⟩ = some (.int .u8 0) := (h11.frame1.cell (g := gs) (cs := cur) (t := 27) (fr := (0, 0)) (by simp) (off + 64)).trans hc64
  have e65 : w7.cell? ⟨gs, off + 65, none⟩ = some (.int .u8 255) := (h11.frame1.cell (g := gs) (cs := cur) (t := 27) (fr := (0, 0)) (by simp) (off + 65)).trans hc65
  have KL := Lib.hid kl; have H11 := Lib.hid h11.frame1
  clear kl h11 KW hc64 hc65
  go_wp2_with fail
  refine KL.out.mono ?_
  rintro e w8 ⟨rfl, rfl⟩
  go_wp2_with fail
  go_ret
  exact ⟨rfl, (St.weaken (A := [_, _, _]) H11.out).less ((HLE.out.trans HLE2.out).trans HLE3.out)⟩
end
end Go.Proofs.YtkpgliaahibjgaaDoor
