/- What ManifestNames' manifests come to. ManifestNames: the walk of the law. -/
import Derived.Test.YtfbffmckmchbbaaDoorTxE
import Derived.Test.YtfbffmckmchbbaaDoorTxD
import Derived.Deep.RegionHeld3
namespace Go.Proofs.YtfbffmckmchbbaaDoor
section
set_option linter.unusedVariables false
set_option linter.unusedSimpArgs false
open Go.RowKit Go.Lib

def ecran : ByteArray := ⟨#[195, 169, 99, 114, 97, 110]⟩
theorem pa_nil : paD [] = (mdat zman [], 131) := by
  have h : ownGood [] = false := by kernel_rfl
  unfold paD
  rw [h]
  rfl
theorem mk_no {p : ByteArray} {v c : Int} {bs : List UInt8} (h : mkOk p v c bs = false) : mkD p v c bs = (mdat zman [], 131) := by
  unfold mkD
  rw [h]
  rfl
theorem mk_e (bs : List UInt8) (hl : bs.length = 65) : mkD ⟨#[]⟩ 7 64 bs = (mdat zman [], 131) := by
  refine mk_no ?_
  have hn : nameOk ⟨#[]⟩ = false := by kernel_rfl
  unfold mkOk rightB
  rw [hn]
  simp
theorem mk_g (bs : List UInt8) (hl : bs.length = 65) : mkD ⟨#[97]⟩ 7 65 bs = (mdat zman [], 131) := by
  refine mk_no ?_
  unfold mkOk rightB
  simp
theorem mk_h : mkD ⟨#[97]⟩ 7 64 [] = (mdat zman [], 131) := by
  refine mk_no ?_
  unfold mkOk rightB
  simp
theorem mk_j (bs : List UInt8) (hl : bs.length = 4097) : mkD ⟨#[97]⟩ 7 64 bs = (mdat zman [], 131) := by
  refine mk_no ?_
  have h1 : mkN 64 bs = 65 := by unfold mkN; rw [hl]; decide
  unfold mkOk
  rw [h1]
  rfl
theorem name_ecran : nameOk ecran = true := by kernel_rfl
theorem mk_i (bs : List UInt8) (hl : bs.length = 4096) : mkD ecran 7 64 bs = ((ecran, 7, 4096, 64, hashOf bs, hashes bs 64 64), 0) := by
  have h1 : mkN 64 bs = 64 := by unfold mkN; rw [hl]; decide
  have h2 : mkOk ecran 7 64 bs = true := by
    unfold mkOk rightB
    rw [h1, name_ecran, hl]
    simp [cntM]
  unfold mkD
  rw [if_pos h2, h1, hl]
  rfl
theorem ecran_rightM {m : Man} {h : List UInt8} {hs hs' : List (List UInt8)} (hd : mdat m hs = (ecran, 7, 4096, 64, h, hs')) (hn : m.n = 64) : rightM m = true := by
  obtain ⟨p, v, s, c, d, A, n, k⟩ := m
  unfold mdat at hd
  simp only [Prod.mk.injEq] at hd hn
  obtain ⟨rfl, rfl, rfl, rfl, _, _⟩ := hd
  subst hn
  unfold rightM rightB
  simp only
  rw [name_ecran]
  simp [cntM]
theorem ecran_text {m : Man} {h : List UInt8} {hs hs' : List (List UInt8)} (hd : mdat m hs = (ecran, 7, 4096, 64, h, hs')) (hn : m.n = 64) : ∃ r, mTextL m = [92, 117, 123, 101, 57, 125, 99, 114, 97, 110, 32, 55, 32, 52, 48, 57, 54, 32] ++ r := by
  have hr := ecran_rightM hd hn
  unfold mTextL
  rw [if_pos hr]
  unfold mdat at hd
  simp only [Prod.mk.injEq] at hd
  obtain ⟨h1, h2, h3, _⟩ := hd
  rw [h1, h2, h3]
  have s1 : showOf ecran = [92, 117, 123, 101, 57, 125, 99, 114, 97, 110] := by kernel_rfl
  have s2 : Lib.decDigits (7 : Int).toNat = [55] := by kernel_rfl
  have s3 : Lib.decDigits (4096 : Int).toNat = [52, 48, 57, 54] := by kernel_rfl
  rw [s1, s2, s3]
  exact ⟨_, by simp; rfl⟩
theorem zman_text : mTextL zman = [] := by
  have h : rightM zman = false := by kernel_rfl
  unfold mTextL
  rw [h]
  rfl
theorem ecran_cut {m : Man} {h : List UInt8} {hs hs' : List (List UInt8)} (hd : mdat m hs = (ecran, 7, 4096, 64, h, hs')) (hn : m.n = 64) : 18 ≤ (⟨(mTextL m).toArray⟩ : ByteArray).size ∧ (⟨(mTextL m).toArray⟩ : ByteArray).extract 0 18 = ⟨#[92, 117, 123, 101, 57, 125, 99, 114, 97, 110, 32, 55, 32, 52, 48, 57, 54, 32]⟩ := by
  obtain ⟨r, hr⟩ := ecran_text hd hn
  rw [hr]
  constructor
  · show 18 ≤ (List.toArray _).size
    rw [List.size_toArray, List.length_append]
    simp
  · apply ByteArray.ext
    rw [ByteArray.data_extract]
    apply Array.ext'
    rw [Array.toList_extract]
    simp [List.extract]
section
variable {W w : World} {I : Nat → Option Obj} {F : List (Nat × Obj)}
/-- Make of zeros made anew. -/
theorem pmkZ (t : TB W I) (prod : ByteArray) (hs : prod.size ≤ 500000) (ch : Int) (c0 : -9223372036854775808 ≤ ch) (c1 : ch ≤ 9223372036854775807) (n : Nat) (hn : n ≤ 100000) (h : St W w I F) :
    Calls Tryd.prog 19 #[.string prod, .int .u64 7, .int .i64 ch, .slice (some ⟨w.heap.size, 0, none⟩) n n] (w.alloc (.cells (Array.replicate n (.int .u8 0)) 5)) (MPost W I F (mkD prod 7 ch (List.replicate n 0))) := by
  have h1 := h.alloc (.cells (Array.replicate n (.int .u8 0)) 5)
  obtain ⟨bs, hbs⟩ : ∃ bs : List UInt8, bs = List.replicate n 0 := ⟨_, rfl⟩
  have hbc : bs.map bval = (Array.replicate n (Value.int .u8 0)).toList := by rw [hbs, Array.toList_replicate, List.map_replicate]; rfl
  have hbl : bs.length = n := by rw [hbs, List.length_replicate]
  obtain ⟨J, hle, hJ, h2⟩ := St.freeze h1
  have hin : Part.In ⟨some ⟨w.heap.size, 0, none⟩, n, bs⟩ W J := part_lit hJ (fun j u hu => by rw [hbc, Array.getElem?_toList] at hu; exact hu)
  have k := pmk (t.more hle) prod hs 7 (by omega) (by omega) ch c0 c1 ⟨some ⟨w.heap.size, 0, none⟩, n, bs⟩ hin (by simp only; omega) (by simp only; omega) h2
  simp only [hbl] at k
  rw [← hbs]
  exact k.mono fun e w' ⟨J2, m, hs, hle2, r⟩ => ⟨J2, m, hs, hle.trans hle2, r⟩
end
end

section
set_option linter.unusedVariables false
set_option linter.unusedSimpArgs false
open Go.RowKit Go.Lib

set_option maxRecDepth 100000 in
set_option maxHeartbeats 8000000 in
theorem walk_manifestNames (W : World) (tabs : TabsT W) :
    Calls Tryd.prog 9 #[] W fun e w' => e = .returned (.bool true) ∧ Below W.heap.size W w' := by
  have t := TB.start tabs.tabs
  have h0 := St.start W
  have hb64 : roCell (fun b => W.heap[b]?) ⟨8, 15, none⟩ = some (.int .u8 4) := tabs.b64
  have k1 := ppa t ⟨none, 0, []⟩ (Part.In_nil none 0) (by simp) (by simp) h0
  rw [pa_nil] at k1
  simp only [List.length_nil] at k1
  have hmk65 := run_make_repl (P := Tryd.prog) 22 5 (.int .u8 0) 1 Tryd.underlying22 (by kernel_rfl) rfl 65 (by omega) (by omega)
  have hmk4096 := run_make_repl (P := Tryd.prog) 22 5 (.int .u8 0) 1 Tryd.underlying22 (by kernel_rfl) rfl 4096 (by omega) (by omega)
  have hmk4097 := run_make_repl (P := Tryd.prog) 22 5 (.int .u8 0) 1 Tryd.underlying22 (by kernel_rfl) rfl 4097 (by omega) (by omega)
  obtain ⟨V65, hV65⟩ : ∃ V, Array.replicate 65 (Value.int .u8 0) = V := ⟨_, rfl⟩
  obtain ⟨V4096, hV4096⟩ : ∃ V, Array.replicate 4096 (Value.int .u8 0) = V := ⟨_, rfl⟩
  obtain ⟨V4097, hV4097⟩ : ∃ V, Array.replicate 4097 (Value.int .u8 0) = V := ⟨_, rfl⟩
  have m65 : ∀ w, (Instr.makeSlice 22 (.int .i64 65) (.int .i64 65)).run Tryd.prog w = .ok (.slice (some ⟨w.heap.size, 0, none⟩) 65 65) (w.alloc (.cells V65 5)) := fun w => by rw [← hV65]; exact hmk65 w
  have m4096 : ∀ w, (Instr.makeSlice 22 (.int .i64 4096) (.int .i64 4096)).run Tryd.prog w = .ok (.slice (some ⟨w.heap.size, 0, none⟩) 4096 4096) (w.alloc (.cells V4096 5)) := fun w => by rw [← hV4096]; exact hmk4096 w
  have m4097 : ∀ w, (Instr.makeSlice 22 (.int .i64 4097) (.int .i64 4097)).run Tryd.prog w = .ok (.slice (some ⟨w.heap.size, 0, none⟩) 4097 4097) (w.alloc (.cells V4097 5)) := fun w => by rw [← hV4097]; exact hmk4097 w
  have K1 := Lib.hid k1; have TT := Lib.hid t; have T10 := Lib.hid tabs.t10; have HB64 := Lib.hid hb64
  have HV65 := Lib.hid hV65; have HV4096 := Lib.hid hV4096; have HV4097 := Lib.hid hV4097
  have LE0 : Hid (Le (fun b => W.heap[b]?) (fun b => W.heap[b]?)) := Lib.hid (Le.refl _)
  clear k1 t h0 hb64 tabs hmk65 hmk4096 hmk4097 hV65 hV4096 hV4097
  go_enter Tryd.func9, Tryd.ntmps9
  go_wp2_with fail
  refine K1.out.mono ?_
  rintro e w1 ⟨J1, m1, hs1, hle, rfl, mi, hd, h⟩
  simp only at hd ⊢
  have LE1 := Lib.hid (LE0.out.trans hle); have LS1 := Lib.hid hle; have HD1 := Lib.hid hd; have MI1 := Lib.hid mi
  clear K1 hle hd
  have hA := (h).alloc (.cells zman.cells 29)
  rw [zman_lit] at hA
  obtain ⟨hmo, hmi, hfx, hsm⟩ := man_store (mi).ok
  have HA := Lib.hid hA; have HMO := Lib.hid hmo; have HMI21 := Lib.hid hmi; have HFX := Lib.hid hfx; have HSM := Lib.hid hsm
  rw [show m1.val = .agg m1.cells from rfl]
  clear hA hmo hmi hfx hsm 
  go_wp2_with (with_reducible refine wpList_store_st rfl 29 (.tmp 1) (.tmp 15) rfl (g := w1.heap.size) (off := 0) m1.cells rfl rfl HA.out HFX.out HMI21.out HMO.out ?_; intro w21 h21; refine Hid.out ?_)
  refine Lib.hid ?_
  rw [HSM.out] at h21
  generalize w1.heap.size = b21 at *
  have H21 := Lib.hid h21
  clear HA HMO HFX HSM h21
  clear mi h
  have k := pmkZ (TT.out.more LE1.out) ⟨#[]⟩ (by decide) 64 (by omega) (by omega) 65 (by omega) H21.out
  rw [mk_e _ (by rw [List.length_replicate]), HV65.out] at k
  have K2 := Lib.hid k
  clear k
  go_wp2_with fail
  refine K2.out.mono ?_
  rintro e w2 ⟨J2, m2, hs2, hle, rfl, mi, hd, h⟩
  simp only at hd ⊢
  have LE2 := Lib.hid (LE1.out.trans hle); have LS2 := Lib.hid hle; have HD2 := Lib.hid hd; have MI2 := Lib.hid mi
  clear K2 hle hd
  have hA := (h).alloc (.cells zman.cells 29)
  rw [zman_lit] at hA
  obtain ⟨hmo, hmi, hfx, hsm⟩ := man_store (mi).ok
  have HA := Lib.hid hA; have HMO := Lib.hid hmo; have HMI22 := Lib.hid hmi; have HFX := Lib.hid hfx; have HSM := Lib.hid hsm
  rw [show m2.val = .agg m2.cells from rfl]
  clear hA hmo hmi hfx hsm 
  go_wp2_with (with_reducible refine wpList_store_st rfl 29 (.tmp 3) (.tmp 20) rfl (g := w2.heap.size) (off := 0) m2.cells rfl rfl HA.out HFX.out HMI22.out HMO.out ?_; intro w22 h22; refine Hid.out ?_)
  refine Lib.hid ?_
  rw [HSM.out] at h22
  generalize w2.heap.size = b22 at *
  have H22 := Lib.hid h22
  clear HA HMO HFX HSM h22
  clear mi h
  have k := pmkZ (TT.out.more LE2.out) ⟨#[97]⟩ (by decide) 65 (by omega) (by omega) 65 (by omega) H22.out
  rw [mk_g _ (by rw [List.length_replicate]), HV65.out] at k
  have K3 := Lib.hid k
  clear k
  go_wp2_with fail
  refine K3.out.mono ?_
  rintro e w3 ⟨J3, m3, hs3, hle, rfl, mi, hd, h⟩
  simp only at hd ⊢
  have LE3 := Lib.hid (LE2.out.trans hle); have LS3 := Lib.hid hle; have HD3 := Lib.hid hd; have MI3 := Lib.hid mi
  clear K3 hle hd
  have hA := (h).alloc (.cells zman.cells 29)
  rw [zman_lit] at hA
  obtain ⟨hmo, hmi, hfx, hsm⟩ := man_store (mi).ok
  have HA := Lib.hid hA; have HMO := Lib.hid hmo; have HMI23 := Lib.hid hmi; have HFX := Lib.hid hfx; have HSM := Lib.hid hsm
  rw [show m3.val = .agg m3.cells from rfl]
  clear hA hmo hmi hfx hsm 
  go_wp2_with (with_reducible refine wpList_store_st rfl 29 (.tmp 5) (.tmp 25) rfl (g := w3.heap.size) (off := 0) m3.cells rfl rfl HA.out HFX.out HMI23.out HMO.out ?_; intro w23 h23; refine Hid.out ?_)
  refine Lib.hid ?_
  rw [HSM.out] at h23
  generalize w3.heap.size = b23 at *
  have H23 := Lib.hid h23
  clear HA HMO HFX HSM h23
  clear mi h
  have k := pmk (TT.out.more LE3.out) ⟨#[97]⟩ (by decide) 7 (by omega) (by omega) 64 (by omega) (by omega) ⟨none, 0, []⟩ (Part.In_nil none 0) (by simp) (by simp) H23.out
  rw [mk_h] at k
  simp only [List.length_nil] at k
  have K4 := Lib.hid k
  clear k
  go_wp2_with fail
  refine K4.out.mono ?_
  rintro e w4 ⟨J4, m4, hs4, hle, rfl, mi, hd, h⟩
  simp only at hd ⊢
  have LE4 := Lib.hid (LE3.out.trans hle); have LS4 := Lib.hid hle; have HD4 := Lib.hid hd; have MI4 := Lib.hid mi
  clear K4 hle hd
  have hA := (h).alloc (.cells zman.cells 29)
  rw [zman_lit] at hA
  obtain ⟨hmo, hmi, hfx, hsm⟩ := man_store (mi).ok
  have HA := Lib.hid hA; have HMO := Lib.hid hmo; have HMI24 := Lib.hid hmi; have HFX := Lib.hid hfx; have HSM := Lib.hid hsm
  rw [show m4.val = .agg m4.cells from rfl]
  clear hA hmo hmi hfx hsm 
  go_wp2_with (with_reducible refine wpList_store_st rfl 29 (.tmp 7) (.tmp 29) rfl (g := w4.heap.size) (off := 0) m4.cells rfl rfl HA.out HFX.out HMI24.out HMO.out ?_; intro w24 h24; refine Hid.out ?_)
  refine Lib.hid ?_
  rw [HSM.out] at h24
  generalize w4.heap.size = b24 at *
  have H24 := Lib.hid h24
  clear HA HMO HFX HSM h24
  clear mi h
  have k := pmkZ (TT.out.more LE4.out) ecran (by decide) 64 (by omega) (by omega) 4096 (by omega) H24.out
  rw [mk_i _ (by rw [List.length_replicate]), HV4096.out] at k
  unfold ecran at k
  have K5 := Lib.hid k
  clear k
  go_wp2_with fail
  refine K5.out.mono ?_
  rintro e w5 ⟨J5, m5, hs5, hle, rfl, mi, hd, h⟩
  simp only at hd ⊢
  have LE5 := Lib.hid (LE4.out.trans hle); have LS5 := Lib.hid hle; have HD5 := Lib.hid hd; have MI5 := Lib.hid mi
  clear K5 hle hd
  have hA := (h).alloc (.cells zman.cells 29)
  rw [zman_lit] at hA
  obtain ⟨hmo, hmi, hfx, hsm⟩ := man_store (mi).ok
  have HA := Lib.hid hA; have HMO := Lib.hid hmo; have HMI25 := Lib.hid hmi; have HFX := Lib.hid hfx; have HSM := Lib.hid hsm
  rw [show m5.val = .agg m5.cells from rfl]
  clear hA hmo hmi hfx hsm 
  go_wp2_with (with_reducible refine wpList_store_st rfl 29 (.tmp 9) (.tmp 34) rfl (g := w5.heap.size) (off := 0) m5.cells rfl rfl HA.out HFX.out HMI25.out HMO.out ?_; intro w25 h25; refine Hid.out ?_)
  refine Lib.hid ?_
  rw [HSM.out] at h25
  generalize w5.heap.size = b25 at *
  have H25 := Lib.hid h25
  clear HA HMO HFX HSM h25
  clear mi h
  have k := pmkZ (TT.out.more LE5.out) ⟨#[97]⟩ (by decide) 64 (by omega) (by omega) 4097 (by omega) H25.out
  rw [mk_j _ (by rw [List.length_replicate]), HV4097.out] at k
  have K6 := Lib.hid k
  clear k
  go_wp2_with fail
  refine K6.out.mono ?_
  rintro e w6 ⟨J6, m6, hs6, hle, rfl, mi, hd, h⟩
  simp only at hd ⊢
  have LE6 := Lib.hid (LE5.out.trans hle); have LS6 := Lib.hid hle; have HD6 := Lib.hid hd; have MI6 := Lib.hid mi
  clear K6 hle hd
  have hA := (h).alloc (.cells zman.cells 29)
  rw [zman_lit] at hA
  obtain ⟨hmo, hmi, hfx, hsm⟩ := man_store (mi).ok
  have HA := Lib.hid hA; have HMO := Lib.hid hmo; have HMI26 := Lib.hid hmi; have HFX := Lib.hid hfx; have HSM := Lib.hid hsm
  rw [show m6.val = .agg m6.cells from rfl]
  clear hA hmo hmi hfx hsm 
  go_wp2_with (with_reducible refine wpList_store_st rfl 29 (.tmp 11) (.tmp 39) rfl (g := w6.heap.size) (off := 0) m6.cells rfl rfl HA.out HFX.out HMI26.out HMO.out ?_; intro w26 h26; refine Hid.out ?_)
  refine Lib.hid ?_
  rw [HSM.out] at h26
  generalize w6.heap.size = b26 at *
  have H26 := Lib.hid h26
  clear HA HMO HFX HSM h26
  clear mi h

  have tJ := TT.out.more LE6.out
  have hb6 := roCell_mono LE6.out HB64.out
  have hn5 : m5.n = 64 := by rw [MI5.out.n]; have := congrArg (fun d : MDat => d.2.2.2.2.2.length) HD5.out; exact this.trans (hashes_len _ _ _)
  obtain ⟨c1, c2⟩ := ecran_cut HD5.out hn5
  obtain ⟨tx, htx⟩ : ∃ tx : ByteArray, (⟨(mTextL m5).toArray⟩ : ByteArray) = tx := ⟨_, rfl⟩
  rw [htx] at c1 c2
  have c1i : (18 : Int) ≤ (tx.size : Int) := by omega
  have kA := fun (v : World) (F : List (Nat × Obj)) (hv : St W v J6 F) => man_alive tJ hv
  have kC1 := fun (v : World) => count_any 0 1 (by omega) (by omega) v
  have kC2 := fun (v : World) => count_any 5 0 (by omega) (by omega) v
  rw [show cntM 0 1 = 0 from by decide] at kC1
  rw [show cntM 5 0 = 0 from by decide] at kC2
  have kZ := fun (v : World) (F : List (Nat × Obj)) (hv : St W v J6 F) => mtext tJ T10.out hb6 zman zman_ok (by decide) hv
  have kX := fun (v : World) (F : List (Nat × Obj)) (hv : St W v J6 F) => mtext tJ T10.out hb6 m5 MI5.out.ok MI5.out.psz hv
  rw [zman_text] at kZ
  rw [htx] at kX
  rw [show zman.val = .agg zman.cells from rfl, zman_lit] at kZ
  rw [show m5.val = .agg m5.cells from rfl] at kX
  have hul : Tryd.prog.underlying 29 = some _ := Tryd.underlying29
  have hma : (Tryd.prog.info? 29).map (·.size) = some m5.cells.toList.length := by rw [Array.length_toList]; exact HMI25.out
  have ok5 := MI5.out.ok
  have sx : ∀ v F, St W v J6 F → (b25, Obj.cells m5.cells 29 (0, 0)) ∈ F → v.rangeAt b25 0 m5.cells.toList ∧ v.cell? ⟨b25, 36, none⟩ = some (.slice m5.A 64 m5.c) := fun v F hv q1 => ⟨hv.rangeAt (g := b25) (cs := m5.cells) (t := 29) (fr := (0, 0)) q1 (fun j hj => by simp), by
    have h := (man_cells ok5 hv q1).2.2.2.2
    rw [hn5] at h
    exact h⟩
  have KA := Lib.hid kA; have KC1 := Lib.hid kC1; have KC2 := Lib.hid kC2; have KZ := Lib.hid kZ; have KX := Lib.hid kX; have SX := Lib.hid sx
  clear kA kC1 kC2 kZ kX hul hma sx tJ hb6 htx m65 m4096 m4097 ok5
  go_wp2_with fail
  refine (KA.out _ _ H26.out).mono ?_
  rintro e wa ⟨rfl, ha⟩
  have c36 := (SX.out _ _ ha (by simp)).2
  have HA := Lib.hid ha
  clear ha KA
  go_wp2_with fail
  refine (KC1.out _).mono ?_
  rintro e wb ⟨rfl, rfl⟩
  clear KC1
  go_wp2_with fail
  refine (KC2.out _).mono ?_
  rintro e wb ⟨rfl, rfl⟩
  clear KC2
  go_wp2_with fail
  refine (KZ.out _ _ HA.out).mono ?_
  rintro e wc ⟨rfl, hc⟩
  have HC := Lib.hid hc
  clear hc KZ c36
  go_wp2_with (refine wpList_load_g (by rfl) 29 (.tmp 9) rfl (g := b25) (off := 0) rfl HC.out (cs := m5.cells) (t := 29) (fr := (0, 0)) (by simp) m5.cells (fun j hj => by rw [Nat.zero_add]) _ Tryd.underlying29 rfl HMI25.out ?_)
  refine (KX.out _ _ HC.out).mono ?_
  rintro e wd ⟨rfl, hd⟩
  have HF : Hid (Below W.heap.size W wd) := Lib.hid (hd.below LE6.out)
  clear hd KX
  go_wp2_with fail
  go_ret
  exact ⟨by first | rfl | simp, HF.out⟩
end
end Go.Proofs.YtfbffmckmchbbaaDoor
