/- manifest: Bytes: walk. manifest: hash (the next one): walk. -/
import Derived.Test.YtfbffmckmchbbaaDoorCodM
import Derived.Test.YtfbffmckmchbbaaDoorManRS
import Derived.Test.YtfbffmckmchbbaaDoorResRow
namespace Go.Proofs.YtfbffmckmchbbaaDoor
section
set_option linter.unusedVariables false
set_option linter.unusedSimpArgs false
open Go.RowKit Go.Lib

/-- A manifest's bytes. -/
def mBy (m : Man) (hs : List (List UInt8)) : List UInt8 := mbytes m.prod m.ver.toNat m.size.toNat m.chunk.toNat m.dig hs
def mBy1 (m : Man) : List UInt8 := txB m.prod ++ leB m.ver.toNat 8
def mBy3 (m : Man) : List UInt8 := mBy1 m ++ leB m.size.toNat 4 ++ leB m.chunk.toNat 2
theorem mBy_eq (m : Man) (hs : List (List UInt8)) : mBy3 m ++ m.dig ++ hs.flatten = mBy m hs := by
  unfold mBy mbytes mBy3 mBy1 txB
  simp only [List.append_assoc]
def mByK (m : Man) (hs : List (List UInt8)) (k : Nat) : List UInt8 := mBy3 m ++ m.dig ++ (hs.take k).flatten
theorem Man.gd {m : Man} {j : Nat} {u : Value} (ok : m.Ok) (hj : (m.dig.map bval)[j]? = some u) : m.cells[4 + j]? = some u := by
  have h1 := (List.getElem?_eq_some_iff.1 hj).1
  rw [List.length_map] at h1
  unfold Man.cells
  rw [List.getElem?_toArray, List.getElem?_append_left (by simp; omega), List.getElem?_append_right (by simp)]
  simpa using hj
theorem mBy1_len (m : Man) : (mBy1 m).length = 10 + m.prod.size := by unfold mBy1; rw [List.length_append, txB_len, leB_len]; omega
theorem mBy3_len (m : Man) : (mBy3 m).length = 16 + m.prod.size := by unfold mBy3; rw [List.length_append, List.length_append, mBy1_len, leB_len, leB_len]; omega

theorem mByK_len {m : Man} (ok : m.Ok) {hs : List (List UInt8)} (h32 : ∀ h ∈ hs, h.length = 32) (k : Nat) (hk : k ≤ hs.length) : (mByK m hs k).length = 48 + m.prod.size + 32 * k := by
  unfold mByK
  rw [List.length_append, List.length_append, mBy3_len, ok.dig, flat32 _ (fun h hh => h32 h (List.mem_of_mem_take hh)), List.length_take]
  omega
theorem mByK_succ (m : Man) (hs : List (List UInt8)) (k : Nat) (x : List UInt8) (h : hs[k]? = some x) : mByK m hs (k + 1) = mByK m hs k ++ x := by
  unfold mByK
  rw [List.take_add_one, h]
  simp

section
variable {W w : World} {I : Nat → Option Obj} {F : List (Nat × Obj)}
def ByPost (W : World) (I : Nat → Option Obj) (F : List (Nat × Obj)) (m : Man) (hs : List (List UInt8)) (e : Ending) (w' : World) : Prop :=
  (rightM m = false → e = .returned (.slice none 0 0) ∧ St W w' I F) ∧ (rightM m = true → ∃ v, e = .returned v ∧ FreshB W w' I F (mBy m hs) v)

set_option maxRecDepth 100000 in
set_option maxHeartbeats 4000000 in
theorem mbytes_own (t : TB W I) (m : Man) (ok : m.Ok) (hs : List (List UInt8)) (hn : m.n = hs.length) (hh : HsIn m.A hs W I) (hps : m.prod.size ≤ 500000) (h : St W w I F) :
    Calls Tryd.prog 18 #[m.val] w (ByPost W I F m hs) := by
  have h1 := h.alloc (.cells m.cells 29)
  have cR := right_own t m ok (by omega) h1
  have hsz := Man.cells_size ok
  have hmi : (Tryd.prog.info? 29).map (·.size) = some m.cells.size := by rw [hsz]; kernel_rfl
  obtain ⟨R, hR⟩ : ∃ R, rightM m = R := ⟨_, rfl⟩
  rw [hR] at cR
  have facts : ∀ (b1 : Nat) (v : World) (J : Nat → Option Obj) (L : List (Nat × Obj)), St W v J L → (b1, Obj.cells m.cells 29 (0, 0)) ∈ L → v.cell? ⟨b1, 0, none⟩ = some (.string m.prod) ∧ v.cell? ⟨b1, 1, none⟩ = some (.int .u64 m.ver) ∧ v.cell? ⟨b1, 2, none⟩ = some (.int .i64 m.size) ∧ v.cell? ⟨b1, 3, none⟩ = some (.int .i64 m.chunk) ∧ v.cell? ⟨b1, 36, none⟩ = some (.slice m.A m.n m.c) := fun b1 v J L hv hm => man_cells ok hv hm
  unfold Man.val at cR ⊢
  obtain ⟨mk, hmk⟩ : ∃ mk, m.cells = mk := ⟨_, rfl⟩
  rw [hmk] at h1 cR hsz hmi facts ⊢
  have H1 := Lib.hid h1; have CR := Lib.hid cR; have HMI := Lib.hid hmi; have HMK := Lib.hid hmk; have HR := Lib.hid hR; have HH := Lib.hid hh; have HSZ := Lib.hid hsz; have FACTS := Lib.hid facts; have OK := Lib.hid ok
  clear h h1 cR hmi hmk hR hh hsz facts t ok
  go_enter Tryd.func18, Tryd.ntmps18
  go_wp2_with (with_reducible refine wpList_load_st rfl 29 (.tmp 1) rfl (g := w.heap.size) (off := 0) rfl H1.out (List.mem_cons_self ..) mk (fun j hj => by rw [Nat.zero_add]) _ Tryd.underlying29 rfl HMI.out ?_)
  refine CR.out.mono ?_
  rintro e w1 ⟨rfl, h2⟩
  have H2 := Lib.hid h2
  clear H1 CR h2
  generalize w.heap.size = b1 at *
  cases R with
  | false =>
    go_wp2_with fail
    go_ret
    exact ⟨fun _ => ⟨rfl, St.weaken (A := [_]) H2.out⟩, fun h => absurd (HR.out.symm.trans h) (by simp)⟩
  | true =>
    obtain ⟨r1, r2, r3, r4, r5, r6, r7, r8, r9, r10⟩ := (rightM_iff m).1 HR.out
    obtain ⟨ver, hver⟩ : ∃ n : Nat, m.ver = (n : Int) := ⟨m.ver.toNat, by omega⟩
    obtain ⟨size, hsize⟩ : ∃ n : Nat, m.size = (n : Int) := ⟨m.size.toNat, by omega⟩
    obtain ⟨chunk, hchunk⟩ : ∃ n : Nat, m.chunk = (n : Int) := ⟨m.chunk.toNat, by omega⟩
    have hB1 : mBy1 m = txB m.prod ++ leB ver 8 := by unfold mBy1; rw [hver, Int.toNat_natCast]
    have hB3 : mBy3 m = mBy1 m ++ leB size 4 ++ leB chunk 2 := by unfold mBy3; rw [hsize, hchunk, Int.toNat_natCast, Int.toNat_natCast]
    have hl1 := mBy1_len m
    have hl3 := mBy3_len m
    have facts := FACTS.out b1
    rw [hver, hsize, hchunk, hn] at facts
    have FA := Lib.hid facts
    obtain ⟨s0, s1, s2, s3, s36⟩ := facts _ _ _ H2.out.drew1 (List.mem_cons_self ..)
    have H2D := Lib.hid H2.out.drew1
    have kT := fun (v : World) (gb : Nat) (h : St W v I ((gb, .cells #[.string m.prod] 9 (0, 0)) :: (b1, .cells mk 29 (0, 0)) :: F)) => ctext m.prod (by omega) gb h
    have KT := Lib.hid kT
    have sf1 : ∀ (v : World) (J : Nat → Option Obj) (L : List (Nat × Obj)), St W v J L → (b1, Obj.cells mk 29 (0, 0)) ∈ L → v.cell? ⟨b1, 0, none⟩ = some (.string m.prod) ∧ v.cell? ⟨b1, 1, none⟩ = some (.int .u64 (ver : Int)) := fun v J L hv hm => ⟨(facts v J L hv hm).1, (facts v J L hv hm).2.1⟩
    have SF1 := Lib.hid sf1
    have kF1 : ∀ (v : World) (J : Nat → Option Obj) (A : Option Addr) (c gb : Nat), Part.In ⟨A, c, txB m.prod⟩ W J → St W v J ((gb, .cells #[.string m.prod] 9 (0, 0)) :: (b1, .cells mk 29 (0, 0)) :: F) → Calls Tryd.prog 40 #[.slice A (txB m.prod).length c, .int .u64 (ver : Int), .int .i64 8] v fun e w' => ∃ v, e = .returned v ∧ FreshB W w' J ((gb, .cells #[.string m.prod] 9 (0, 0)) :: (b1, .cells mk 29 (0, 0)) :: F) (mBy1 m) v := fun v J A c gb hp h => by
      rw [hB1]
      exact cfixed ⟨A, c, txB m.prod⟩ hp (by simp only [txB_len]; omega) ver 8 (by omega) (by omega) h
    have KF1 := Lib.hid kF1
    have FA3 := Lib.hid hl3
    have FA1 := Lib.hid hl1
    clear facts kT FACTS sf1 kF1 hB1 hl1 hl3 s0 s1 s2 s3 s36
    go_wp2_with fail
    go_region_held3 (fun v => v.cell? ⟨b1, 0, none⟩ = some (.string m.prod) ∧ v.cell? ⟨b1, 1, none⟩ = some (.int .u64 (ver : Int)))
      (first | exact SF1.out _ _ _ H2D.out (by simp) | exact SF1.out _ _ _ (St.alloc_ H2D.out _) (by simp) | exact SF1.out _ _ _ h5 (by simp) | exact SF1.out _ _ _ h6 (by simp))
      (first
      | (go_at_call 41; refine (KT.out _ _ (by first | exact St.alloc H2D.out _ | exact (St.alloc H2.out _).drew1)).mono ?_; rintro e w5 ⟨v5, rfl, A5, c5, L5, rfl, hr5, hq5⟩; obtain ⟨J5, hle5, hin5, h5⟩ := part_freeze hr5 hq5; dsimp only)
      | (go_at_call 40; refine (KF1.out _ _ _ _ _ hin5 h5).mono ?_; rintro e w6 ⟨v6, rfl, A6, c6, L6, rfl, hr6, h6⟩; dsimp only))
    obtain ⟨J6, hle6, hin6, h7⟩ := part_freeze hr6 h6
    have h8 := St.weaken (A := [_]) h7
    have hle : Le I J6 := hle5.trans hle6
    have hl1 := FA1.out
    have facts := FA.out
    have sf2 : ∀ (v : World) (J : Nat → Option Obj) (L : List (Nat × Obj)), St W v J L → (b1, Obj.cells mk 29 (0, 0)) ∈ L → v.cell? ⟨b1, 2, none⟩ = some (.int .i64 (size : Int)) ∧ v.cell? ⟨b1, 3, none⟩ = some (.int .i64 (chunk : Int)) := fun v J L hv hm => ⟨(facts v J L hv hm).2.2.1, (facts v J L hv hm).2.2.2.1⟩
    have SF2 := Lib.hid sf2
    have kG1 : ∀ (v : World), St W v J6 ((b1, .cells mk 29 (0, 0)) :: F) → Calls Tryd.prog 40 #[.slice A6 (mBy1 m).length c6, .int .u64 (IntKind.u64.wrap (size : Int)), .int .i64 4] v fun e w' => ∃ v, e = .returned v ∧ FreshB W w' J6 ((b1, .cells mk 29 (0, 0)) :: F) (mBy1 m ++ leB size 4) v := fun v h => by
      rw [show IntKind.u64.wrap (size : Int) = (size : Int) from IntWalk.u64_in _ (by omega)]
      exact cfixed ⟨A6, c6, mBy1 m⟩ hin6 (by simp only; omega) size 4 (by omega) (by omega) h
    have kG2 : ∀ (v : World) (J : Nat → Option Obj) (A : Option Addr) (c : Nat), Part.In ⟨A, c, mBy1 m ++ leB size 4⟩ W J → St W v J ((b1, .cells mk 29 (0, 0)) :: F) → Calls Tryd.prog 40 #[.slice A (mBy1 m ++ leB size 4).length c, .int .u64 (IntKind.u64.wrap (chunk : Int)), .int .i64 2] v fun e w' => ∃ v, e = .returned v ∧ FreshB W w' J ((b1, .cells mk 29 (0, 0)) :: F) (mBy3 m) v := fun v J A c hp h => by
      rw [hB3, show IntKind.u64.wrap (chunk : Int) = (chunk : Int) from IntWalk.u64_in _ (by omega)]
      exact cfixed ⟨A, c, mBy1 m ++ leB size 4⟩ hp (by simp only [List.length_append, leB_len]; omega) chunk 2 (by omega) (by omega) h
    have H8D := Lib.hid h8.drew1
    obtain ⟨s2, s3⟩ := sf2 _ _ _ h8.drew1 (List.mem_cons_self ..)
    have KG1 := Lib.hid kG1; have KG2 := Lib.hid kG2; have HB3 := Lib.hid hB3; have H8 := Lib.hid h8; have HLE := Lib.hid hle
    clear facts sf2 kG1 kG2 h8 h7 hin6 hr6 h6 hq5 h5 hr5 hin5 KT KF1 SF1 H2 H2D hl1 hB3 hle hle5 hle6
    generalize hq : mBy1 m ++ leB size 4 = q2 at *
    go_wp2_with fail
    go_region_held3 (fun v => v.cell? ⟨b1, 2, none⟩ = some (.int .i64 (size : Int)) ∧ v.cell? ⟨b1, 3, none⟩ = some (.int .i64 (chunk : Int)))
      (first | exact SF2.out _ _ _ H8D.out (by simp) | exact SF2.out _ _ _ h5 (by simp) | exact SF2.out _ _ _ h7 (by simp))
      (first
      | (go_at_call 40; (with_reducible refine (KG1.out _ H8D.out).mono ?_); rintro e w5 ⟨v5, rfl, A5, c5, L5, rfl, hr5, hq5⟩; obtain ⟨J5, hle5, hin5, h5⟩ := part_freeze hr5 hq5; dsimp only)
      | (go_at_call 40; (with_reducible refine (KG2.out _ _ _ _ hin5 h5).mono ?_); rintro e w6 ⟨v6, rfl, A7, c7, L7, rfl, hr7, h7⟩; dsimp only))
    have hle9 : Le I J5 := HLE.out.trans hle5
    have ok := OK.out
    have hl3 := FA3.out
    obtain ⟨s0, s1, s2, s3, s36⟩ := FA.out _ _ _ h7 (by simp)
    have hsrc : Src w6 1 (some ⟨b1, 4, none⟩) 32 (m.dig.map bval) := by
      refine ⟨by rw [List.length_map, ok.dig], fun j u hj => ⟨_, rfl, ?_⟩⟩
      rw [show (⟨b1, 4, none⟩ : Addr).add j = ⟨b1, 4 + j, none⟩ by unfold Addr.add; split <;> simp_all, h7.cell (g := b1) (cs := mk) (t := 29) (fr := (0, 0)) (by simp), ← HMK.out]
      exact Man.gd ok hj
    have h32 := HH.out.len
    have hK0 := mByK_len ok h32 0 (by omega)
    have hLK := fun k hk => mByK_len ok h32 k hk
    have hSU := mByK_succ m hs
    have hKE : mByK m hs hs.length = mBy m hs := by unfold mByK; rw [List.take_length]; exact mBy_eq m hs
    have hH9 := HH.out.mono hle9
    have hKz : mByK m hs 0 = mBy3 m ++ m.dig := by unfold mByK; simp
    obtain ⟨N, hN⟩ : ∃ N, 48 + m.prod.size = N := ⟨_, rfl⟩
    rw [hN] at hK0 hLK
    have H7 := Lib.hid h7; have HR7 := Lib.hid hr7; have HSRC := Lib.hid hsrc; have HK0 := Lib.hid hK0; have HLK := Lib.hid hLK; have HSU := Lib.hid hSU; have HKE := Lib.hid hKE; have HL3 := Lib.hid hl3; have HH9 := Lib.hid hH9; have HLE9 := Lib.hid hle9; have HKZ := Lib.hid hKz; have HN := Lib.hid hN
    clear h7 hr7 hsrc hK0 hLK hSU hKE hl3 hH9 hle9 hKz h5 hq5 hr5 hin5 hle5 KG1 KG2 SF2 H8 H8D ok h32 s0 s1 s2 s3 hq hN HB3 HLE HH
    generalize m.A = A36 at *
    go_wp2_with (at_builtin; refine Hid.out ?_)
    refine Lib.hid ?_
    refine wpList_append_row (F := ((b1, .cells mk 29 (0, 0)) :: F)) rfl (.tmp 25) (.tmp 27) 22 rfl 5 (.int .u8 0) 1 1 Tryd.underlying22 (by kernel_rfl) rfl (by omega) rfl HR7.out H7.out rfl HSRC.out (by intro u hu; obtain ⟨b, _, rfl⟩ := List.mem_map.1 hu; rfl) N (by have := HL3.out; have := HN.out; omega) ((mByK m hs 0).map bval) (by rw [HKZ.out, List.map_append]) (by unfold maxLen; have := HN.out; omega) (by have := HN.out; omega) ?_
    intro A9 c9 w9 L9 hr9 h9
    obtain ⟨_, _, _, _, s36'⟩ := FA.out _ _ _ h9 (by simp)
    clear s36
    have H9 := Lib.hid h9; have HR9 := Lib.hid hr9
    have hnb : hs.length ≤ 64 := by omega
    clear h9 hr9 H7 HR7 HSRC HL3 HKZ HK0
    go_wp2_with fail
    go_loopw [3, 32] (fun o i wr => ∃ (k : Nat) (A : Option Addr) (c : Nat) (L0 : List (Nat × Obj)), i = .int .i64 k ∧ k ≤ hs.length ∧ o = .slice A (N + 32 * k) c ∧ Row 5 1 (.slice A (N + 32 * k) c) (N + 32 * k) ((mByK m hs k).map bval) L0 ∧ St W wr J5 (L0 ++ ((b1, .cells mk 29 (0, 0)) :: F))) (fun _ i _ => hs.length - (intOf i).toNat)
    case atStart => exact ⟨0, A9, c9, L9, rfl, by omega, rfl, HR9.out, H9.out⟩
    case round =>
      obtain ⟨k, A, c, L0, rfl, hk, rfl, hrow, hst⟩ := hrel
      clear H9 HR9
      by_cases hkl : k < hs.length
      · obtain ⟨x, hx⟩ : ∃ x, hs[k]? = some x := ⟨_, List.getElem?_eq_getElem hkl⟩
        obtain ⟨b0, o0, hA, hrg⟩ := HH9.out.range hst hx
        subst hA
        have hxl : x.length = 32 := HH9.out.len x (List.mem_of_getElem? hx)
        have hsu := HSU.out k x hx
        have rg := hrg _ _ hst
        have hxi : (Tryd.prog.info? 26).map (·.size) = some (x.map bval).length := by rw [List.length_map, hxl]; kernel_rfl
        have hX : (bcells x).size = 32 := by rw [bcells_size, hxl]
        have ix : (Tryd.prog.info? 26).map (·.size) = some (bcells x).size := by rw [hX]; kernel_rfl
        have fx : 0 + (bcells x).size ≤ (#[.int .u8 0, .int .u8 0, .int .u8 0, .int .u8 0, .int .u8 0, .int .u8 0, .int .u8 0, .int .u8 0, .int .u8 0, .int .u8 0, .int .u8 0, .int .u8 0, .int .u8 0, .int .u8 0, .int .u8 0, .int .u8 0, .int .u8 0, .int .u8 0, .int .u8 0, .int .u8 0, .int .u8 0, .int .u8 0, .int .u8 0, .int .u8 0, .int .u8 0, .int .u8 0, .int .u8 0, .int .u8 0, .int .u8 0, .int .u8 0, .int .u8 0, .int .u8 0] : Array Value).size := by rw [hX]; decide
        have ox := bcells_one x
        have ex : setMany #[.int .u8 0, .int .u8 0, .int .u8 0, .int .u8 0, .int .u8 0, .int .u8 0, .int .u8 0, .int .u8 0, .int .u8 0, .int .u8 0, .int .u8 0, .int .u8 0, .int .u8 0, .int .u8 0, .int .u8 0, .int .u8 0, .int .u8 0, .int .u8 0, .int .u8 0, .int .u8 0, .int .u8 0, .int .u8 0, .int .u8 0, .int .u8 0, .int .u8 0, .int .u8 0, .int .u8 0, .int .u8 0, .int .u8 0, .int .u8 0, .int .u8 0, .int .u8 0] 0 (bcells x).toList = bcells x := by rw [setMany_whole _ _ (by simp [hX]), Array.toArray_toList]
        have ki : ((k : Nat) : Int) < (hs.length : Int) := by omega
        have H1a := Lib.hid (hst.alloc (.cells #[.int .u8 0, .int .u8 0, .int .u8 0, .int .u8 0, .int .u8 0, .int .u8 0, .int .u8 0, .int .u8 0, .int .u8 0, .int .u8 0, .int .u8 0, .int .u8 0, .int .u8 0, .int .u8 0, .int .u8 0, .int .u8 0, .int .u8 0, .int .u8 0, .int .u8 0, .int .u8 0, .int .u8 0, .int .u8 0, .int .u8 0, .int .u8 0, .int .u8 0, .int .u8 0, .int .u8 0, .int .u8 0, .int .u8 0, .int .u8 0, .int .u8 0, .int .u8 0] 26))
        obtain ⟨g5, hg5⟩ : ∃ g, wr.heap.size = g := ⟨_, rfl⟩
        have hlx : (x.map bval).toArray = bcells x := rfl
        have IX := Lib.hid ix; have FX := Lib.hid fx; have OX := Lib.hid ox; have EX := Lib.hid ex; have RG := Lib.hid rg; have HXI := Lib.hid hxi; have HROW := Lib.hid hrow; have HXL := Lib.hid hxl; have HS2 := Lib.hid hsu; have HG5 := Lib.hid hg5
        clear ix fx ox ex rg hxi hrow hxl hsu hst hrg hx hX hg5
        go_wp2_with (first
          | (with_reducible refine wpList_load_mid rfl 26 (.tmp 34) rfl b0 (o0 + k * 32) rfl (x.map bval) _ RG.out Tryd.underlying26 rfl HXI.out ?_)
          | (with_reducible refine wpList_store_st rfl 26 (.tmp 5) (.tmp 35) rfl (g := wr.heap.size) (off := 0) (bcells x) rfl rfl H1a.out FX.out IX.out OX.out ?_; intro w5 h5; refine Hid.out ?_))
        refine Lib.hid ?_
        rw [EX.out] at h5
        have h6 := St.swap (A := [_]) h5
        have hsrc : Src w5 1 (some ⟨wr.heap.size, 0, none⟩) 32 (x.map bval) := by
          refine ⟨by rw [List.length_map, HXL.out], fun j u hj => ⟨_, rfl, ?_⟩⟩
          rw [show (⟨wr.heap.size, 0, none⟩ : Addr).add j = ⟨wr.heap.size, j, none⟩ by unfold Addr.add; split <;> simp_all, h5.cell (g := wr.heap.size) (cs := bcells x) (t := 26) (fr := (0, 0)) (by simp)]
          unfold bcells
          rw [List.getElem?_toArray]
          exact hj
        have H6 := Lib.hid h6; have HSRC := Lib.hid hsrc
        clear h5 h6 hsrc H1a IX FX OX EX RG HXI
        go_wp2_with (at_builtin; refine Hid.out ?_)
        refine Lib.hid ?_
        refine wpList_append_row (F := (wr.heap.size, .cells (bcells x) 26 (0, 0)) :: ((b1, .cells mk 29 (0, 0)) :: F)) rfl (.tmp 36) (.tmp 37) 22 rfl 5 (.int .u8 0) 1 1 Tryd.underlying22 (by kernel_rfl) rfl (by omega) rfl HROW.out H6.out rfl HSRC.out (by intro u hu; obtain ⟨b, _, rfl⟩ := List.mem_map.1 hu; rfl) (N + 32 * (k + 1)) (by omega) ((mByK m hs (k + 1)).map bval) (by rw [HS2.out, List.map_append]) (by unfold maxLen; have := HN.out; omega) (by have := HN.out; omega) ?_
        intro A10 c10 w10 L10 hr10 h10
        have h11 := St.mid (A := L10) (B := [_]) h10
        have H11 := Lib.hid h11; have HR10 := Lib.hid hr10
        clear h10 h11 hr10 H6 HSRC HROW
        go_wp2_with fail
        refine ⟨⟨k + 1, A10, c10, L10, by go_num, by omega, rfl, HR10.out, H11.out⟩, ?_⟩
        simp [intOf]; omega
      · obtain rfl : k = hs.length := by omega
        have hl := HLK.out hs.length (Nat.le_refl _)
        rw [HKE.out] at hl hrow
        have HROW := Lib.hid hrow; have HST := Lib.hid hst; have HL := Lib.hid hl
        clear hrow hst hl
        go_wp2_with fail
        go_ret
        refine ⟨fun h => absurd (HR.out.symm.trans h) (by simp), fun _ => ?_⟩
        exact ⟨.slice A (N + 32 * hs.length) c, rfl, A, c, L0, by rw [HL.out], by rw [HL.out]; exact HROW.out, (St.mid (A := L0) (B := [_]) HST.out).less HLE9.out⟩
end
end

section
set_option linter.unusedVariables false
set_option linter.unusedSimpArgs false
open Go.RowKit Go.Lib

/-- copy into a block of ours, AS ONE STEP of a region that draws its order. -/
theorem step_copy_st {P : Program} {W w : World} {I : Nat → Option Obj} {F : List (Nat × Obj)} {ops : Array Oper} {o : Oper} {a : Act} {K : Act → World → Prop} {Q : Exit → Act → World → Prop} {E : Prop} (hgd : o.guard = none) (d s : Operand) (dT sT : TypeId)
    (ho : o.op = .call { callee := .builtin .copy, args := #[d, s], argTypes := #[dT, sT] }) (elem : TypeId) (hu : P.underlying dT = some (.slice elem)) (hsz : (P.info? elem).map (·.size) = some 1)
    {g off dLen dCap n sCap : Nat} {sp : Option Addr} (hd : a.eval d = .slice (some ⟨g, off, none⟩) dLen dCap) (hs : a.eval s = .slice sp n sCap) {cur : Array Value} {t : TypeId}
    (hst : St W w I ((g, .cells cur t (0, 0)) :: F)) (cs : List Value) (hsrc : Src w 1 sp n cs) (hfit : off + min n dLen ≤ cur.size) (h1 : ∀ v ∈ cs, v.oneCell' = true) (k : Nat) (hk : k = min n dLen)
    (R : Array Value) (hR : R = (cur.toList.take off ++ (cs.take k ++ cur.toList.drop (off + k))).toArray)
    (h : ∀ w', St W w' I ((g, .cells R t (0, 0)) :: F) → K (a.put o.dst (.int .i64 (k : Int))) w') :
    if Region.wanted o (yielded ops a.tmps) = true then Oper.wp P o a w K Q else E := by
  have hw : Region.wanted o (yielded ops a.tmps) = true := by simp [Region.wanted, hgd]
  rw [if_pos hw]
  subst hk
  subst hR
  have hl : cs.length = n := by have := hsrc.1; omega
  have htl : (cs.take (min n dLen)).length = min n dLen := by rw [List.length_take]; omega
  by_cases h0 : min n dLen = 0
  · have hrun := run_copy_none (P := P) w dT sT o.type elem (some ⟨g, off, none⟩) sp dLen dCap n sCap hu (by rw [hsz]) h0
    have h2 := h w (by rw [h0, List.take_zero, List.nil_append, Nat.add_zero, List.take_append_drop]; exact hst)
    unfold Oper.wp
    simp [execOp, ho, resolve, invoke, builtin, hd, hs, hrun, Result.andThen]
    rw [h0] at h2
    exact h2
  · obtain ⟨ad, rfl, _⟩ := hsrc.2 0 _ (List.getElem?_eq_getElem (by omega))
    have hrun := run_copy_row (P := P) w dT sT o.type elem g off dLen dCap ad n sCap cur t (cs.take (min n dLen)) hu hsz (hst.own (g, .cells cur t (0, 0)) (by simp)) htl (fun j v hj => by
      rw [List.getElem?_take] at hj
      split at hj
      · obtain ⟨ad', e1, h2⟩ := hsrc.2 j v hj
        injection e1 with e1
        rw [e1]
        exact h2
      · cases hj) (by rw [htl]; exact hfit) (fun v hv => h1 v (List.mem_of_mem_take hv))
    rw [htl] at hrun
    have h2 := h _ (St.setRow hst _)
    unfold Oper.wp
    simp [execOp, ho, resolve, invoke, builtin, hd, hs, hrun, Result.andThen]
    exact h2

section
variable {W w : World} {I : Nat → Option Obj} {F : List (Nat × Obj)} {g : Nat} {s : Rs}
theorem pad_cells (bs : List UInt8) (h : bs.length ≤ 32) : bcells (pad32 bs) = ((#[.int .u8 0, .int .u8 0, .int .u8 0, .int .u8 0, .int .u8 0, .int .u8 0, .int .u8 0, .int .u8 0, .int .u8 0, .int .u8 0, .int .u8 0, .int .u8 0, .int .u8 0, .int .u8 0, .int .u8 0, .int .u8 0, .int .u8 0, .int .u8 0, .int .u8 0, .int .u8 0, .int .u8 0, .int .u8 0, .int .u8 0, .int .u8 0, .int .u8 0, .int .u8 0, .int .u8 0, .int .u8 0, .int .u8 0, .int .u8 0, .int .u8 0, .int .u8 0] : Array Value).toList.take 0 ++ ((bs.map bval).take bs.length ++ (#[.int .u8 0, .int .u8 0, .int .u8 0, .int .u8 0, .int .u8 0, .int .u8 0, .int .u8 0, .int .u8 0, .int .u8 0, .int .u8 0, .int .u8 0, .int .u8 0, .int .u8 0, .int .u8 0, .int .u8 0, .int .u8 0, .int .u8 0, .int .u8 0, .int .u8 0, .int .u8 0, .int .u8 0, .int .u8 0, .int .u8 0, .int .u8 0, .int .u8 0, .int .u8 0, .int .u8 0, .int .u8 0, .int .u8 0, .int .u8 0, .int .u8 0, .int .u8 0] : Array Value).toList.drop (0 + bs.length))).toArray := by
  rw [show (#[.int .u8 0, .int .u8 0, .int .u8 0, .int .u8 0, .int .u8 0, .int .u8 0, .int .u8 0, .int .u8 0, .int .u8 0, .int .u8 0, .int .u8 0, .int .u8 0, .int .u8 0, .int .u8 0, .int .u8 0, .int .u8 0, .int .u8 0, .int .u8 0, .int .u8 0, .int .u8 0, .int .u8 0, .int .u8 0, .int .u8 0, .int .u8 0, .int .u8 0, .int .u8 0, .int .u8 0, .int .u8 0, .int .u8 0, .int .u8 0, .int .u8 0, .int .u8 0] : Array Value).toList = List.replicate 32 (Value.int .u8 0) from rfl, List.take_zero, List.nil_append, Nat.zero_add, List.drop_replicate, List.take_of_length_le (by simp)]
  unfold bcells pad32
  rw [List.map_append, List.map_replicate]
  rfl

set_option maxRecDepth 100000 in
set_option maxHeartbeats 2000000 in
theorem mhash (h : RSt W w I g s F) :
    Calls Tryd.prog 33 #[.pointer (some ⟨g, 0, none⟩)] w fun e w' => e = .returned (.agg (bcells (pad32 (tk 32 s).1))) ∧ RSt W w' I g (tk 32 s).2 F := by
  have hlen := tk_len 32 s
  have hp32 := pad32_len hlen
  obtain ⟨A, n, c, x, hr, hst⟩ := h
  obtain ⟨b2, hb2⟩ : ∃ b, w.heap.size = b := ⟨_, rfl⟩
  have h1 := (hst.alloc (.cells #[.int .u8 0, .int .u8 0, .int .u8 0, .int .u8 0, .int .u8 0, .int .u8 0, .int .u8 0, .int .u8 0, .int .u8 0, .int .u8 0, .int .u8 0, .int .u8 0, .int .u8 0, .int .u8 0, .int .u8 0, .int .u8 0, .int .u8 0, .int .u8 0, .int .u8 0, .int .u8 0, .int .u8 0, .int .u8 0, .int .u8 0, .int .u8 0, .int .u8 0, .int .u8 0, .int .u8 0, .int .u8 0, .int .u8 0, .int .u8 0, .int .u8 0, .int .u8 0] 26)).alloc (.cells #[.int .u8 0, .int .u8 0, .int .u8 0, .int .u8 0, .int .u8 0, .int .u8 0, .int .u8 0, .int .u8 0, .int .u8 0, .int .u8 0, .int .u8 0, .int .u8 0, .int .u8 0, .int .u8 0, .int .u8 0, .int .u8 0, .int .u8 0, .int .u8 0, .int .u8 0, .int .u8 0, .int .u8 0, .int .u8 0, .int .u8 0, .int .u8 0, .int .u8 0, .int .u8 0, .int .u8 0, .int .u8 0, .int .u8 0, .int .u8 0, .int .u8 0, .int .u8 0] 26)
  rw [World.size_alloc, hb2] at h1
  have h2 := St.swap (A := [_, _]) (B := [_]) h1
  have kR : ∀ v, St W v I ((g, .cells #[.slice A n c, .int .i64 x] 88 (0, 0)) :: ([(b2 + 1, .cells #[.int .u8 0, .int .u8 0, .int .u8 0, .int .u8 0, .int .u8 0, .int .u8 0, .int .u8 0, .int .u8 0, .int .u8 0, .int .u8 0, .int .u8 0, .int .u8 0, .int .u8 0, .int .u8 0, .int .u8 0, .int .u8 0, .int .u8 0, .int .u8 0, .int .u8 0, .int .u8 0, .int .u8 0, .int .u8 0, .int .u8 0, .int .u8 0, .int .u8 0, .int .u8 0, .int .u8 0, .int .u8 0, .int .u8 0, .int .u8 0, .int .u8 0, .int .u8 0] 26 (0, 0)), (b2, .cells #[.int .u8 0, .int .u8 0, .int .u8 0, .int .u8 0, .int .u8 0, .int .u8 0, .int .u8 0, .int .u8 0, .int .u8 0, .int .u8 0, .int .u8 0, .int .u8 0, .int .u8 0, .int .u8 0, .int .u8 0, .int .u8 0, .int .u8 0, .int .u8 0, .int .u8 0, .int .u8 0, .int .u8 0, .int .u8 0, .int .u8 0, .int .u8 0, .int .u8 0, .int .u8 0, .int .u8 0, .int .u8 0, .int .u8 0, .int .u8 0, .int .u8 0, .int .u8 0] 26 (0, 0))] ++ F)) → Calls Tryd.prog 62 #[.pointer (some ⟨g, 0, none⟩), .int .i64 32] v (RawPost W I g (tk 32 s).1 (tk 32 s).2 ([(b2 + 1, .cells #[.int .u8 0, .int .u8 0, .int .u8 0, .int .u8 0, .int .u8 0, .int .u8 0, .int .u8 0, .int .u8 0, .int .u8 0, .int .u8 0, .int .u8 0, .int .u8 0, .int .u8 0, .int .u8 0, .int .u8 0, .int .u8 0, .int .u8 0, .int .u8 0, .int .u8 0, .int .u8 0, .int .u8 0, .int .u8 0, .int .u8 0, .int .u8 0, .int .u8 0, .int .u8 0, .int .u8 0, .int .u8 0, .int .u8 0, .int .u8 0, .int .u8 0, .int .u8 0] 26 (0, 0)), (b2, .cells #[.int .u8 0, .int .u8 0, .int .u8 0, .int .u8 0, .int .u8 0, .int .u8 0, .int .u8 0, .int .u8 0, .int .u8 0, .int .u8 0, .int .u8 0, .int .u8 0, .int .u8 0, .int .u8 0, .int .u8 0, .int .u8 0, .int .u8 0, .int .u8 0, .int .u8 0, .int .u8 0, .int .u8 0, .int .u8 0, .int .u8 0, .int .u8 0, .int .u8 0, .int .u8 0, .int .u8 0, .int .u8 0, .int .u8 0, .int .u8 0, .int .u8 0, .int .u8 0] 26 (0, 0))] ++ F)) := fun v h => code_raw ⟨_, _, _, _, hr, h⟩ 32 (by omega)
  have hpc := pad_cells (tk 32 s).1 hlen
  obtain ⟨bs, hbs⟩ : ∃ bs, (tk 32 s).1 = bs := ⟨_, rfl⟩
  obtain ⟨s', hs'⟩ : ∃ s', (tk 32 s).2 = s' := ⟨_, rfl⟩
  rw [hbs] at hlen hp32 kR hpc ⊢
  rw [hs'] at kR ⊢
  obtain ⟨R, hR⟩ : ∃ R, bcells (pad32 bs) = R := ⟨_, rfl⟩
  have hRs : R.size = 32 := by rw [← hR, bcells_size, hp32]
  have hRo : R.all (·.oneCell') = true := by rw [← hR]; exact bcells_one _
  have hone : ∀ u ∈ bs.map bval, u.oneCell' = true := by intro u hu; obtain ⟨b, _, rfl⟩ := List.mem_map.1 hu; rfl
  rw [hR] at hpc ⊢
  have hk : bs.length = min bs.length 32 := by omega
  have hRi : (Tryd.prog.info? 26).map (·.size) = some R.size := by rw [hRs]; kernel_rfl
  have hRf : 0 + R.size ≤ (#[.int .u8 0, .int .u8 0, .int .u8 0, .int .u8 0, .int .u8 0, .int .u8 0, .int .u8 0, .int .u8 0, .int .u8 0, .int .u8 0, .int .u8 0, .int .u8 0, .int .u8 0, .int .u8 0, .int .u8 0, .int .u8 0, .int .u8 0, .int .u8 0, .int .u8 0, .int .u8 0, .int .u8 0, .int .u8 0, .int .u8 0, .int .u8 0, .int .u8 0, .int .u8 0, .int .u8 0, .int .u8 0, .int .u8 0, .int .u8 0, .int .u8 0, .int .u8 0] : Array Value).size := by rw [hRs]; decide
  have hRe : setMany #[.int .u8 0, .int .u8 0, .int .u8 0, .int .u8 0, .int .u8 0, .int .u8 0, .int .u8 0, .int .u8 0, .int .u8 0, .int .u8 0, .int .u8 0, .int .u8 0, .int .u8 0, .int .u8 0, .int .u8 0, .int .u8 0, .int .u8 0, .int .u8 0, .int .u8 0, .int .u8 0, .int .u8 0, .int .u8 0, .int .u8 0, .int .u8 0, .int .u8 0, .int .u8 0, .int .u8 0, .int .u8 0, .int .u8 0, .int .u8 0, .int .u8 0, .int .u8 0] 0 R.toList = R := by rw [setMany_whole _ _ (by simp [hRs]), Array.toArray_toList]
  have H2 := Lib.hid h2; have KR := Lib.hid kR; have HPC := Lib.hid hpc; have HK := Lib.hid hk; have HRI := Lib.hid hRi; have HRF := Lib.hid hRf; have HRE := Lib.hid hRe; have HRO := Lib.hid hRo; have HONE := Lib.hid hone; have HRS := Lib.hid hRs; have HB2 := Lib.hid hb2
  clear h1 h2 kR hpc hk hRi hRf hRe hRo hone hRs hr hst hlen hp32 hbs hs' hR hb2
  go_enter Tryd.func33, Tryd.ntmps33
  go_wp2_with fail
  rw [HB2.out]
  generalize (w.alloc (.cells #[.int .u8 0, .int .u8 0, .int .u8 0, .int .u8 0, .int .u8 0, .int .u8 0, .int .u8 0, .int .u8 0, .int .u8 0, .int .u8 0, .int .u8 0, .int .u8 0, .int .u8 0, .int .u8 0, .int .u8 0, .int .u8 0, .int .u8 0, .int .u8 0, .int .u8 0, .int .u8 0, .int .u8 0, .int .u8 0, .int .u8 0, .int .u8 0, .int .u8 0, .int .u8 0, .int .u8 0, .int .u8 0, .int .u8 0, .int .u8 0, .int .u8 0, .int .u8 0] 26)).alloc (.cells #[.int .u8 0, .int .u8 0, .int .u8 0, .int .u8 0, .int .u8 0, .int .u8 0, .int .u8 0, .int .u8 0, .int .u8 0, .int .u8 0, .int .u8 0, .int .u8 0, .int .u8 0, .int .u8 0, .int .u8 0, .int .u8 0, .int .u8 0, .int .u8 0, .int .u8 0, .int .u8 0, .int .u8 0, .int .u8 0, .int .u8 0, .int .u8 0, .int .u8 0, .int .u8 0, .int .u8 0, .int .u8 0, .int .u8 0, .int .u8 0, .int .u8 0, .int .u8 0] 26) = w2 at *
  clear HB2
  go_region_law (first
    | (go_simp; go_at_call 62; refine (KR.out _ (by first | exact H2.out.drew1 | exact H2.out.drew _ | exact H2.out)).mono ?_; rintro e w5 ⟨A5, c5, L5, rfl, hr5, A6, n6, c6, x6, hrd, h5⟩; dsimp only)
    | (refine step_copy_st (F := ((g, .cells #[.slice A6 n6 c6, .int .i64 x6] 88 (0, 0)) :: L5) ++ ([(b2, .cells #[.int .u8 0, .int .u8 0, .int .u8 0, .int .u8 0, .int .u8 0, .int .u8 0, .int .u8 0, .int .u8 0, .int .u8 0, .int .u8 0, .int .u8 0, .int .u8 0, .int .u8 0, .int .u8 0, .int .u8 0, .int .u8 0, .int .u8 0, .int .u8 0, .int .u8 0, .int .u8 0, .int .u8 0, .int .u8 0, .int .u8 0, .int .u8 0, .int .u8 0, .int .u8 0, .int .u8 0, .int .u8 0, .int .u8 0, .int .u8 0, .int .u8 0, .int .u8 0] 26 (0, 0))] ++ F)) rfl (.tmp 4) (.tmp 6) 22 22 rfl 5 Tryd.underlying22 (by kernel_rfl) (g := b2 + 1) (off := 0) rfl rfl (St.swap (A := (g, _) :: L5) (B := [(b2 + 1, _)]) h5) _ (hr5.src (fun p hp => h5.own p (by simp [hp]))) (by have := HK.out; simp; omega) HONE.out bs.length HK.out R HPC.out ?_; intro w6 h6))
  all_goals
    have h7 := St.swap (A := (b2 + 1, _) :: (g, _) :: L5) (B := [(b2, _)]) h6
    have H6 := Lib.hid h6; have H7 := Lib.hid h7; have HRD := Lib.hid hrd
    clear h5 h6 h7 hr5 hrd H2 KR HPC HK HONE
    go_wp2_with (first
      | (with_reducible refine wpList_load_st rfl 26 (.tmp 3) rfl (g := b2 + 1) (off := 0) rfl H6.out (List.mem_cons_self ..) R (fun j hj => by rw [Nat.zero_add]) _ Tryd.underlying26 rfl HRI.out ?_)
      | (with_reducible refine wpList_store_st rfl 26 (.tmp 2) (.tmp 8) rfl (g := b2) (off := 0) R rfl rfl H7.out HRF.out HRI.out HRO.out ?_; intro w7 h8; refine Hid.out ?_))
    refine Lib.hid ?_
    rw [HRE.out] at h8
    have H8 := Lib.hid h8
    clear h8 H6 H7
    go_wp2_with fail
    refine bodyPost_ret (results_row rfl _ _ b2 26 R (0, 0) _ rfl (H8.out.own (b2, _) (List.mem_cons_self ..)) Tryd.underlying26 rfl HRI.out) rfl ?_
    refine ⟨rfl, A6, n6, c6, x6, HRD.out, ?_⟩
    exact St.mid (A := [_]) (B := L5) (St.weaken (A := [_, _]) H8.out)
end
end
end Go.Proofs.YtfbffmckmchbbaaDoor
