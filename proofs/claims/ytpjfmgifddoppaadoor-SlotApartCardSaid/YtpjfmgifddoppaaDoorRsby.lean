/- The document's slot: Bytes: walk. -/
import Derived.Test.YtpjfmgifddoppaaDoorRcA
import Derived.Test.YtpjfmgifddoppaaDoorSby
namespace Go.Proofs.YtpjfmgifddoppaaDoor
set_option linter.unusedVariables false
set_option linter.unusedSimpArgs false
open Go.RowKit Go.Lib

theorem Src.two (w : World) (x y : Value) (t : TypeId) : Src (w.alloc (.cells #[x, y] t)) 1 (some ⟨w.heap.size, 0, none⟩) 2 [x, y] := by
  refine ⟨rfl, fun j u hj => ⟨_, rfl, ?_⟩⟩
  rw [show (⟨w.heap.size, 0, none⟩ : Addr).add j = ⟨w.heap.size, j, none⟩ by unfold Addr.add; split <;> simp_all, cell_of_row _ w.heap.size j #[x, y] t (0, 0) (heap_alloc_new w _)]
  simpa using hj
section
variable {W w : World} {I : Nat → Option Obj} {F : List (Nat × Obj)}
set_option maxRecDepth 100000 in
set_option maxHeartbeats 4000000 in
theorem ref_bytes (s : Slt) (ok : s.Ok) (h : St W w I F) :
    Calls Tryd.prog 31 #[s.val] w fun e w' => ∃ v, e = .returned v ∧ FreshB W w' I F (sByR s) v := by
  have h1 := h.alloc (.cells s.cells 26)
  have h2 := h1.alloc (.cells #[] 5)
  rw [show (w.alloc (.cells s.cells 26)).heap.size = w.heap.size + 1 by simp [World.size_alloc]] at h2
  have cR := fun (v : World) (F : List (Nat × Obj)) (hv : St W v I F) => ref_right s ok hv
  have hmi := slot_info (s := s) ok.dig
  obtain ⟨R, hR⟩ : ∃ R, rightS s = R := ⟨_, rfl⟩
  rw [hR] at cR
  have facts : ∀ (b1 : Nat) (v : World) (J : Nat → Option Obj) (L : List (Nat × Obj)), St W v J L → (b1, Obj.cells s.cells 26 (0, 0)) ∈ L → v.cell? ⟨b1, 0, none⟩ = some (.int .i64 s.st) ∧ v.cell? ⟨b1, 1, none⟩ = some (.int .i64 s.tr) ∧ v.cell? ⟨b1, 2, none⟩ = some (.int .u64 s.ver) ∧ v.cell? ⟨b1, 3, none⟩ = some (.int .i64 s.sz) := fun b1 v J L hv hm => hv.slf hm
  have hX := sByR.eq_1 s
  have hat := s.at4
  have hdl := ok.dig
  obtain ⟨X, hXX⟩ : ∃ X, sByR s = X := ⟨_, rfl⟩
  rw [hXX] at hX ⊢
  rw [hR] at hX
  unfold Slt.val at cR ⊢
  obtain ⟨mk, hmk⟩ : ∃ mk, s.cells = mk := ⟨_, rfl⟩
  rw [hmk] at h2 cR hmi facts hat ⊢
  have H2 := Lib.hid h2; have CR := Lib.hid cR; have HMI := Lib.hid hmi; have HR := Lib.hid hR; have FACTS := Lib.hid facts; have HX := Lib.hid hX; have HAT := Lib.hid hat; have HDL := Lib.hid hdl
  clear h h1 h2 cR hmi hmk hR facts ok hX hXX hat hdl
  go_enter Tryd.func31, Tryd.ntmps31
  go_wp2_with (with_reducible refine wpList_load_st rfl 26 (.tmp 1) rfl (g := w.heap.size) (off := 0) rfl H2.out (cs := mk) (t := 26) (fr := (0, 0)) (by simp) mk (fun j hj => by rw [Nat.zero_add]) _ Tryd.underlying26 rfl HMI.out ?_)
  refine (CR.out _ _ H2.out).mono ?_
  rintro e w1 ⟨rfl, h3⟩
  have H3 := Lib.hid h3
  clear H2 CR h3
  obtain ⟨ge, hge⟩ : ∃ g, w.heap.size + 1 = g := ⟨_, rfl⟩
  rw [hge] at H3 ⊢
  clear hge
  generalize w.heap.size = b1 at *
  cases R with
  | false =>
    have hX := HX.out
    rw [if_neg (by decide)] at hX
    subst hX
    go_wp2_with fail
    go_ret
    exact ⟨_, rfl, some ⟨ge, 0, none⟩, 0, [(ge, .cells #[] 5 (0, 0))], rfl, Row.empty _ _ _, St.mid (A := [_]) (B := [_]) H3.out⟩
  | true =>
    obtain ⟨r1, r2, r3, r4, r5, r6, r7, r8⟩ := right_small s HR.out
    obtain ⟨st, hst⟩ : ∃ n : Nat, s.st = (n : Int) := ⟨s.st.toNat, by omega⟩
    obtain ⟨tr, htr⟩ : ∃ n : Nat, s.tr = (n : Int) := ⟨s.tr.toNat, by omega⟩
    obtain ⟨ver, hver⟩ : ∃ n : Nat, s.ver = (n : Int) := ⟨s.ver.toNat, by omega⟩
    obtain ⟨sz, hsz⟩ : ∃ n : Nat, s.sz = (n : Int) := ⟨s.sz.toNat, by omega⟩
    have hB2 : (sBy2 s).map bval = [.int .u8 (st : Int), .int .u8 (tr : Int)] := by
      unfold sBy2 sBy1
      rw [hst, htr, Int.toNat_natCast, Int.toNat_natCast]
      simp only [leB, List.map_append, List.map_cons, List.map_nil]
      rw [bval_ofNat _ (by omega), bval_ofNat _ (by omega), Nat.mod_eq_of_lt (by omega), Nat.mod_eq_of_lt (by omega)]
      rfl
    have hB3 : sBy3 s = sBy2 s ++ leB ver 8 := by unfold sBy3; rw [hver, Int.toNat_natCast]
    have hB4 : sBy4 s = sBy3 s ++ leB sz 4 := by unfold sBy4; rw [hsz, Int.toNat_natCast]
    have hX := HX.out
    rw [if_pos rfl] at hX
    have hB5 : X = sBy4 s ++ s.dig := hX
    obtain ⟨l1, l2, l3, l4⟩ := sBy_lens s
    have facts := FACTS.out b1
    rw [hst, htr, hver, hsz] at facts
    rw [hst] at r1 r2
    rw [htr] at r3 r4
    rw [hver] at r5 r6
    rw [hsz] at r7 r8
    obtain ⟨B2, hB2'⟩ : ∃ x, sBy2 s = x := ⟨_, rfl⟩
    obtain ⟨B3, hB3'⟩ : ∃ x, sBy3 s = x := ⟨_, rfl⟩
    obtain ⟨B4, hB4'⟩ : ∃ x, sBy4 s = x := ⟨_, rfl⟩
    rw [hB2'] at hB2 hB3 l2
    rw [hB3'] at hB3 hB4 l3
    rw [hB4'] at hB4 hB5 l4
    clear hX hB2' hB3' hB4' l1
    have FA := Lib.hid facts
    have wu : IntKind.u64.wrap (sz : Int) = (sz : Int) := IntWalk.u64_in _ (by omega)
    have kV := fun (v : World) (F : List (Nat × Obj)) (hv : St W v I F) => rfixed ver 8 (by omega) (by omega) hv
    have kZ := fun (v : World) (F : List (Nat × Obj)) (hv : St W v I F) => rfixed sz 4 (by omega) (by omega) hv
    have lv := leB_len 8 ver
    have lz := leB_len 4 sz
    generalize leB ver 8 = bv at *
    generalize leB sz 4 = bz at *
    obtain ⟨s0, s1, s2, s3⟩ := facts _ _ _ H3.out (by simp)
    have KV := Lib.hid kV; have KZ := Lib.hid kZ
    have HB2 := Lib.hid hB2; have HB3 := Lib.hid hB3; have HB4 := Lib.hid hB4; have HB5 := Lib.hid hB5; have L2 := Lib.hid l2; have L3 := Lib.hid l3; have L4 := Lib.hid l4; have LV := Lib.hid lv; have LZ := Lib.hid lz; have WU := Lib.hid wu
    clear facts kV kZ FACTS hB2 hB3 hB4 hB5 l2 l3 l4 HX HR hst htr hver hsz lv lz
    go_wp2_with (at_builtin; refine Hid.out ?_)
    refine Lib.hid ?_
    refine wpList_append_row (F := ((b1, .cells mk 26 (0, 0)) :: F)) rfl (.tmp 9) (.tmp 16) 40 rfl 5 (.int .u8 0) 1 1 Tryd.underlying40 (by kernel_rfl) rfl (by omega) rfl (Row.empty 5 1 ge) (St.alloc_ H3.out _) rfl (Src.two w1 (.int .u8 (st : Int)) (.int .u8 (tr : Int)) 5) (by intro u hu; simp at hu; rcases hu with rfl | rfl <;> rfl) 2 (by omega) (B2.map bval) (by rw [HB2.out]; rfl) (by unfold maxLen; omega) (by omega) ?_
    intro A5 c5 w5 L5 hr5 h5
    obtain ⟨_, _, s2', s3'⟩ := FA.out _ _ _ h5 (by simp)
    have H5 := Lib.hid h5; have HR5 := Lib.hid hr5
    clear h5 hr5 H3 s0 s1 s2 s3
    go_wp2_with fail
    refine (KV.out _ _ H5.out).mono ?_
    rintro e w6 ⟨v6, rfl, A6, c6, L6, rfl, hr6, h6⟩
    obtain ⟨J6, hle6, hin6, h7⟩ := part_freeze hr6 h6
    obtain ⟨_, _, _, s3⟩ := FA.out _ _ _ h7 (by simp)
    have hsrc := hin6 _ _ h7
    have H7 := Lib.hid h7; have HS7 := Lib.hid hsrc; have HLE6 := Lib.hid hle6
    clear h7 hr6 h6 hin6 hle6 H5 KV hsrc s2' s3'
    rw [LV.out] at HS7 ⊢
    go_wp2_with (at_builtin; refine Hid.out ?_)
    refine Lib.hid ?_
    refine wpList_append_row (F := ((b1, .cells mk 26 (0, 0)) :: F)) rfl (.tmp 18) (.tmp 21) 40 rfl 5 (.int .u8 0) 1 1 Tryd.underlying40 (by kernel_rfl) rfl (by omega) rfl HR5.out H7.out rfl HS7.out (by intro u hu; obtain ⟨b, _, rfl⟩ := List.mem_map.1 hu; rfl) 10 (by omega) (B3.map bval) (by rw [HB3.out, List.map_append]) (by unfold maxLen; omega) (by omega) ?_
    intro A8 c8 w8 L8 hr8 h8
    obtain ⟨_, _, _, s3'⟩ := FA.out _ _ _ h8 (by simp)
    have H8 := Lib.hid (h8.less HLE6.out); have HR8 := Lib.hid hr8
    clear h8 hr8 H7 HS7 HR5 s3 HLE6
    go_wp2_with fail
    refine (KZ.out _ _ H8.out).mono ?_
    rintro e w9 ⟨v9, rfl, A9, c9, L9, rfl, hr9, h9⟩
    obtain ⟨J9, hle9, hin9, h10⟩ := part_freeze hr9 h9
    have hsrc := hin9 _ _ h10
    have H10 := Lib.hid h10; have HS10 := Lib.hid hsrc; have HLE9 := Lib.hid hle9
    clear h10 hr9 h9 hin9 hle9 H8 KZ hsrc s3'
    rw [LZ.out] at HS10 ⊢
    go_wp2_with (at_builtin; refine Hid.out ?_)
    refine Lib.hid ?_
    refine wpList_append_row (F := ((b1, .cells mk 26 (0, 0)) :: F)) rfl (.tmp 23) (.tmp 27) 40 rfl 5 (.int .u8 0) 1 1 Tryd.underlying40 (by kernel_rfl) rfl (by omega) rfl HR8.out H10.out rfl HS10.out (by intro u hu; obtain ⟨b, _, rfl⟩ := List.mem_map.1 hu; rfl) 14 (by omega) (B4.map bval) (by rw [HB4.out, List.map_append]) (by unfold maxLen; omega) (by omega) ?_
    intro A11 c11 w11 L11 hr11 h11
    have h12 := h11.less HLE9.out
    have hsrc : Src w11 1 (some ⟨b1, 4, none⟩) 32 (s.dig.map bval) := by
      refine ⟨by rw [List.length_map, HDL.out], fun j u hj => ⟨_, rfl, ?_⟩⟩
      rw [show (⟨b1, 4, none⟩ : Addr).add j = ⟨b1, 4 + j, none⟩ by unfold Addr.add; split <;> simp_all, h12.cell (g := b1) (cs := mk) (t := 26) (fr := (0, 0)) (by simp), HAT.out]
      exact hj
    have H12 := Lib.hid h12; have HS12 := Lib.hid hsrc; have HR11 := Lib.hid hr11
    clear h11 h12 hsrc hr11 H10 HS10 HLE9 HR8
    go_wp2_with (at_builtin; refine Hid.out ?_)
    refine Lib.hid ?_
    refine wpList_append_row (F := ((b1, .cells mk 26 (0, 0)) :: F)) rfl (.tmp 29) (.tmp 31) 40 rfl 5 (.int .u8 0) 1 1 Tryd.underlying40 (by kernel_rfl) rfl (by omega) rfl HR11.out H12.out rfl HS12.out (by intro u hu; obtain ⟨b, _, rfl⟩ := List.mem_map.1 hu; rfl) 46 (by omega) (X.map bval) (by rw [HB5.out, List.map_append]) (by unfold maxLen; omega) (by omega) ?_
    intro A13 c13 w13 L13 hr13 h13
    have H13 := Lib.hid (St.mid (A := L13) (B := [_]) h13); have HR13 := Lib.hid hr13
    have hl : X.length = 46 := by rw [HB5.out, List.length_append, L4.out, HDL.out]
    have HL := Lib.hid hl
    clear h13 hr13 H12 HS12 HR11 hl
    go_wp2_with fail
    go_ret
    exact ⟨_, rfl, A13, c13, L13, by rw [HL.out]; rfl, by rw [HL.out]; exact HR13.out, H13.out⟩
end
end Go.Proofs.YtpjfmgifddoppaaDoor
