/- slices.Concat, code.Raw: walks. -/
import Derived.Test.YtpjfmgifddoppaaDoorFrz
import Derived.Test.YtpjfmgifddoppaaDoorZeros
namespace Go.Proofs.YtpjfmgifddoppaaDoor
set_option linter.unusedVariables false
set_option linter.unusedSimpArgs false
open Go.RowKit Go.Lib

/-- None of a row's elements are taken; its room stays. -/
theorem Row.none {E : TypeId} {size : Nat} {A : Option Addr} {n c : Nat} {xs : List Value} {L : List (Nat × Obj)} (h : Row E size (.slice A n c) n xs L) : Row E size (.slice A 0 c) 0 [] L := by
  obtain ⟨hl, ⟨hv, hn, hL⟩ | ⟨g, off, cap, cur, hv, hL, hnc, hcm, hfit, hx⟩⟩ := h
  · injection hv with h1 h2 h3
    subst h1; subst h3; subst hL
    exact Row.nil _ _
  · injection hv with h1 h2 h3
    subst h1; subst h3
    exact ⟨by simp, .inr ⟨g, off, _, cur, rfl, hL, by omega, hcm, hfit, by simp⟩⟩

/-- Room, and nothing in it. -/
def GrowPost (W : World) (I : Nat → Option Obj) (F : List (Nat × Obj)) (e : Ending) (w' : World) : Prop :=
  ∃ A c L', e = .returned (.slice A 0 c) ∧ Row 5 1 (.slice A 0 c) 0 [] L' ∧ St W w' I (L' ++ F)
section
variable {W w : World} {I : Nat → Option Obj} {F : List (Nat × Obj)}
set_option maxRecDepth 100000 in
set_option maxHeartbeats 1000000 in
theorem grow_any (n : Nat) (hn : n ≤ 1000000) (h : St W w I F) :
    Calls Tryd.prog 114 #[.slice none 0 0, .int .i64 n] w (GrowPost W I F) := by
  have hn0 : ¬ ((n : Int) < 0) := by omega
  have sl1 := fun w => run_slice_to Tryd.underlying40 Tryd.sizeOf5 none 0 0 0 (by omega) w
  have H := Lib.hid h
  clear h
  by_cases hz : n = 0
  · subst hz
    go_enter Tryd.func114, Tryd.ntmps114
    go_wp2_with fail
    go_ret
    exact ⟨none, 0, [], rfl, Row.nil _ _, H.out⟩
  · have hp : (0 : Int) < (n : Int) := by omega
    go_enter Tryd.func114, Tryd.ntmps114
    go_wp2_with (at_builtin; refine Hid.out ?_)
    refine Lib.hid ?_
    refine wpList_append_zeros (F := F) rfl (.tmp 20) (.tmp 21) 40 3 rfl 5 (.int .u8 0) 1 Tryd.underlying40 Tryd.underlying3 (by kernel_rfl) (by kernel_rfl) (by kernel_rfl) rfl (Row.nil _ _) (by exact H.out) n rfl n (by omega) (List.replicate n (.int .u8 0)) (by simp) (by unfold maxLen; omega) (by omega) ?_
    intro A1 c1 w1 L1 hr1 h1
    have H1 := Lib.hid h1; have HR1 := Lib.hid hr1.none
    have sl2 := fun w => run_slice_to Tryd.underlying40 Tryd.sizeOf5 A1 n c1 0 (by omega) w
    clear h1 hr1 H
    go_wp2_with fail
    go_ret
    exact ⟨A1, c1, L1, rfl, HR1.out, H1.out⟩

set_option maxRecDepth 100000 in
set_option maxHeartbeats 2000000 in
theorem concat_any (ps : List Part) (hin : ∀ p ∈ ps, p.In W I) (hl : (cat ps).length ≤ 1000000) (hn : ps.length ≤ 1000) (gb : Nat) (h : St W w I ((gb, .cells (ps.map Part.val).toArray 40 (0, 0)) :: F)) :
    Calls Tryd.prog 95 #[.slice (some ⟨gb, 0, none⟩) ps.length ps.length] w fun e w' => ∃ v, e = .returned v ∧ FreshB W w' I ((gb, .cells (ps.map Part.val).toArray 40 (0, 0)) :: F) (cat ps) v := by
  obtain ⟨G, hG⟩ : ∃ G, (gb, Obj.cells (ps.map Part.val).toArray 40 (0, 0)) :: F = G := ⟨_, rfl⟩
  have hcell : ∀ (v : World) (L : List (Nat × Obj)) (k : Nat) (p : Part), St W v I L → (gb, Obj.cells (ps.map Part.val).toArray 40 (0, 0)) ∈ L → ps[k]? = some p → v.cell? ⟨gb, k, none⟩ = some (.slice p.A p.bs.length p.c) := fun v L k p hv hm hk => by
    rw [hv.cell (g := gb) (cs := (ps.map Part.val).toArray) (t := 40) (fr := (0, 0)) hm k, List.getElem?_toArray, List.getElem?_map, hk]
    rfl
  have hmem : (gb, Obj.cells (ps.map Part.val).toArray 40 (0, 0)) ∈ G := by rw [← hG]; exact List.mem_cons_self ..
  rw [hG] at h ⊢
  have H := Lib.hid h; have HC := Lib.hid hcell; have HM := Lib.hid hmem; have HIN := Lib.hid hin; have HL := Lib.hid hl
  clear h hcell hG hmem hin hl
  generalize hN : ps.length = N at *
  have HN := Lib.hid hN
  have hn2 : ps.length ≤ 1000 := by omega
  clear hN
  go_enter Tryd.func95, Tryd.ntmps95
  go_wp2_with fail
  go_loopw [3, 11] (fun s i wr => ∃ (k : Nat), i = .int .i64 k ∧ k ≤ N ∧ s = .int .i64 ((cat (ps.take k)).length : Nat) ∧ St W wr I G) (fun _ i _ => N - (intOf i).toNat)
  case atStart => exact ⟨0, rfl, by omega, by simp [cat], H.out⟩
  case round =>
    obtain ⟨k, rfl, hk, rfl, hst⟩ := hrel
    clear H
    by_cases hkn : k < N
    · obtain ⟨p, hp⟩ : ∃ p, ps[k]? = some p := ⟨_, List.getElem?_eq_getElem (by have := HN.out; omega)⟩
      have hs := cat_take ps k p hp
      have hle := cat_take_le ps (k + 1)
      have hL := HL.out
      have e0 := HC.out _ _ k p hst HM.out hp
      have hsum : (cat (ps.take (k + 1))).length = (cat (ps.take k)).length + p.bs.length := by rw [hs, List.length_append]
      obtain ⟨X, hX⟩ : ∃ X, (cat (ps.take k)).length = X := ⟨_, rfl⟩
      obtain ⟨Y, hY⟩ : ∃ Y, p.bs.length = Y := ⟨_, rfl⟩
      rw [hX, hY] at hsum
      rw [hsum] at hle
      have HS := Lib.hid hsum; have HST := Lib.hid hst
      rw [hX]
      rw [hY] at e0
      have q0 : ¬ ((X : Int) + (Y : Int) < 0) := by omega
      have q1 : (X : Int) + (Y : Int) ≤ 1000000 := by omega
      clear hs hX hY hsum hst hp
      go_wp2_with fail
      refine ⟨⟨k + 1, by go_num, by omega, ?_, HST.out⟩, ?_⟩
      · rw [HS.out]; rfl
      · simp [intOf]; omega
    · obtain rfl : k = N := by omega
      have hall : ps.take k = ps := List.take_of_length_le (by have := HN.out; omega)
      rw [hall]
      have hL := HL.out
      have kG := grow_any (cat ps).length hL hst
      have HST := Lib.hid hst; have KG := Lib.hid kG
      clear hst kG hall
      obtain ⟨T, hT⟩ : ∃ T, (cat ps).length = T := ⟨_, rfl⟩
      rw [hT] at KG hL ⊢
      have HT := Lib.hid hT
      clear hT
      go_wp2_with fail
      refine KG.out.mono ?_
      rintro e w1 ⟨A1, c1, L1, rfl, hr1, h1⟩
      have H1 := Lib.hid h1; have HR1 := Lib.hid hr1
      clear h1 hr1 KG HST
      go_wp2_with fail
      go_loopw [6, 27] (fun o i wr => ∃ (k : Nat) (A : Option Addr) (c : Nat) (L0 : List (Nat × Obj)) (m : Nat), i = .int .i64 k ∧ k ≤ ps.length ∧ m = (cat (ps.take k)).length ∧ o = .slice A m c ∧ Row 5 1 (.slice A m c) m ((cat (ps.take k)).map bval) L0 ∧ St W wr I (L0 ++ G)) (fun _ i _ => ps.length - (intOf i).toNat)
      case atStart => exact ⟨0, A1, c1, L1, 0, rfl, by omega, by simp [cat], rfl, by simpa [cat] using HR1.out, H1.out⟩
      case round =>
        obtain ⟨j, A, c, L0, m, rfl, hj, hm, rfl, hrow, hst⟩ := hrel
        clear H1 HR1
        by_cases hjn : j < ps.length
        · obtain ⟨p, hp⟩ : ∃ p, ps[j]? = some p := ⟨_, List.getElem?_eq_getElem hjn⟩
          have hs := cat_take ps j p hp
          have hle := cat_take_le ps (j + 1)
          have e0 := HC.out _ _ j p hst (List.mem_append.2 (.inr HM.out)) hp
          have hpi := HIN.out p (List.mem_of_getElem? hp) _ _ hst
          have hsum : (cat (ps.take (j + 1))).length = m + p.bs.length := by rw [hs, List.length_append, hm]
          have hle2 : m + p.bs.length ≤ T := by have := HT.out; omega
          have HS := Lib.hid hsum; have HST := Lib.hid hst; have HROW := Lib.hid hrow; have HP := Lib.hid hpi; have HCT := Lib.hid hs
          have hjI : (j : Int) < (k : Int) := by have := HN.out; omega
          clear hs hsum hst hrow hpi hm hle hp
          go_wp2_with (at_builtin; refine Hid.out ?_)
          refine Lib.hid ?_
          refine wpList_append_row (F := G) rfl (.tmp 31) (.tmp 32) 40 rfl 5 (.int .u8 0) 1 1 Tryd.underlying40 (by kernel_rfl) rfl (by omega) rfl HROW.out HST.out rfl HP.out (by intro u hu; obtain ⟨b, _, rfl⟩ := List.mem_map.1 hu; rfl) (m + p.bs.length) rfl ((cat (ps.take (j + 1))).map bval) (by rw [HCT.out, List.map_append]) (by unfold maxLen; omega) (by omega) ?_
          intro A5 c5 w5 L5 hr5 h5
          have H5 := Lib.hid h5; have HR5 := Lib.hid hr5
          clear h5 hr5 HROW HST HP
          go_wp2_with fail
          refine ⟨⟨j + 1, A5, c5, L5, m + p.bs.length, by go_num, by omega, HS.out.symm, rfl, HR5.out, H5.out⟩, ?_⟩
          simp [intOf]; omega
        · obtain rfl : j = ps.length := by omega
          rw [List.take_length] at hm hrow
          have HROW := Lib.hid hrow; have HST := Lib.hid hst; have HMM := Lib.hid hm
          have hjI : ¬ ((ps.length : Int) < (k : Int)) := by have := HN.out; omega
          clear hrow hst hm
          go_wp2_with fail
          go_ret
          have e := HMM.out
          subst e
          exact ⟨.slice A (cat ps).length c, rfl, A, c, L0, rfl, HROW.out, HST.out⟩

set_option maxRecDepth 100000 in
set_option maxHeartbeats 2000000 in
/-- code.Raw of one piece more. -/
theorem craw1 (p q : Part) (hp : p.In W I) (hq : q.In W I) (hl : p.bs.length + q.bs.length ≤ 1000000) (gb : Nat) (h : St W w I ((gb, .cells #[q.val] 40 (0, 0)) :: F)) :
    Calls Tryd.prog 64 #[p.val, .slice (some ⟨gb, 0, none⟩) 1 1] w fun e w' => ∃ v, e = .returned v ∧ FreshB W w' I F (p.bs ++ q.bs) v := by
  obtain ⟨pA, pc, pb⟩ := p
  obtain ⟨qA, qc, qb⟩ := q
  simp only [Part.val] at h hl ⊢
  have kC := concat_any [⟨qA, qc, qb⟩] (by simpa using hq) (by simp [cat]; omega) (by simp) gb h
  have hcat1 : cat [⟨qA, qc, qb⟩] = qb := by simp [cat]
  rw [hcat1] at kC
  have KC := Lib.hid kC; have HP := Lib.hid hp
  clear kC h hp hq hcat1
  go_enter Tryd.func64, Tryd.ntmps64
  go_wp2_with fail
  refine KC.out.mono ?_
  rintro e w1 ⟨v, rfl, A1, c1, L1, rfl, hr1, h1⟩
  obtain ⟨J, hle, hin, h2⟩ := part_freeze hr1 h1
  have h3 := (St.weaken (A := [_]) h2).alloc (.cells #[.slice pA pb.length pc, .slice A1 qb.length c1] 40)
  have kD := concat_any (I := J) [⟨pA, pc, pb⟩, ⟨A1, c1, qb⟩] (by
    intro z hz
    rcases List.mem_cons.1 hz with rfl | hz
    · exact HP.out.mono hle
    · rcases List.mem_cons.1 hz with rfl | hz
      · exact hin
      · cases hz) (by simp [cat]; omega) (by simp) w1.heap.size h3
  have hcat2 : cat [⟨pA, pc, pb⟩, ⟨A1, c1, qb⟩] = pb ++ qb := by simp [cat]
  rw [hcat2] at kD
  have KD := Lib.hid kD; have HLE := Lib.hid hle
  clear kD h3 h2 h1 hr1 hin hle hcat2 KC
  go_wp2_with fail
  refine KD.out.mono ?_
  rintro e w4 ⟨v, rfl, A4, c4, L4, rfl, hr4, h4⟩
  have H4 := Lib.hid ((St.mid (A := L4) (B := [_]) h4).less HLE.out); have HR4 := Lib.hid hr4
  clear hr4 h4 KD
  go_wp2_with fail
  go_ret
  have hr4 := HR4.out
  rw [List.length_append] at hr4
  exact ⟨_, rfl, A4, c4, L4, by rw [List.length_append]; rfl, by rw [List.length_append]; exact hr4, H4.out⟩
end
end Go.Proofs.YtpjfmgifddoppaaDoor
