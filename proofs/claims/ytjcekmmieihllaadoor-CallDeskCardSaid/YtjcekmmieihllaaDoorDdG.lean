/- call: a desk of the document's: New, Find, Serial, Waiting: walk. call: a desk of the document's: Waiting: walk. -/
import Derived.Test.YtjcekmmieihllaaDoorDqA
import Derived.Deep.RegionHeld3
import Derived.Deep.RegionWith
namespace Go.Proofs.YtjcekmmieihllaaDoor
section
set_option linter.unusedVariables false
set_option linter.unusedSimpArgs false
set_option linter.unnecessarySimpa false
open Go.RowKit Go.Lib

section
variable {W w : World} {I : Nat → Option Obj} {F : List (Nat × Obj)} {gr : Nat} {all : List Pn} {last n : Int}
/-- All that is pending, as the document's desk has it. -/
def RAll (A : Option Addr) (c : Nat) (all : List Pn) (L : List (Nat × Obj)) : Prop :=
  (A = none ∧ c = 0 ∧ all = [] ∧ L = []) ∨ ∃ gA X, A = some ⟨gA, 0, none⟩ ∧ L = [(gA, .cells (dcells all ++ X) 92 (0, 0))] ∧ all.length ≤ c ∧ c ≤ maxLen ∧ c * 87 ≤ (dcells all ++ X).size
/-- The desk's own block. -/
def rdesk (n : Int) (A : Option Addr) (k c : Nat) (last : Int) : Array Value := #[.int .i64 n, .slice A k c, .int .i64 last]
def RdL (gr : Nat) (n : Int) (A : Option Addr) (k c : Nat) (last : Int) (L : List (Nat × Obj)) : List (Nat × Obj) := (gr, .cells (rdesk n A k c last) 66 (0, 0)) :: L
theorem rd_get {ps : List Pn} (h : AllOk ps) {X : Array Value} {i : Nat} {p : Pn} (hi : ps[i]? = some p) (j : Nat) (hj : j < 87) : (dcells ps ++ X)[i * 87 + j]? = p.cells[j]? := by
  have h1 := dcells_get h hi j hj
  have hs := dcells_size h
  have hil := (List.getElem?_eq_some_iff.1 hi).1
  have : (i + 1) * 87 ≤ ps.length * 87 := Nat.mul_le_mul_right _ hil
  rw [Array.getElem?_append_left (by omega)]
  exact h1
theorem rpn_info (p : Pn) (ok : p.Ok) : (Tryd.prog.info? 92).map (·.size) = some p.cells.size := by rw [p.size ok]; kernel_rfl
set_option maxHeartbeats 2000000 in
theorem rd_new (n : Int) (k : Nat) (hk : max 1 (min n 8) = (k : Int)) (h : St W w I F) :
    Calls Tryd.prog 23 #[.int .i64 n] w fun e w' => ∃ gr, e = .returned (.pointer (some ⟨gr, 0, none⟩)) ∧ St W w' I (RdL gr (k : Int) none 0 0 0 [] ++ F) := by
  have h1 := h.alloc (.cells (rdesk (k : Int) none 0 0 0) 66)
  have H1 := Lib.hid h1
  clear h h1
  by_cases c1 : n < 1
  · have : k = 1 := by omega
    subst this
    clear hk
    go_enter Tryd.func23, Tryd.ntmps23
    go_wp2_with fail
    go_ret
    exact ⟨_, rfl, H1.out⟩
  · by_cases c2 : 8 < n
    · have : k = 8 := by omega
      subst this
      clear hk
      go_enter Tryd.func23, Tryd.ntmps23
      go_wp2_with fail
      go_ret
      exact ⟨_, rfl, H1.out⟩
    · have : n = (k : Int) := by omega
      subst this
      clear hk
      go_enter Tryd.func23, Tryd.ntmps23
      go_wp2_with fail
      go_ret
      exact ⟨_, rfl, H1.out⟩
theorem idxR_hit {all : List Pn} {c : Int} {k : Nat} {p : Pn} (hk : all[k]? = some p) (hc : p.call.client = c) (hno : ∀ q ∈ all.take k, q.call.client ≠ c) : findR all c = some k := by
  unfold findR
  rw [List.findIdx?_eq_some_iff_getElem]
  obtain ⟨h1, h2⟩ := List.getElem?_eq_some_iff.1 hk
  refine ⟨h1, by rw [h2]; simpa using hc, fun j hj => ?_⟩
  have := hno all[j] (List.mem_take_iff_getElem.2 ⟨j, by omega, rfl⟩)
  simpa using this
theorem idxR_no {all : List Pn} {c : Int} (hno : ∀ q ∈ all, q.call.client ≠ c) : findR all c = none := by
  unfold findR
  rw [List.findIdx?_eq_none_iff]
  intro x hx
  simpa using hno x hx
theorem take_step {all : List Pn} {c : Int} {k : Nat} {p : Pn} (hk : all[k]? = some p) (hc : p.call.client ≠ c) (hno : ∀ q ∈ all.take k, q.call.client ≠ c) : ∀ q ∈ all.take (k + 1), q.call.client ≠ c := fun q hq => by
  rw [List.take_add_one, hk] at hq
  rcases List.mem_append.1 hq with hq | hq
  · exact hno q hq
  · simp at hq
    subst hq
    exact hc
set_option maxRecDepth 100000 in
set_option maxHeartbeats 4000000 in
theorem rd_find {A : Option Addr} {c : Nat} {L : List (Nat × Obj)} (ok : AllOk all) (hn : all.length ≤ 8) (hA : RAll A c all L) (i : Int) (h : St W w I (RdL gr n A all.length c last L ++ F)) :
    Calls Tryd.prog 43 #[.pointer (some ⟨gr, 0, none⟩), .int .i64 i] w fun e w' => e = .returned (.int .i64 (idxR all i)) ∧ St W w' I (RdL gr n A all.length c last L ++ F) := by
  have c0 := h.cell (g := gr) (cs := rdesk n A all.length c last) (t := 66) (fr := (0, 0)) (by simp [RdL]) 1
  simp [rdesk] at c0
  obtain ⟨m, hm⟩ : ∃ m, all.length = m := ⟨_, rfl⟩
  rw [hm] at hn c0
  have H := Lib.hid h
  have HN := Lib.hid hm
  have HA := Lib.hid hA
  obtain ⟨X, hX⟩ : ∃ X, idxR all i = X := ⟨_, rfl⟩
  have HX := Lib.hid hX
  rw [hX]
  clear h hm hA hX
  go_enter Tryd.func43, Tryd.ntmps43
  go_wp2_with fail
  go_loopw [12] (fun j wr => ∃ k : Nat, j = .int .i64 k ∧ k ≤ m ∧ (∀ q ∈ all.take k, q.call.client ≠ i) ∧ St W wr I (RdL gr n A all.length c last L ++ F)) (fun j _ => m - (intOf j).toNat)
  case atStart => exact ⟨0, rfl, by omega, by simp, H.out⟩
  case round =>
    obtain ⟨k, rfl, hk, hno, hst⟩ := hrel
    clear H c0
    have HNO := Lib.hid hno
    clear hno
    by_cases hlt : k < m
    · obtain ⟨p, hp⟩ : ∃ p, all[k]? = some p := ⟨_, List.getElem?_eq_getElem (by rw [HN.out]; exact hlt)⟩
      have hpok := ok p (List.mem_of_getElem? hp)
      obtain ⟨_, _, e, _⟩ | ⟨gA, Y, rfl, rfl, hl1, hl2, hl3⟩ := HA.out
      · rw [e] at hp; simp at hp
      have h2 := hst.alloc (.cells Tryd.zeroCells92 92)
      have h6 := (pn_at p).1
      have H1 := Lib.hid hst
      have HZ := Lib.hid h2
      have hys : ∀ j, j < p.cells.size → (dcells all ++ Y)[k * 87 + j]? = p.cells[j]? := fun j hj => rd_get ok hp j (by rw [p.size hpok] at hj; exact hj)
      have HY := Lib.hid hys
      have HI := Lib.hid (rpn_info p hpok)
      have HO := Lib.hid p.one
      have HF := Lib.hid (show 0 + p.cells.size ≤ (Tryd.zeroCells92).size from by rw [p.size hpok]; decide)
      have HM := Lib.hid (show setMany Tryd.zeroCells92 0 p.cells.toList = p.cells from setMany_whole _ _ (by rw [Array.length_toList, p.size hpok]; rfl))
      have H6 := Lib.hid h6
      have HP := Lib.hid hp
      have hcl := fun (hc : p.call.client ≠ i) => take_step hp hc HNO.out
      have hch := fun (hc : p.call.client = i) => idxR_hit hp hc HNO.out
      have HCL := Lib.hid hcl; have HCH := Lib.hid hch
      clear hst h2 hp hys h6 HP hcl hch hl1 hl2 hl3 HNO
      generalize p.cells = C at *
      generalize p.call.client = cl at *
      have hkm : (k : Int) < (m : Int) := by omega
      by_cases hs : cl = i
      · subst hs
        have hfd := HCH.out rfl
        have hv : X = (k : Int) := by rw [← HX.out]; unfold idxR; rw [hfd]
        have HV := Lib.hid hv
        clear hfd hv HCH HCL HX
        go_wp2_with (first | (with_reducible refine wpList_load_st rfl 92 (.tmp 15) rfl (g := gA) (off := k * 87) rfl H1.out (cs := dcells all ++ Y) (t := 92) (fr := (0, 0)) (by simp [RdL]) C HY.out _ Tryd.underlying92 rfl HI.out ?_) | (with_reducible refine wpList_store_st rfl 92 (.tmp 6) (.tmp 16) rfl (off := 0) C rfl rfl HZ.out HF.out HI.out HO.out ?_; intro w3 h3; rw [HM.out] at h3; have q6 := (h3.cell (g := wr.heap.size) (cs := C) (t := 92) (fr := (0, 0)) (by simp) 0).trans H6.out; have H4 := Lib.hid h3; clear h3))
        go_ret
        exact ⟨by rw [HV.out]; rfl, St.weaken (A := [_]) H4.out⟩
      · have hne : (cl == i) = false := beq_eq_false_iff_ne.2 hs
        have hcl := HCL.out hs
        have HCL2 := Lib.hid hcl
        clear hcl HCH HCL HX
        go_wp2_with (first | (with_reducible refine wpList_load_st rfl 92 (.tmp 15) rfl (g := gA) (off := k * 87) rfl H1.out (cs := dcells all ++ Y) (t := 92) (fr := (0, 0)) (by simp [RdL]) C HY.out _ Tryd.underlying92 rfl HI.out ?_) | (with_reducible refine wpList_store_st rfl 92 (.tmp 6) (.tmp 16) rfl (off := 0) C rfl rfl HZ.out HF.out HI.out HO.out ?_; intro w3 h3; rw [HM.out] at h3; have q6 := (h3.cell (g := wr.heap.size) (cs := C) (t := 92) (fr := (0, 0)) (by simp) 0).trans H6.out; have H4 := Lib.hid h3; clear h3))
        exact ⟨⟨k + 1, rfl, by omega, HCL2.out, St.weaken (A := [_]) H4.out⟩, by simp [intOf]; omega⟩
    · have hkn : k = m := by omega
      subst hkn
      have H1 := Lib.hid hst
      clear hst
      have hT : all.take k = all := by rw [← HN.out, List.take_length]
      have hno := HNO.out
      rw [hT] at hno
      have hfd := idxR_no hno
      have hv : X = -1 := by rw [← HX.out]; unfold idxR; rw [hfd]
      have HV := Lib.hid hv
      clear hno hfd hv HNO hT HX
      go_wp2_with fail
      go_ret
      exact ⟨by rw [HV.out]; rfl, H1.out⟩
set_option maxHeartbeats 2000000 in
theorem rd_serial {A : Option Addr} {c : Nat} {L : List (Nat × Obj)} (ok : AllOk all) (hn : all.length ≤ 8) (hA : RAll A c all L) (i : Int) (h : St W w I (RdL gr n A all.length c last L ++ F)) :
    Calls Tryd.prog 29 #[.pointer (some ⟨gr, 0, none⟩), .int .i64 i] w fun e w' => e = .returned (.int .i64 (serR all i)) ∧ St W w' I (RdL gr n A all.length c last L ++ F) := by
  have kF := rd_find ok hn hA i h
  have hc := fun (v : World) (hv : St W v I (RdL gr n A all.length c last L ++ F)) => hv.cell (g := gr) (cs := rdesk n A all.length c last) (t := 66) (fr := (0, 0)) (by simp [RdL]) 1
  unfold idxR at kF
  unfold serR
  cases hf : findR all i with
  | none =>
    rw [hf] at kF
    have KF := Lib.hid kF
    clear kF hf hc h hA
    go_enter Tryd.func29, Tryd.ntmps29
    go_wp2_with fail
    refine KF.out.mono ?_
    rintro e w1 ⟨rfl, h1⟩
    have H1 := Lib.hid h1
    clear h1 KF
    go_wp2_with fail
    go_ret
    exact ⟨rfl, H1.out⟩
  | some k =>
    rw [hf] at kF
    obtain ⟨p, hp, -⟩ := findR_some hf
    obtain ⟨_, _, e, _⟩ | ⟨gA, Y, rfl, rfl, hl1, hl2, hl3⟩ := hA
    · rw [e] at hp; simp at hp
    have hk := (List.getElem?_eq_some_iff.1 hp).1
    have hpc := fun (v : World) (hv : St W v I (RdL gr n (some ⟨gA, 0, none⟩) all.length c last [(gA, .cells (dcells all ++ Y) 92 (0, 0))] ++ F)) => ((hv.cell (g := gA) (cs := dcells all ++ Y) (t := 92) (fr := (0, 0)) (by simp [RdL]) (k * 87 + 1 * 0 + 5)).trans (rd_get ok hp 5 (by omega))).trans (pn_at p).2.2.2.2.2.1
    dsimp only
    rw [hp]
    dsimp only [Option.getD_some]
    generalize p.serial = se at *
    obtain ⟨m, hm⟩ : ∃ m, all.length = m := ⟨_, rfl⟩
    rw [hm] at hn hk
    simp only [hm] at kF hc hpc ⊢
    have KF := Lib.hid kF; have HC := Lib.hid hc; have HPC := Lib.hid hpc
    clear kF hf hc h hpc hp hm hl1 hl2 hl3
    go_enter Tryd.func29, Tryd.ntmps29
    go_wp2_with fail
    refine KF.out.mono ?_
    rintro e w1 ⟨rfl, h1⟩
    have c0 := HC.out _ h1
    simp [rdesk] at c0
    have c1 := HPC.out _ h1
    simp at c1
    have H1 := Lib.hid h1
    have k0 : ¬ (k : Int) < 0 := by omega
    have k1 : (k : Int) < (m : Int) := by omega
    clear h1 KF HC HPC
    go_wp2_with fail
    go_ret
    exact ⟨rfl, H1.out⟩
end
end

section
set_option linter.unusedVariables false
set_option linter.unusedSimpArgs false
set_option linter.unnecessarySimpa false
open Go.RowKit Go.Lib

section
variable {W w : World} {I : Nat → Option Obj} {F : List (Nat × Obj)} {gr : Nat} {all : List Pn} {last : Int}
def dlist (all : List Pn) : List Value := (all.map Pn.list).flatten
theorem RAll.row {A : Option Addr} {c : Nat} {L : List (Nat × Obj)} (ok : AllOk all) (h : RAll A c all L) : Row 92 87 (.slice A all.length c) all.length (dlist all) L ∧ Off0 (.slice A all.length c) := by
  have hs := dcells_size ok
  have hl : (dlist all).length = all.length * 87 := by
    unfold dcells at hs
    rw [List.size_toArray] at hs
    exact hs
  rcases h with ⟨rfl, rfl, rfl, rfl⟩ | ⟨gA, X, rfl, rfl, h1, h2, h3⟩
  · exact ⟨⟨hl, .inl ⟨rfl, rfl, rfl⟩⟩, Off0.nil⟩
  · refine ⟨⟨hl, .inr ⟨gA, 0, c, _, rfl, rfl, h1, h2, by rw [Nat.zero_add]; exact h3, ?_⟩⟩, Off0.head⟩
    have hd : (dcells all).toList.length = all.length * 87 := hl
    rw [List.drop_zero, Array.toList_append, List.take_append_of_le_length (by rw [hd]; exact Nat.le_refl _)]
    exact List.take_of_length_le (by rw [hd]; exact Nat.le_refl _)
theorem RAll.of_row {A : Option Addr} {k c : Nat} {L : List (Nat × Obj)} (hk : k = all.length) (h : Row 92 87 (.slice A k c) k (dlist all) L) (h0 : Off0 (.slice A k c)) : RAll A c all L := by
  subst hk
  obtain ⟨hl, ⟨e, hn, hL⟩ | ⟨g, off, cap, cur, e, hL, h1, h2, h3, h4⟩⟩ := h
  · simp only [Value.slice.injEq] at e
    obtain ⟨rfl, _, rfl⟩ := e
    exact .inl ⟨rfl, rfl, List.eq_nil_of_length_eq_zero hn, hL⟩
  · simp only [Value.slice.injEq, true_and] at e
    obtain ⟨rfl, rfl⟩ := e
    have := h0 _ _ _ _ rfl
    subst this
    refine .inr ⟨g, (cur.toList.drop (all.length * 87)).toArray, rfl, ?_, h1, h2, ?_⟩
    · rw [hL]
      have : cur = dcells all ++ (cur.toList.drop (all.length * 87)).toArray := by
        apply Array.toList_inj.1
        rw [Array.toList_append]
        show cur.toList = dlist all ++ _
        rw [← h4, List.drop_zero]
        exact (List.take_append_drop _ _).symm
      rw [← this]
    · have hd : (dcells all).size = all.length * 87 := by unfold dcells; rw [List.size_toArray]; exact hl
      have hle : all.length * 87 ≤ c * 87 := Nat.mul_le_mul_right _ h1
      have hc2 : cur.toList.length = cur.size := Array.length_toList
      rw [Array.size_append, hd, List.size_toArray, List.length_drop, hc2]
      omega
def ints (l : List Nat) : List Value := l.map fun k : Nat => Value.int .i64 (k : Int)
def WaitPost (W : World) (I : Nat → Option Obj) (G : List (Nat × Obj)) (l : List Nat) (e : Ending) (w' : World) : Prop :=
  ∃ A c L, e = .returned (.slice A l.length c) ∧ Row 3 1 (.slice A l.length c) l.length (ints l) L ∧ St W w' I (L ++ G)
theorem ints_one (l : List Nat) : ∀ u ∈ ints l, u.oneCell' = true := by
  intro u hu
  obtain ⟨k, _, rfl⟩ := List.mem_map.1 hu
  rfl
theorem waitR_succ (all : List Pn) (k : Nat) : waitR (k + 1) all = waitR k all ++ (waits1 all k).toList := by
  unfold waitR
  rw [List.range_succ, List.filterMap_append]
  cases h : waits1 all k <;> simp [h]
theorem waitR_le (all : List Pn) (k : Nat) : (waitR k all).length ≤ k := by
  unfold waitR
  have := List.length_filterMap_le (waits1 all) (List.range k)
  rw [List.length_range] at this
  exact this
theorem waits1_lt {all : List Pn} {i k : Nat} (h : waits1 all i = some k) : k < all.length := by
  unfold waits1 at h
  cases hf : findR all (i : Int) with
  | none => rw [hf] at h; cases h
  | some j =>
    rw [hf] at h
    dsimp only at h
    obtain ⟨p, hp, _⟩ := findR_some hf
    split at h
    · cases h
      exact (List.getElem?_eq_some_iff.1 hp).1
    · cases h
set_option maxRecDepth 100000 in
set_option maxHeartbeats 4000000 in
theorem rd_waiting {A : Option Addr} {c n : Nat} {L : List (Nat × Obj)} (ok : AllOk all) (hn : all.length ≤ 8) (hn8 : n ≤ 8) (hA : RAll A c all L) (h : St W w I (RdL gr (n : Int) A all.length c last L ++ F)) :
    Calls Tryd.prog 28 #[.pointer (some ⟨gr, 0, none⟩)] w (WaitPost W I (RdL gr (n : Int) A all.length c last L ++ F) (waitR n all)) := by
  have kF := fun (k : Nat) (v : World) (G : List (Nat × Obj)) (hv : St W v I (RdL gr (n : Int) A all.length c last L ++ G)) => rd_find ok hn hA (k : Int) hv
  have hc := fun (v : World) (G : List (Nat × Obj)) (hv : St W v I (G ++ (RdL gr (n : Int) A all.length c last L ++ F))) => hv.cell (g := gr) (cs := rdesk (n : Int) A all.length c last) (t := 66) (fr := (0, 0)) (by simp [RdL])
  have h1 := h.alloc (.cells #[] 3)
  obtain ⟨X, hX⟩ : ∃ X, waitR n all = X := ⟨_, rfl⟩
  rw [hX]
  have H1 := Lib.hid h1; have KF := Lib.hid kF; have HC := Lib.hid hc; have HX := Lib.hid hX; have HA := Lib.hid hA; have OK := Lib.hid ok
  clear h h1 kF hc hX hA ok
  go_enter Tryd.func28, Tryd.ntmps28
  go_wp2_with fail
  go_loopw [3, 4] (fun o j wr => ∃ (k : Nat) (B : Option Addr) (d : Nat) (L1 : List (Nat × Obj)), j = .int .i64 k ∧ k ≤ n ∧ o = .slice B (waitR k all).length d ∧ Row 3 1 (.slice B (waitR k all).length d) (waitR k all).length (ints (waitR k all)) L1 ∧ St W wr I (L1 ++ (RdL gr (n : Int) A all.length c last L ++ F))) (fun _ j _ => n - (intOf j).toNat)
  case atStart => exact ⟨0, _, _, [(w.heap.size, .cells #[] 3 (0, 0))], rfl, by omega, rfl, Row.empty 3 1 _, H1.out⟩
  case round =>
    obtain ⟨k, B, d, L1, rfl, hk, rfl, hrow, hst⟩ := hrel
    clear H1
    have c0 := HC.out _ _ hst 0
    have c1 := HC.out _ _ hst 1
    simp [rdesk] at c0 c1
    have hwl := waitR_le all k
    have hws := waitR_succ all k
    have HROW := Lib.hid hrow; have H2 := Lib.hid hst; have HWS := Lib.hid hws
    clear hrow hst hws
    by_cases hlt : k < n
    · have hltI : (k : Int) < (n : Int) := by omega
      have k1 := KF.out k _ _ (St.swap (A := L1) (B := RdL gr (n : Int) A all.length c last L) H2.out)
      unfold idxR at k1
      have hck := HC.out
      have HC2 := Lib.hid hck
      clear hck
      cases hf : findR all (k : Int) with
      | none =>
        rw [hf] at k1
        have hw1 : waits1 all k = none := by unfold waits1; rw [hf]
        have hws := HWS.out
        rw [hw1] at hws
        have e : waitR (k + 1) all = waitR k all := by simpa using hws
        have HE := Lib.hid e
        have K1 := Lib.hid k1
        clear hws e hw1 k1 hf HWS
        go_wp2_with fail
        refine K1.out.mono ?_
        rintro e w1 ⟨rfl, h3⟩
        have H3 := Lib.hid (St.swap (A := RdL gr (n : Int) A all.length c last L) (B := L1) h3)
        clear h3 K1 H2
        go_wp2_with fail
        go_roundw
        case rel => exact ⟨k + 1, B, d, L1, rfl, by omega, by rw [HE.out], by rw [HE.out]; exact HROW.out, H3.out⟩
        case measure => simp [intOf]; omega
      | some q =>
        rw [hf] at k1
        obtain ⟨p, hp, -⟩ := findR_some hf
        have hql := (List.getElem?_eq_some_iff.1 hp).1
        have hA2 := HA.out
        obtain ⟨_, _, e, _⟩ | ⟨gA, Y, rfl, rfl, hl1, hl2, hl3⟩ := hA2
        · rw [e] at hp; simp at hp
        have hw1 : waits1 all k = if p.stage = 1 then some q else none := by unfold waits1; rw [hf]; simp [hp]
        have hpc := fun (v : World) (G : List (Nat × Obj)) (hv : St W v I (RdL gr (n : Int) (some ⟨gA, 0, none⟩) all.length c last [(gA, .cells (dcells all ++ Y) 92 (0, 0))] ++ G)) => ((hv.cell (g := gA) (cs := dcells all ++ Y) (t := 92) (fr := (0, 0)) (by simp [RdL]) (q * 87 + 6)).trans (rd_get OK.out hp 6 (by omega))).trans (pn_at p).2.2.2.2.2.2
        have HPC := Lib.hid hpc; have HW1 := Lib.hid hw1; have K1 := Lib.hid k1
        have q0 : (0 : Int) ≤ (q : Int) := by omega
        have q8 : q ≤ 8 := by omega
        have q1 : (q : Int) < (all.length : Int) := by omega
        clear hpc hw1 k1 hp hf hl1 hl2 hl3 KF HA c1
        generalize p.stage = sg at *
        obtain ⟨m, hm⟩ : ∃ m, all.length = m := ⟨_, rfl⟩
        rw [hm] at hn hql q1
        simp only [hm] at HC2 HPC K1 H2 ⊢
        have HM := Lib.hid hm
        clear hm
        by_cases hs : sg = 1
        · subst hs
          have hws := HWS.out
          rw [HW1.out, if_pos rfl] at hws
          have hws2 : waitR (k + 1) all = waitR k all ++ [q] := hws
          have HE := Lib.hid hws2
          clear hws hws2 HWS HW1
          obtain ⟨wl, hwl2⟩ : ∃ wl, waitR k all = wl := ⟨_, rfl⟩
          rw [hwl2] at hwl
          simp only [hwl2] at HROW HE ⊢
          clear hwl2
          go_wp2_with fail
          refine K1.out.mono ?_
          rintro e w1 ⟨rfl, h3⟩
          have c6 := HPC.out _ _ h3
          have hsw := St.swap (A := RdL gr (n : Int) (some ⟨gA, 0, none⟩) m c last [(gA, .cells (dcells all ++ Y) 92 (0, 0))]) (B := L1) h3
          have c1 := HC2.out _ _ hsw 1
          simp [rdesk] at c1
          have H3 := Lib.hid hsw
          clear h3 hsw K1 H2 HPC HC2
          go_wp2_with (at_builtin; refine Hid.out ?_)
          refine Lib.hid ?_
          refine wpList_append_row (F := RdL gr (n : Int) (some ⟨gA, 0, none⟩) m c last [(gA, .cells (dcells all ++ Y) 92 (0, 0))] ++ F) rfl (.tmp 31) (.tmp 33) 67 rfl 3 (.int .i64 0) 1 8 Tryd.underlying67 (by kernel_rfl) rfl (by omega) rfl HROW.out (St.alloc_ H3.out _) rfl (Src.one w1 (.int .i64 (q : Int)) 3) (by intro u hu; simp at hu; subst hu; rfl) (wl.length + 1) (by simp) (ints (wl ++ [q])) (by simp [ints]) (by unfold maxLen; omega) (by omega) ?_
          intro A5 c5 w5 L5 hr5 h5
          have hr6 : Row 3 1 (.slice A5 (wl ++ [q]).length c5) (wl ++ [q]).length (ints (wl ++ [q])) L5 := by rw [List.length_append]; exact hr5
          have HR6 := Lib.hid hr6; have H6 := Lib.hid h5
          clear hr5 h5 hr6 H3 HROW
          go_wp2_with fail
          go_roundw
          case rel => exact ⟨k + 1, A5, c5, L5, rfl, by omega, by rw [HE.out]; simp, by rw [HE.out]; exact HR6.out, H6.out⟩
          case measure => simp [intOf]; omega
        · have hws := HWS.out
          rw [HW1.out, if_neg hs] at hws
          have e : waitR (k + 1) all = waitR k all := by simpa using hws
          have HE := Lib.hid e
          have hsb : (sg == 1) = false := beq_eq_false_iff_ne.2 hs
          clear hws e HWS HW1 hs
          go_wp2_with fail
          refine K1.out.mono ?_
          rintro e w1 ⟨rfl, h3⟩
          have c6 := HPC.out _ _ h3
          have hsw := St.swap (A := RdL gr (n : Int) (some ⟨gA, 0, none⟩) m c last [(gA, .cells (dcells all ++ Y) 92 (0, 0))]) (B := L1) h3
          have c1 := HC2.out _ _ hsw 1
          simp [rdesk] at c1
          have H3 := Lib.hid hsw
          clear h3 hsw K1 H2 HPC HC2
          go_wp2_with fail
          go_roundw
          case rel => exact ⟨k + 1, B, d, L1, rfl, by omega, by rw [HE.out], by rw [HE.out]; exact HROW.out, H3.out⟩
          case measure => simp [intOf]; omega
    · have hkn : k = n := by omega
      subst hkn
      clear hlt hk HC c1 HWS
      rw [HX.out] at HROW ⊢
      go_wp2_with fail
      go_ret
      exact ⟨B, d, L1, rfl, HROW.out, H2.out⟩
end
end
end Go.Proofs.YtjcekmmieihllaaDoor
