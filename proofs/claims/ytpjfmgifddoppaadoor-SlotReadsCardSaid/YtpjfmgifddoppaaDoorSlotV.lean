/- slot: Parse: walk. -/
import Derived.Test.YtpjfmgifddoppaaDoorSlotS
import Derived.Test.YtpjfmgifddoppaaDoorFrz
import Derived.Deep.RegionHeld3
import Derived.Deep.DeepCutAuto
import Derived.Deep.MidRow
import Derived.IntWalk
import Derived.Lib.MinMax
namespace Go.Proofs.YtpjfmgifddoppaaDoor
set_option linter.unusedVariables false
set_option linter.unusedSimpArgs false
open Go.RowKit Go.Lib

def wordsB : List ByteArray := wordsL.map fun z => ⟨z.toArray⟩
def wIdx (x : ByteArray) : Int := Lib.idxOfS wordsB x
theorem wIdx_range (x : ByteArray) : -1 ≤ wIdx x ∧ wIdx x ≤ 4 := by
  unfold wIdx wordsB wordsL Lib.idxOfS
  simp only [List.map_cons, List.map_nil, Lib.idxFromS]
  repeat' split
  all_goals omega
/-- The slot that words say, whether it can be or not. -/
def pS (l : List ByteArray) : Slt :=
  if (wIdx (l.getD 0 ⟨#[]⟩) = 2 ∨ wIdx (l.getD 0 ⟨#[]⟩) = 3) ∧ 4 ≤ l.length then
    ⟨wIdx (l.getD 0 ⟨#[]⟩), if l.length = 5 then ((min (numO (l.getD 4 ⟨#[]⟩)) 8 : Nat) : Int) else 0, (numO (l.getD 1 ⟨#[]⟩) : Nat), ((min (numO (l.getD 2 ⟨#[]⟩)) 65537 : Nat) : Int), pOut (l.getD 3 ⟨#[]⟩).data.toList⟩
  else bareS (wIdx (l.getD 0 ⟨#[]⟩))
/-- What is read of a text. -/
def parseS (t : ByteArray) : Slt × Int := if (rightS (pS (splO t)) && (textS (pS (splO t)) == t.data.toList)) = true then (pS (splO t), 0) else (zS, 101)
theorem pS_ok (l : List ByteArray) : (pS l).Ok := by
  have h := wIdx_range (l.getD 0 ⟨#[]⟩)
  unfold pS
  split
  · have h1 := numO_le (l.getD 1 ⟨#[]⟩)
    refine ⟨pOut_len _, by simp only; omega, by simp only; omega, ?_, ?_, by simp only; omega, by simp only; omega, by simp only; omega, by simp only; omega⟩
    · simp only
      split <;> omega
    · simp only
      split <;> omega
  · exact bareS_ok _ (by omega) (by omega)
theorem Slt.set2 (s : Slt) (x : Int) : s.cells.setIfInBounds 2 (.int .u64 x) = ({ s with ver := x } : Slt).cells := by
  unfold Slt.cells
  simp
theorem Slt.set3 (s : Slt) (x : Int) : s.cells.setIfInBounds 3 (.int .i64 x) = ({ s with sz := x } : Slt).cells := by
  unfold Slt.cells
  simp
theorem Slt.set4 (s : Slt) (d : List UInt8) (hs : s.dig.length = 32) (hd : d.length = 32) : setMany s.cells 4 (bcells d).toList = ({ s with dig := d } : Slt).cells ∧ 4 + (bcells d).size ≤ s.cells.size := by
  have hsz := Slt.size hs
  have hb : (bcells d).toList.length = 32 := by rw [Array.length_toList, bcells_size, hd]
  refine ⟨?_, by rw [bcells_size, hd, hsz]; omega⟩
  apply Array.ext_getElem?
  intro j
  rw [setMany_get _ _ _ _ (by rw [hb, hsz]; omega), hb]
  by_cases hj : j < 4
  · rw [if_neg (by omega)]
    unfold Slt.cells
    rw [List.getElem?_toArray, List.getElem?_toArray, List.getElem?_append_left (by simpa using hj), List.getElem?_append_left (by simpa using hj)]
  · obtain ⟨k, rfl⟩ : ∃ k, j = 4 + k := ⟨j - 4, by omega⟩
    rw [Slt.at4]
    by_cases hk : 4 ≤ 4 + k ∧ 4 + k < 4 + 32
    · rw [if_pos hk, Nat.add_sub_cancel_left]
      rw [Slt.at4 { s with dig := d } k, Array.getElem?_toList]
      unfold bcells
      rw [List.getElem?_toArray]
    · rw [if_neg hk, Slt.at4, List.getElem?_eq_none (by rw [List.length_map, hs]; omega), List.getElem?_eq_none (by rw [List.length_map, hd]; omega)]
section
variable {W w : World} {I : Nat → Option Obj} {F : List (Nat × Obj)}
/-- A row of texts turns no more. -/
theorem strs_freeze {A : Option Addr} {c : Nat} {ws : List ByteArray} {L0 : List (Nat × Obj)} (hne : ws ≠ []) (hr : Row 9 1 (.slice A ws.length c) ws.length (ws.map Value.string) L0) (h : St W w I (L0 ++ F)) :
    ∃ J g off, Le I J ∧ A = some ⟨g, off, none⟩ ∧ St W w J F ∧ ∀ j x, ws[j]? = some x → roCell J ⟨g, off + j, none⟩ = some (.string x) := by
  obtain ⟨J, h1, h2, h3⟩ := St.freezes L0 h
  cases ws with
  | nil => exact absurd rfl hne
  | cons w0 ws =>
    obtain ⟨g, off, cap, cur, hA, hL, hc⟩ := hr.cells (j := 0) (u := .string w0) rfl
    injection hA with e1 e2 e3
    refine ⟨J, g, off, h1, e1, h3, fun j x hx => ?_⟩
    obtain ⟨g', off', cap', cur', hA', hL', hc'⟩ := hr.cells (j := j) (u := .string x) (by rw [List.getElem?_map, hx]; rfl)
    injection hA' with e1' e2' e3'
    rw [e1] at e1'
    injection e1' with e1'
    injection e1' with eg eo
    subst eg; subst eo
    have hm := h2 (g, .cells cur' 9 (0, 0)) (by rw [hL']; simp)
    unfold roCell
    simp only at hm ⊢
    rw [hm]
    simpa using hc'
theorem wp_store_st {P : Program} {W w : World} {I : Nat → Option Obj} {F : List (Nat × Obj)} {o : Oper} {a : Act} {K : Act → World → Prop} {Q : Exit → Act → World → Prop} (ty : TypeId) (x y : Operand) (ho : o.op = .store ty x y) {g off : Nat} (cells : Array Value) (hx : a.eval x = .pointer (some ⟨g, off, none⟩)) (hy : a.eval y = .agg cells)
    {cs : Array Value} {t : TypeId} (hst : St W w I ((g, .cells cs t (0, 0)) :: F)) (hfit : off + cells.size ≤ cs.size) (hi : (P.info? ty).map (·.size) = some cells.size) (h1 : cells.all (·.oneCell') = true)
    (h : ∀ w', St W w' I ((g, .cells (setMany cs off cells.toList) t (0, 0)) :: F) → K (a.put o.dst undef) w') : o.wp P a w K Q :=
  wp_store_mid ty x y ho g off cells hx hy (fun j hj => ⟨by rw [hst.cell (g := g) (cs := cs) (t := t) (fr := (0, 0)) (by simp)]; simp; omega, hst.frozen (g := g) (cs := cs) (t := t) (by simp) _⟩) hi h1 (h _ (St.setCells _ _ _ _ hst))
set_option maxRecDepth 100000 in
set_option maxHeartbeats 8000000 in
theorem slot_parse (sv : SV W I) (t : ByteArray) (hs : t.size ≤ 1000000000) (h : St W w I F) :
    Calls Tryd.prog 41 #[.string t] w (SPost W I F (parseS t)) := by
  have h0 := h.alloc (.cells zS.cells 26)
  rw [show zS.cells = #[.int .i64 0, .int .i64 0, .int .u64 0, .int .i64 0, .int .u8 0, .int .u8 0, .int .u8 0, .int .u8 0, .int .u8 0, .int .u8 0, .int .u8 0, .int .u8 0, .int .u8 0, .int .u8 0, .int .u8 0, .int .u8 0, .int .u8 0, .int .u8 0, .int .u8 0, .int .u8 0, .int .u8 0, .int .u8 0, .int .u8 0, .int .u8 0, .int .u8 0, .int .u8 0, .int .u8 0, .int .u8 0, .int .u8 0, .int .u8 0, .int .u8 0, .int .u8 0, .int .u8 0, .int .u8 0, .int .u8 0, .int .u8 0] from bare_lit 0 ▸ rfl] at h0
  obtain ⟨b, hb⟩ : ∃ b, w.heap.size = b := ⟨_, rfl⟩
  rw [hb] at h0
  have kS := slot_split t hs h0
  have hsz := splG_size t (runesOf t) 0
  have hsne := splG_ne t (runesOf t) 0
  have hpv := parseS.eq_1 t
  obtain ⟨ws, hws⟩ : ∃ ws, splO t = ws := ⟨_, rfl⟩
  rw [show splG t (runesOf t) 0 = splO t from rfl, hws] at hsz hsne
  rw [hws] at kS hpv
  have HPV0 := Lib.hid hpv; have KS := Lib.hid kS; have SVV := Lib.hid sv
  have hszk : ∀ k, (ws.getD k ⟨#[]⟩).size ≤ 1000000000 := fun k => by
    rw [List.getD_eq_getElem?_getD]
    cases hk : ws[k]? with
    | none => exact Nat.zero_le _
    | some x => exact Nat.le_trans (hsz x (List.mem_of_getElem? hk)) hs
  have HSZ := Lib.hid hszk
  clear h0 h hws hpv kS sv hsz hszk
  go_enter Tryd.func41, Tryd.ntmps41
  go_wp2_with fail
  refine KS.out.mono ?_
  rintro e w1 ⟨A, c, L', rfl, hrow, h1⟩
  obtain ⟨J, g, off, hle, rfl, h2, hcl⟩ := strs_freeze hsne hrow h1
  have hn1 : 1 ≤ ws.length := by
    cases ws with
    | nil => exact absurd rfl hsne
    | cons x y => simp
  have hcl2 : ∀ j, j < ws.length → roCell J ⟨g, off + j, none⟩ = some (.string (ws.getD j ⟨#[]⟩)) := fun j hj => hcl j _ (by rw [List.getD_eq_getElem?_getD, List.getElem?_eq_getElem hj]; rfl)
  have svJ := SVV.out.more hle
  have hx := h2.drew1
  have H2U := Lib.hid h2
  have SVJ := Lib.hid svJ; have HLE := Lib.hid hle; have HCL := Lib.hid hcl2
  clear hrow h1 hsne hle hcl hcl2 svJ KS hb SVV h2
  obtain ⟨x0, hx0⟩ : ∃ x0, ws.getD 0 ⟨#[]⟩ = x0 := ⟨_, rfl⟩
  have HX0 := Lib.hid hx0
  clear hx0
  have sx : ∀ v F, St W v J F → v.cell? ⟨g, off, none⟩ = some (.string x0) := fun v F hv => by
    have := hv.ro (HCL.out 0 (by omega))
    rw [HX0.out] at this
    exact this
  have kI : ∀ v F, St W v J F → Calls Tryd.prog 75 #[.slice (some ⟨0, 0, none⟩) 5 5, .string x0] v fun e w' => e = .returned (.int .i64 (wIdx x0)) ∧ St W w' J F := fun v F hv => by
    refine (Tryd.slices_Index_string 0 0 5 5 wordsB x0 v (by decide) (by decide) (fun j hj => ?_)).mono fun e w' ⟨he, hw⟩ => ⟨he, hw ▸ hv⟩
    rw [Nat.zero_add]
    have hj5 : j < 5 := hj
    have hwz : wordsL[j]? = some (wordsL[j]'hj5) := List.getElem?_eq_getElem hj5
    rw [hv.ro (SVJ.out.words j _ hwz)]
    unfold wordsB
    rw [List.getD_eq_getElem?_getD, List.getElem?_map, hwz]
    rfl
  have hwi := wIdx_range x0
  obtain ⟨ix, hix⟩ : ∃ ix, wIdx x0 = ix := ⟨_, rfl⟩
  rw [hix] at kI hwi
  have SX := Lib.hid sx; have KI := Lib.hid kI; have HIXX := Lib.hid hix
  have hbw : w1.heap.size = w1.heap.size := rfl
  clear sx kI hix hbw
  have hul : ∀ W', (Instr.sliceAt 85 (.pointer (some ⟨0, 0, none⟩)) none none none).run Tryd.prog W' = .ok (.slice (some ⟨0, 0, none⟩) 5 5) W' := fun W' => by
    kernel_rfl
  have hlen : (0 : Nat) < ws.length := by omega
  have hlen' : (0 : Int) < (ws.length : Int) := by omega
  obtain ⟨hfit, hsm⟩ := slot_fit (s := zS) (t := bareS ix) zeros_len zeros_len
  have hone := Slt.one (bareS ix)
  have hix := slot_info (s := bareS ix) zeros_len
  rw [show zS.cells = #[.int .i64 0, .int .i64 0, .int .u64 0, .int .i64 0, .int .u8 0, .int .u8 0, .int .u8 0, .int .u8 0, .int .u8 0, .int .u8 0, .int .u8 0, .int .u8 0, .int .u8 0, .int .u8 0, .int .u8 0, .int .u8 0, .int .u8 0, .int .u8 0, .int .u8 0, .int .u8 0, .int .u8 0, .int .u8 0, .int .u8 0, .int .u8 0, .int .u8 0, .int .u8 0, .int .u8 0, .int .u8 0, .int .u8 0, .int .u8 0, .int .u8 0, .int .u8 0, .int .u8 0, .int .u8 0, .int .u8 0, .int .u8 0] from bare_lit 0 ▸ rfl] at hfit hsm
  have HXC := Lib.hid (bare_lit ix)
  rw [← bare_lit] at hone hix hfit hsm
  have HFIT := Lib.hid hfit; have HSM := Lib.hid hsm; have HIX := Lib.hid hix; have HONE := Lib.hid hone
  clear hfit hsm hone hix
  go_upto_region 2 with fail
  go_cut [5] (fun s5 wx => ∃ b5, s5 = .pointer (some ⟨b5, 0, none⟩) ∧ St W wx J ((b5, .cells (bareS ix).cells 26 (0, 0)) :: (b, .cells #[.int .i64 0, .int .i64 0, .int .u64 0, .int .i64 0, .int .u8 0, .int .u8 0, .int .u8 0, .int .u8 0, .int .u8 0, .int .u8 0, .int .u8 0, .int .u8 0, .int .u8 0, .int .u8 0, .int .u8 0, .int .u8 0, .int .u8 0, .int .u8 0, .int .u8 0, .int .u8 0, .int .u8 0, .int .u8 0, .int .u8 0, .int .u8 0, .int .u8 0, .int .u8 0, .int .u8 0, .int .u8 0, .int .u8 0, .int .u8 0, .int .u8 0, .int .u8 0, .int .u8 0, .int .u8 0, .int .u8 0, .int .u8 0] 26 (0, 0)) :: F))
  case first =>
    refine wp_region_held_drew (S := fun v => v.cell? ⟨g, off, none⟩ = some (.string x0)) (by kernel_rfl) (SX.out _ _ hx) (fun hHeld => ?_)
    refine wpAnyH_take (i := 0) (oi := ?_) (v := ?_) ?_ ?_ ?_ ?_ ?_ ?_ ?_ ?_
    rotate_left 2
    · (simp only [List.getElem?_toArray, List.getElem?_cons_succ, List.getElem?_cons_zero]; exact rfl)
    · kernel_rfl
    · kernel_rfl
    · kernel_rfl
    · exact fun _ _ _ h => h
    · first | (refine Or.inl ⟨by rfl, ?_⟩; intro w hSw; (try dsimp only at hSw); go_simp; try with_reducible rfl) | (refine Or.inr ⟨by rfl, ?_⟩; rfl)
    · assumption
    try simp only [Act.put, List.setIfInBounds_toArray, List.set_cons_zero, List.set_cons_succ]
    refine wpAnyH_take (i := 1) (oi := ?_) (v := ?_) ?_ ?_ ?_ ?_ ?_ ?_ ?_ ?_
    rotate_left 2
    · (simp only [List.getElem?_toArray, List.getElem?_cons_succ, List.getElem?_cons_zero]; exact rfl)
    · kernel_rfl
    · kernel_rfl
    · kernel_rfl
    · exact fun _ _ _ h => h
    · first | (refine Or.inl ⟨by rfl, ?_⟩; intro w hSw; (try dsimp only at hSw); go_simp; try with_reducible rfl) | (refine Or.inr ⟨by rfl, ?_⟩; rfl)
    · assumption
    try simp only [Act.put, List.setIfInBounds_toArray, List.set_cons_zero, List.set_cons_succ]
    refine wpAnyH_take (i := 2) (oi := ?_) (v := ?_) ?_ ?_ ?_ ?_ ?_ ?_ ?_ ?_
    rotate_left 2
    · (simp only [List.getElem?_toArray, List.getElem?_cons_succ, List.getElem?_cons_zero]; exact rfl)
    · kernel_rfl
    · kernel_rfl
    · kernel_rfl
    · exact fun _ _ _ h => h
    · first | (refine Or.inl ⟨by rfl, ?_⟩; intro w hSw; (try dsimp only at hSw); go_simp; try with_reducible rfl) | (refine Or.inr ⟨by rfl, ?_⟩; rfl)
    · assumption
    try simp only [Act.put, List.setIfInBounds_toArray, List.set_cons_zero, List.set_cons_succ]
    refine wpAnyH_take (i := 3) (oi := ?_) (v := ?_) ?_ ?_ ?_ ?_ ?_ ?_ ?_ ?_
    rotate_left 2
    · (simp only [List.getElem?_toArray, List.getElem?_cons_succ, List.getElem?_cons_zero]; exact rfl)
    · kernel_rfl
    · kernel_rfl
    · kernel_rfl
    · exact fun _ _ _ h => h
    · first | ((refine Or.inl ⟨by rfl, ?_⟩; intro w hSw; go_simp; try with_reducible rfl)) | (refine Or.inr ⟨by rfl, ?_⟩; rfl)
    · assumption
    try simp only [Act.put, List.setIfInBounds_toArray, List.set_cons_zero, List.set_cons_succ]
    refine wpAnyH_ready (rs := [4, 6]) (by kernel_rfl) (by simp) ?_
    refine AllReadyH.cons (o := ?_) ?_ (fun K hK => ?_) ?_
    rotate_left 1
    · (simp only [List.getElem?_toArray, List.getElem?_cons_succ, List.getElem?_cons_zero]; exact rfl)
    · go_simp
      (first | (go_at_call 75; (with_reducible refine (KI.out _ _ hx).mono ?_); rintro e wx ⟨rfl, hx⟩; dsimp only) | (go_at_call 75; (with_reducible refine (KI.out _ _ ((H2U.out.alloc (.cells #[.int .i64 0, .int .i64 0, .int .u64 0, .int .i64 0, .int .u8 0, .int .u8 0, .int .u8 0, .int .u8 0, .int .u8 0, .int .u8 0, .int .u8 0, .int .u8 0, .int .u8 0, .int .u8 0, .int .u8 0, .int .u8 0, .int .u8 0, .int .u8 0, .int .u8 0, .int .u8 0, .int .u8 0, .int .u8 0, .int .u8 0, .int .u8 0, .int .u8 0, .int .u8 0, .int .u8 0, .int .u8 0, .int .u8 0, .int .u8 0, .int .u8 0, .int .u8 0, .int .u8 0, .int .u8 0, .int .u8 0, .int .u8 0] 26)).drew1)).mono ?_); rintro e wx ⟨rfl, hx⟩; dsimp only))
      refine hK.out _ _ ?_ (fun hHeld => ?_)
      · (try dsimp only) <;> (first | exact SX.out _ _ hx | exact SX.out _ _ (hx.alloc _) | exact SX.out _ _ ((H2U.out.alloc _).drew1) | exact SX.out _ _ h9)
      clear hK K
      try simp only [Act.put, List.setIfInBounds_toArray, List.set_cons_zero, List.set_cons_succ]
      refine wpAnyH_take (i := 5) (oi := ?_) (v := ?_) ?_ ?_ ?_ ?_ ?_ ?_ ?_ ?_
      rotate_left 2
      · (simp only [List.getElem?_toArray, List.getElem?_cons_succ, List.getElem?_cons_zero]; exact rfl)
      · kernel_rfl
      · kernel_rfl
      · kernel_rfl
      · exact fun _ _ _ h => h
      · first | (refine Or.inl ⟨by rfl, ?_⟩; intro w hSw; (try dsimp only at hSw); go_simp; try with_reducible rfl) | (refine Or.inr ⟨by rfl, ?_⟩; rfl)
      · assumption
      try simp only [Act.put, List.setIfInBounds_toArray, List.set_cons_zero, List.set_cons_succ]
      refine wpAnyH_ready (rs := [6]) (by kernel_rfl) (by simp) ?_
      refine AllReadyH.cons (o := ?_) ?_ (fun K hK => ?_) ?_
      rotate_left 1
      · (simp only [List.getElem?_toArray, List.getElem?_cons_succ, List.getElem?_cons_zero]; exact rfl)
      · go_simp
        refine hK.out _ _ ?_ (fun hHeld => ?_)
        · (try dsimp only) <;> (first | exact SX.out _ _ hx | exact SX.out _ _ (hx.alloc _) | exact SX.out _ _ ((H2U.out.alloc _).drew1) | exact SX.out _ _ h9)
        clear hK K
        try simp only [Act.put, List.setIfInBounds_toArray, List.set_cons_zero, List.set_cons_succ]
        refine wpAnyH_ready (rs := [7]) (by kernel_rfl) (by simp) ?_
        refine AllReadyH.cons (o := ?_) ?_ (fun K hK => ?_) ?_
        rotate_left 1
        · (simp only [List.getElem?_toArray, List.getElem?_cons_succ, List.getElem?_cons_zero]; exact rfl)
        · ((rw [if_pos (by rfl)]; first | (refine wp_store_st 26 (.tmp 5) (.tmp 13) rfl #[.int .i64 ix, .int .i64 0, .int .u64 0, .int .i64 0, .int .u8 0, .int .u8 0, .int .u8 0, .int .u8 0, .int .u8 0, .int .u8 0, .int .u8 0, .int .u8 0, .int .u8 0, .int .u8 0, .int .u8 0, .int .u8 0, .int .u8 0, .int .u8 0, .int .u8 0, .int .u8 0, .int .u8 0, .int .u8 0, .int .u8 0, .int .u8 0, .int .u8 0, .int .u8 0, .int .u8 0, .int .u8 0, .int .u8 0, .int .u8 0, .int .u8 0, .int .u8 0, .int .u8 0, .int .u8 0, .int .u8 0, .int .u8 0] rfl rfl hx HFIT.out HIX.out HONE.out ?_; intro w9 h9) | (refine wp_store_st 26 (.tmp 5) (.tmp 13) rfl #[.int .i64 ix, .int .i64 0, .int .u64 0, .int .i64 0, .int .u8 0, .int .u8 0, .int .u8 0, .int .u8 0, .int .u8 0, .int .u8 0, .int .u8 0, .int .u8 0, .int .u8 0, .int .u8 0, .int .u8 0, .int .u8 0, .int .u8 0, .int .u8 0, .int .u8 0, .int .u8 0, .int .u8 0, .int .u8 0, .int .u8 0, .int .u8 0, .int .u8 0, .int .u8 0, .int .u8 0, .int .u8 0, .int .u8 0, .int .u8 0, .int .u8 0, .int .u8 0, .int .u8 0, .int .u8 0, .int .u8 0, .int .u8 0] rfl rfl (hx.alloc (.cells #[.int .i64 0, .int .i64 0, .int .u64 0, .int .i64 0, .int .u8 0, .int .u8 0, .int .u8 0, .int .u8 0, .int .u8 0, .int .u8 0, .int .u8 0, .int .u8 0, .int .u8 0, .int .u8 0, .int .u8 0, .int .u8 0, .int .u8 0, .int .u8 0, .int .u8 0, .int .u8 0, .int .u8 0, .int .u8 0, .int .u8 0, .int .u8 0, .int .u8 0, .int .u8 0, .int .u8 0, .int .u8 0, .int .u8 0, .int .u8 0, .int .u8 0, .int .u8 0, .int .u8 0, .int .u8 0, .int .u8 0, .int .u8 0] 26)) HFIT.out HIX.out HONE.out ?_; intro w9 h9)))
          refine hK.out _ _ ?_ (fun hHeld => ?_)
          · (try dsimp only) <;> (first | exact SX.out _ _ hx | exact SX.out _ _ (hx.alloc _) | exact SX.out _ _ ((H2U.out.alloc _).drew1) | exact SX.out _ _ h9)
          clear hK K
          try simp only [Act.put, List.setIfInBounds_toArray, List.set_cons_zero, List.set_cons_succ]
          refine wpAnyH_done (by kernel_rfl) ?_ _
          rw [HSM.out, HXC.out] at h9
          go_wp2_with fail
          go_meet
          exact ⟨_, rfl, h9⟩
        exact AllReadyH.nil
      exact AllReadyH.nil
    refine AllReadyH.cons (o := ?_) ?_ (fun K hK => ?_) ?_
    rotate_left 1
    · (simp only [List.getElem?_toArray, List.getElem?_cons_succ, List.getElem?_cons_zero]; exact rfl)
    · go_simp
      refine hK.out _ _ ?_ (fun hHeld => ?_)
      · (try dsimp only) <;> (first | exact SX.out _ _ hx | exact SX.out _ _ (hx.alloc _) | exact SX.out _ _ ((H2U.out.alloc _).drew1) | exact SX.out _ _ h9)
      clear hK K
      try simp only [Act.put, List.setIfInBounds_toArray, List.set_cons_zero, List.set_cons_succ]
      refine wpAnyH_ready (rs := [4]) (by kernel_rfl) (by simp) ?_
      refine AllReadyH.cons (o := ?_) ?_ (fun K hK => ?_) ?_
      rotate_left 1
      · (simp only [List.getElem?_toArray, List.getElem?_cons_succ, List.getElem?_cons_zero]; exact rfl)
      · go_simp
        (first | (go_at_call 75; (with_reducible refine (KI.out _ _ hx).mono ?_); rintro e wx ⟨rfl, hx⟩; dsimp only) | (go_at_call 75; (with_reducible refine (KI.out _ _ ((H2U.out.alloc (.cells #[.int .i64 0, .int .i64 0, .int .u64 0, .int .i64 0, .int .u8 0, .int .u8 0, .int .u8 0, .int .u8 0, .int .u8 0, .int .u8 0, .int .u8 0, .int .u8 0, .int .u8 0, .int .u8 0, .int .u8 0, .int .u8 0, .int .u8 0, .int .u8 0, .int .u8 0, .int .u8 0, .int .u8 0, .int .u8 0, .int .u8 0, .int .u8 0, .int .u8 0, .int .u8 0, .int .u8 0, .int .u8 0, .int .u8 0, .int .u8 0, .int .u8 0, .int .u8 0, .int .u8 0, .int .u8 0, .int .u8 0, .int .u8 0] 26)).drew1)).mono ?_); rintro e wx ⟨rfl, hx⟩; dsimp only))
        refine hK.out _ _ ?_ (fun hHeld => ?_)
        · (try dsimp only) <;> (first | exact SX.out _ _ hx | exact SX.out _ _ (hx.alloc _) | exact SX.out _ _ ((H2U.out.alloc _).drew1) | exact SX.out _ _ h9)
        clear hK K
        try simp only [Act.put, List.setIfInBounds_toArray, List.set_cons_zero, List.set_cons_succ]
        refine wpAnyH_take (i := 5) (oi := ?_) (v := ?_) ?_ ?_ ?_ ?_ ?_ ?_ ?_ ?_
        rotate_left 2
        · (simp only [List.getElem?_toArray, List.getElem?_cons_succ, List.getElem?_cons_zero]; exact rfl)
        · kernel_rfl
        · kernel_rfl
        · kernel_rfl
        · exact fun _ _ _ h => h
        · first | (refine Or.inl ⟨by rfl, ?_⟩; intro w hSw; (try dsimp only at hSw); go_simp; try with_reducible rfl) | (refine Or.inr ⟨by rfl, ?_⟩; rfl)
        · assumption
        try simp only [Act.put, List.setIfInBounds_toArray, List.set_cons_zero, List.set_cons_succ]
        refine wpAnyH_ready (rs := [7]) (by kernel_rfl) (by simp) ?_
        refine AllReadyH.cons (o := ?_) ?_ (fun K hK => ?_) ?_
        rotate_left 1
        · (simp only [List.getElem?_toArray, List.getElem?_cons_succ, List.getElem?_cons_zero]; exact rfl)
        · ((rw [if_pos (by rfl)]; first | (refine wp_store_st 26 (.tmp 5) (.tmp 13) rfl #[.int .i64 ix, .int .i64 0, .int .u64 0, .int .i64 0, .int .u8 0, .int .u8 0, .int .u8 0, .int .u8 0, .int .u8 0, .int .u8 0, .int .u8 0, .int .u8 0, .int .u8 0, .int .u8 0, .int .u8 0, .int .u8 0, .int .u8 0, .int .u8 0, .int .u8 0, .int .u8 0, .int .u8 0, .int .u8 0, .int .u8 0, .int .u8 0, .int .u8 0, .int .u8 0, .int .u8 0, .int .u8 0, .int .u8 0, .int .u8 0, .int .u8 0, .int .u8 0, .int .u8 0, .int .u8 0, .int .u8 0, .int .u8 0] rfl rfl hx HFIT.out HIX.out HONE.out ?_; intro w9 h9) | (refine wp_store_st 26 (.tmp 5) (.tmp 13) rfl #[.int .i64 ix, .int .i64 0, .int .u64 0, .int .i64 0, .int .u8 0, .int .u8 0, .int .u8 0, .int .u8 0, .int .u8 0, .int .u8 0, .int .u8 0, .int .u8 0, .int .u8 0, .int .u8 0, .int .u8 0, .int .u8 0, .int .u8 0, .int .u8 0, .int .u8 0, .int .u8 0, .int .u8 0, .int .u8 0, .int .u8 0, .int .u8 0, .int .u8 0, .int .u8 0, .int .u8 0, .int .u8 0, .int .u8 0, .int .u8 0, .int .u8 0, .int .u8 0, .int .u8 0, .int .u8 0, .int .u8 0, .int .u8 0] rfl rfl (hx.alloc (.cells #[.int .i64 0, .int .i64 0, .int .u64 0, .int .i64 0, .int .u8 0, .int .u8 0, .int .u8 0, .int .u8 0, .int .u8 0, .int .u8 0, .int .u8 0, .int .u8 0, .int .u8 0, .int .u8 0, .int .u8 0, .int .u8 0, .int .u8 0, .int .u8 0, .int .u8 0, .int .u8 0, .int .u8 0, .int .u8 0, .int .u8 0, .int .u8 0, .int .u8 0, .int .u8 0, .int .u8 0, .int .u8 0, .int .u8 0, .int .u8 0, .int .u8 0, .int .u8 0, .int .u8 0, .int .u8 0, .int .u8 0, .int .u8 0] 26)) HFIT.out HIX.out HONE.out ?_; intro w9 h9)))
          refine hK.out _ _ ?_ (fun hHeld => ?_)
          · (try dsimp only) <;> (first | exact SX.out _ _ hx | exact SX.out _ _ (hx.alloc _) | exact SX.out _ _ ((H2U.out.alloc _).drew1) | exact SX.out _ _ h9)
          clear hK K
          try simp only [Act.put, List.setIfInBounds_toArray, List.set_cons_zero, List.set_cons_succ]
          refine wpAnyH_done (by kernel_rfl) ?_ _
          rw [HSM.out, HXC.out] at h9
          go_wp2_with fail
          go_meet
          exact ⟨_, rfl, h9⟩
        exact AllReadyH.nil
      exact AllReadyH.nil
    exact AllReadyH.nil
  case rest =>
    obtain ⟨b5, rfl, h2⟩ := hcut
    clear HFIT HSM HIX HONE KI SX hul hlen hlen' HXC H2U hx
    have kF := fun (v : World) (F : List (Nat × Obj)) (hv : St W v J F) => slot_full (bareS ix) (bareS_ok ix (by omega) (by omega)) hv
    have HMI0 := Lib.hid (slot_info (s := bareS ix) zeros_len)
    have H2 := Lib.hid h2
    have hps := pS.eq_1 ws
    rw [HX0.out, HIXX.out] at hps
    unfold Slt.val at kF
    by_cases kf : ix = 2 ∨ ix = 3
    · have hF : fullS (bareS ix) = true := by
        rcases kf with kf | kf
        · rw [kf]; rfl
        · rw [kf]; rfl
      rw [hF] at kF
      by_cases k4 : 4 ≤ ws.length
      · rw [if_pos ⟨kf, k4⟩] at hps
        have k4' : (4 : Int) ≤ (ws.length : Int) := by omega
        have KF := Lib.hid kF
        obtain ⟨x1, hx1⟩ : ∃ x, ws.getD 1 ⟨#[]⟩ = x := ⟨_, rfl⟩
        obtain ⟨x2, hx2⟩ : ∃ x, ws.getD 2 ⟨#[]⟩ = x := ⟨_, rfl⟩
        obtain ⟨x3, hx3⟩ : ∃ x, ws.getD 3 ⟨#[]⟩ = x := ⟨_, rfl⟩
        obtain ⟨x4, hx4⟩ : ∃ x, ws.getD 4 ⟨#[]⟩ = x := ⟨_, rfl⟩
        rw [hx1, hx2, hx3, hx4] at hps
        have s1 := HSZ.out 1
        have s2 := HSZ.out 2
        have s3 := HSZ.out 3
        have s4 := HSZ.out 4
        rw [hx1] at s1
        rw [hx2] at s2
        rw [hx3] at s3
        rw [hx4] at s4
        have y1 := HCL.out 1 (by omega)
        have y2 := HCL.out 2 (by omega)
        have y3 := HCL.out 3 (by omega)
        rw [hx1] at y1
        rw [hx2] at y2
        rw [hx3] at y3
        have Y1 := Lib.hid y1; have Y2 := Lib.hid y2; have Y3 := Lib.hid y3
        have kn1 := fun (v : World) (F : List (Nat × Obj)) (hv : St W v J F) => slot_number SVJ.out.ev x1 s1 hv
        have kn2 := fun (v : World) (F : List (Nat × Obj)) (hv : St W v J F) => slot_number SVJ.out.ev x2 s2 hv
        have kn4 := fun (v : World) (F : List (Nat × Obj)) (hv : St W v J F) => slot_number SVJ.out.ev x4 s4 hv
        have kp3 := fun (v : World) (F : List (Nat × Obj)) (hv : St W v J F) => parse_any x3 (by omega) hv
        have m1 := numO_le x1
        have m2 := numO_le x2
        have m4 := numO_le x4
        have e2 : min (numO x2 : Int) 65537 = ((min (numO x2) 65537 : Nat) : Int) := by omega
        have e4 : min (numO x4 : Int) 8 = ((min (numO x4) 8 : Nat) : Int) := by omega
        have e2' : IntKind.i64.wrap ((min (numO x2) 65537 : Nat) : Int) = ((min (numO x2) 65537 : Nat) : Int) := IntWalk.i64_in _ (by omega)
        have e4' : IntKind.i64.wrap ((min (numO x4) 8 : Nat) : Int) = ((min (numO x4) 8 : Nat) : Int) := IntWalk.i64_in _ (by omega)
        generalize numO x1 = n1 at *
        generalize numO x2 = n2 at *
        generalize numO x4 = n4 at *
        have HPS := Lib.hid hps; have KN1 := Lib.hid kn1; have KN2 := Lib.hid kn2; have KN4 := Lib.hid kn4; have KP3 := Lib.hid kp3; have X4 := Lib.hid hx4
        clear hps kn1 kn2 kn4 kp3 hx1 hx2 hx3 hx4 y1 y2 y3 h2 kF hF kf
        go_wp2_with (with_reducible refine wpList_load_st rfl 26 (.tmp 5) rfl (g := b5) (off := 0) rfl H2.out (cs := (bareS ix).cells) (t := 26) (fr := (0, 0)) (by simp) (bareS ix).cells (fun j hj => by rw [Nat.zero_add]) _ Tryd.underlying26 rfl HMI0.out ?_)
        refine (KF.out _ _ H2.out).mono ?_
        rintro e w3 ⟨rfl, h3⟩
        have d1 := h3.ro Y1.out
        have H3 := Lib.hid h3
        clear h3 H2 KF
        go_wp2_with fail
        refine (KN1.out _ _ H3.out).mono ?_
        rintro e w4 ⟨rfl, h4⟩
        have g4 := St.set (A := []) h4 2 (.int .u64 (n1 : Int))
        rw [List.nil_append, Slt.set2] at g4
        have f2 := h4.frozen (g := b5) (cs := (bareS ix).cells) (t := 26) (by simp) 2
        have c2 := h4.slt.2.2.1
        have d2 := g4.ro Y2.out
        have H4 := Lib.hid g4
        clear h4 H3 KN1 d1 g4
        go_wp2_with fail
        refine (KN2.out _ _ H4.out).mono ?_
        rintro e w5 ⟨rfl, h5⟩
        clear c2 f2 d2
        have g5 := St.set (A := []) h5 3 (.int .i64 ((min n2 65537 : Nat) : Int))
        rw [List.nil_append, Slt.set3] at g5
        have f3 := h5.frozen (g := b5) (cs := ({ bareS ix with ver := n1 } : Slt).cells) (t := 26) (by simp) 3
        have c3 := h5.slt.2.2.2
        have d3 := g5.ro Y3.out
        have H5 := Lib.hid g5
        clear h5 H4 KN2 g5
        go_wp2_with fail
        refine (KP3.out _ _ H5.out).mono ?_
        rintro e w6 ⟨rfl, h6⟩
        clear c3 f3 d3
        obtain ⟨q1, q2⟩ := Slt.set4 ({ bareS ix with ver := n1, sz := ((min n2 65537 : Nat) : Int) } : Slt) (pOut x3.data.toList) zeros_len (pOut_len _)
        have q3 : (Tryd.prog.info? 24).map (·.size) = some (bcells (pOut x3.data.toList)).size := by rw [bcells_size, pOut_len]; kernel_rfl
        have q4 := bcells_one (pOut x3.data.toList)
        have hdl := pOut_len x3.data.toList
        generalize pOut x3.data.toList = dg at *
        have H6 := Lib.hid h6; have Q1 := Lib.hid q1; have Q2 := Lib.hid q2; have Q3 := Lib.hid q3; have Q4 := Lib.hid q4
        clear h6 H5 KP3 q1 q2 q3 q4
        go_wp2_with (with_reducible refine wpList_store_st rfl 24 (.tmp 40) (.tmp 38) rfl (g := b5) (off := 4) (bcells dg) rfl rfl H6.out Q2.out Q3.out Q4.out ?_; intro w7 h7; refine Hid.out ?_)
        refine Lib.hid ?_
        rw [Q1.out] at h7
        by_cases k5 : ws.length = 5
        · have k5' : ((ws.length : Int) == 5) = true := by rw [k5]; rfl
          have k6 : (4 : Int) < (ws.length : Int) := by omega
          have k7 : 4 < ws.length := by omega
          have y4 := HCL.out 4 (by omega)
          rw [X4.out] at y4
          have d4 := h7.ro y4
          have H7 := Lib.hid h7
          have hps := HPS.out
          rw [if_pos k5] at hps
          clear h7 H6 y4 HPS Q1 Q2 Q3 Q4 k5
          go_wp2_with fail
          refine (KN4.out _ _ H7.out).mono ?_
          rintro e w8 ⟨rfl, h8⟩
          clear d4
          have g8 := St.set (A := []) h8 1 (.int .i64 ((min n4 8 : Nat) : Int))
          rw [List.nil_append, Slt.set1] at g8
          have f1 := h8.frozen (g := b5) (cs := ({ bareS ix with ver := n1, sz := ((min n2 65537 : Nat) : Int), dig := dg } : Slt).cells) (t := 26) (by simp) 1
          have c1 := h8.slt.2.1
          have ok := pS_ok ws
          obtain ⟨s, hs5⟩ : ∃ s, pS ws = s := ⟨_, rfl⟩
          have hpv := HPV0.out
          rw [hs5] at hpv ok hps
          rw [show ({ bareS ix with ver := n1, sz := ((min n2 65537 : Nat) : Int), dig := dg, tr := ((min n4 8 : Nat) : Int) } : Slt) = s from hps.symm] at g8
          have H4 := Lib.hid g8; have HPV := Lib.hid hpv
          clear h8 g8 hs5 hpv HPV0 KN4 H7 hps
          have kR := fun (v : World) (F : List (Nat × Obj)) (hv : St W v J F) => slot_right s ok hv
          have kX := fun (v : World) (F : List (Nat × Obj)) (hv : St W v J F) => slot_text SVJ.out s ok hv
          have HD := Lib.hid ok.dig
          have HMI := Lib.hid (slot_info ok.dig)
          unfold Slt.val at kR kX
          clear ok

          cases hR : rightS s with
          | false =>
            rw [hR] at kR
            have hv : parseS t = (zS, 101) := by rw [HPV.out, hR]; rfl
            have HV := Lib.hid hv; have KR := Lib.hid kR
            clear hv kR kX hR
            go_wp2_with (with_reducible refine wpList_load_st rfl 26 (.tmp 5) rfl (g := b5) (off := 0) rfl H4.out (cs := s.cells) (t := 26) (fr := (0, 0)) (by simp) s.cells (fun j hj => by rw [Nat.zero_add]) _ Tryd.underlying26 rfl HMI.out ?_)
            refine (KR.out _ _ H4.out).mono ?_
            rintro e w5 ⟨rfl, h5⟩
            have H5 := Lib.hid h5
            clear h5 H4 KR
            obtain ⟨hfit, hsm⟩ := slot_fit (s := zS) (t := zS) zeros_len zeros_len
            have hix := slot_info (s := zS) zeros_len
            have hone := Slt.one zS
            have hzl : zS.cells = #[.int .i64 0, .int .i64 0, .int .u64 0, .int .i64 0, .int .u8 0, .int .u8 0, .int .u8 0, .int .u8 0, .int .u8 0, .int .u8 0, .int .u8 0, .int .u8 0, .int .u8 0, .int .u8 0, .int .u8 0, .int .u8 0, .int .u8 0, .int .u8 0, .int .u8 0, .int .u8 0, .int .u8 0, .int .u8 0, .int .u8 0, .int .u8 0, .int .u8 0, .int .u8 0, .int .u8 0, .int .u8 0, .int .u8 0, .int .u8 0, .int .u8 0, .int .u8 0, .int .u8 0, .int .u8 0, .int .u8 0, .int .u8 0] := bare_lit 0 ▸ rfl
            rw [hzl] at hfit hsm hix hone
            have HFIT := Lib.hid hfit; have HSM := Lib.hid hsm; have HIX := Lib.hid hix; have HONE := Lib.hid hone; have HZL := Lib.hid hzl
            clear hfit hsm hix hone hzl
            have HP := Lib.hid (H5.out.perm (List.Perm.swap _ _ _))
            go_wp2_with (with_reducible refine wpList_store_st rfl 26 (.tmp 2) (.tmp 60) rfl (g := b) (off := 0) #[.int .i64 0, .int .i64 0, .int .u64 0, .int .i64 0, .int .u8 0, .int .u8 0, .int .u8 0, .int .u8 0, .int .u8 0, .int .u8 0, .int .u8 0, .int .u8 0, .int .u8 0, .int .u8 0, .int .u8 0, .int .u8 0, .int .u8 0, .int .u8 0, .int .u8 0, .int .u8 0, .int .u8 0, .int .u8 0, .int .u8 0, .int .u8 0, .int .u8 0, .int .u8 0, .int .u8 0, .int .u8 0, .int .u8 0, .int .u8 0, .int .u8 0, .int .u8 0, .int .u8 0, .int .u8 0, .int .u8 0, .int .u8 0] rfl rfl HP.out HFIT.out HIX.out HONE.out ?_; intro w9 h9; refine Hid.out ?_)
            refine Lib.hid ?_
            rw [HSM.out, ← HZL.out] at h9
            go_wp2_with fail
            refine bodyPost_ret (slot_ret (F := F) h9 zeros_len rfl rfl rfl) rfl ?_
            exact ⟨by rw [HV.out], (St.weaken (A := [_, _]) h9).less HLE.out⟩
          | true =>
            rw [hR] at kR
            cases hE : (textS s == t.data.toList) with
            | false =>
              have hv : parseS t = (zS, 101) := by rw [HPV.out, hR, hE]; rfl
              have hne : ((⟨(textS s).toArray⟩ : ByteArray).toList == t.toList) = false := by rw [ByteArray.toList_eq, ByteArray.toList_eq]; exact hE
              have HV := Lib.hid hv; have KR := Lib.hid kR; have KX := Lib.hid kX
              clear hv kR kX hR hE
              generalize (⟨(textS s).toArray⟩ : ByteArray) = tx at *
              go_wp2_with (with_reducible refine wpList_load_st rfl 26 (.tmp 5) rfl (g := b5) (off := 0) rfl H4.out (cs := s.cells) (t := 26) (fr := (0, 0)) (by simp) s.cells (fun j hj => by rw [Nat.zero_add]) _ Tryd.underlying26 rfl HMI.out ?_)
              refine (KR.out _ _ H4.out).mono ?_
              rintro e w5 ⟨rfl, h5⟩
              have H5 := Lib.hid h5
              clear h5 H4 KR
              go_wp2_with (refine wpList_load_g (by rfl) 26 (.tmp 5) rfl (g := b5) (off := 0) rfl H5.out (cs := s.cells) (t := 26) (fr := (0, 0)) (by simp) s.cells (fun j hj => by rw [Nat.zero_add]) _ Tryd.underlying26 rfl HMI.out ?_)
              refine (KX.out _ _ H5.out).mono ?_
              rintro e w6 ⟨rfl, h6⟩
              have H6 := Lib.hid h6
              clear h6 H5 KX
              obtain ⟨hfit, hsm⟩ := slot_fit (s := zS) (t := zS) zeros_len zeros_len
              have hix := slot_info (s := zS) zeros_len
              have hone := Slt.one zS
              have hzl : zS.cells = #[.int .i64 0, .int .i64 0, .int .u64 0, .int .i64 0, .int .u8 0, .int .u8 0, .int .u8 0, .int .u8 0, .int .u8 0, .int .u8 0, .int .u8 0, .int .u8 0, .int .u8 0, .int .u8 0, .int .u8 0, .int .u8 0, .int .u8 0, .int .u8 0, .int .u8 0, .int .u8 0, .int .u8 0, .int .u8 0, .int .u8 0, .int .u8 0, .int .u8 0, .int .u8 0, .int .u8 0, .int .u8 0, .int .u8 0, .int .u8 0, .int .u8 0, .int .u8 0, .int .u8 0, .int .u8 0, .int .u8 0, .int .u8 0] := bare_lit 0 ▸ rfl
              rw [hzl] at hfit hsm hix hone
              have HFIT := Lib.hid hfit; have HSM := Lib.hid hsm; have HIX := Lib.hid hix; have HONE := Lib.hid hone; have HZL := Lib.hid hzl
              clear hfit hsm hix hone hzl
              have HP := Lib.hid (H6.out.perm (List.Perm.swap _ _ _))
              go_wp2_with (with_reducible refine wpList_store_st rfl 26 (.tmp 2) (.tmp 60) rfl (g := b) (off := 0) #[.int .i64 0, .int .i64 0, .int .u64 0, .int .i64 0, .int .u8 0, .int .u8 0, .int .u8 0, .int .u8 0, .int .u8 0, .int .u8 0, .int .u8 0, .int .u8 0, .int .u8 0, .int .u8 0, .int .u8 0, .int .u8 0, .int .u8 0, .int .u8 0, .int .u8 0, .int .u8 0, .int .u8 0, .int .u8 0, .int .u8 0, .int .u8 0, .int .u8 0, .int .u8 0, .int .u8 0, .int .u8 0, .int .u8 0, .int .u8 0, .int .u8 0, .int .u8 0, .int .u8 0, .int .u8 0, .int .u8 0, .int .u8 0] rfl rfl HP.out HFIT.out HIX.out HONE.out ?_; intro w9 h9; refine Hid.out ?_)
              refine Lib.hid ?_
              rw [HSM.out, ← HZL.out] at h9
              go_wp2_with fail
              refine bodyPost_ret (slot_ret (F := F) h9 zeros_len rfl rfl rfl) rfl ?_
              exact ⟨by rw [HV.out], (St.weaken (A := [_, _]) h9).less HLE.out⟩
            | true =>
              have hv : parseS t = (s, 0) := by rw [HPV.out, hR, hE]; rfl
              have hne : ((⟨(textS s).toArray⟩ : ByteArray).toList == t.toList) = true := by rw [ByteArray.toList_eq, ByteArray.toList_eq]; exact hE
              have HV := Lib.hid hv; have KR := Lib.hid kR; have KX := Lib.hid kX
              clear hv kR kX hR hE
              generalize (⟨(textS s).toArray⟩ : ByteArray) = tx at *
              go_wp2_with (with_reducible refine wpList_load_st rfl 26 (.tmp 5) rfl (g := b5) (off := 0) rfl H4.out (cs := s.cells) (t := 26) (fr := (0, 0)) (by simp) s.cells (fun j hj => by rw [Nat.zero_add]) _ Tryd.underlying26 rfl HMI.out ?_)
              refine (KR.out _ _ H4.out).mono ?_
              rintro e w5 ⟨rfl, h5⟩
              have H5 := Lib.hid h5
              clear h5 H4 KR
              go_wp2_with (refine wpList_load_g (by rfl) 26 (.tmp 5) rfl (g := b5) (off := 0) rfl H5.out (cs := s.cells) (t := 26) (fr := (0, 0)) (by simp) s.cells (fun j hj => by rw [Nat.zero_add]) _ Tryd.underlying26 rfl HMI.out ?_)
              refine (KX.out _ _ H5.out).mono ?_
              rintro e w6 ⟨rfl, h6⟩
              have H6 := Lib.hid h6
              clear h6 H5 KX
              obtain ⟨hfit, hsm⟩ := slot_fit (s := zS) (t := s) zeros_len HD.out
              have hone := Slt.one s
              rw [show zS.cells = #[.int .i64 0, .int .i64 0, .int .u64 0, .int .i64 0, .int .u8 0, .int .u8 0, .int .u8 0, .int .u8 0, .int .u8 0, .int .u8 0, .int .u8 0, .int .u8 0, .int .u8 0, .int .u8 0, .int .u8 0, .int .u8 0, .int .u8 0, .int .u8 0, .int .u8 0, .int .u8 0, .int .u8 0, .int .u8 0, .int .u8 0, .int .u8 0, .int .u8 0, .int .u8 0, .int .u8 0, .int .u8 0, .int .u8 0, .int .u8 0, .int .u8 0, .int .u8 0, .int .u8 0, .int .u8 0, .int .u8 0, .int .u8 0] from bare_lit 0 ▸ rfl] at hfit hsm
              have HFIT := Lib.hid hfit; have HSM := Lib.hid hsm; have HIX := HMI; have HONE := Lib.hid hone
              clear hfit hsm hone
              have HP := Lib.hid (H6.out.perm (List.Perm.swap _ _ _))
              go_wp2_with (first
                | (with_reducible refine wpList_load_st rfl 26 (.tmp 5) rfl (g := b5) (off := 0) rfl H6.out (cs := s.cells) (t := 26) (fr := (0, 0)) (by simp) s.cells (fun j hj => by rw [Nat.zero_add]) _ Tryd.underlying26 rfl HMI.out ?_)
                | (with_reducible refine wpList_store_st rfl 26 (.tmp 2) (.tmp 61) rfl (g := b) (off := 0) s.cells rfl rfl HP.out HFIT.out HIX.out HONE.out ?_; intro w9 h9; refine Hid.out ?_))
              refine Lib.hid ?_
              rw [HSM.out] at h9
              go_wp2_with fail
              refine bodyPost_ret (slot_ret (t := s) (F := F) h9 HD.out rfl rfl rfl) rfl ?_
              exact ⟨by rw [HV.out], (St.weaken (A := [_, _]) h9).less HLE.out⟩
        · have k5' : ((ws.length : Int) == 5) = false := beq_eq_false_iff_ne.2 (by omega)
          have hps := HPS.out
          rw [if_neg k5] at hps
          have ok := pS_ok ws
          obtain ⟨s, hs5⟩ : ∃ s, pS ws = s := ⟨_, rfl⟩
          have hpv := HPV0.out
          rw [hs5] at hpv ok hps
          rw [show ({ bareS ix with ver := n1, sz := ((min n2 65537 : Nat) : Int), dig := dg } : Slt) = s from hps.symm] at h7
          have H4 := Lib.hid h7; have HPV := Lib.hid hpv
          clear h7 hs5 hpv HPV0 KN4 H6 hps k5
          have kR := fun (v : World) (F : List (Nat × Obj)) (hv : St W v J F) => slot_right s ok hv
          have kX := fun (v : World) (F : List (Nat × Obj)) (hv : St W v J F) => slot_text SVJ.out s ok hv
          have HD := Lib.hid ok.dig
          have HMI := Lib.hid (slot_info ok.dig)
          unfold Slt.val at kR kX
          clear ok

          cases hR : rightS s with
          | false =>
            rw [hR] at kR
            have hv : parseS t = (zS, 101) := by rw [HPV.out, hR]; rfl
            have HV := Lib.hid hv; have KR := Lib.hid kR
            clear hv kR kX hR
            go_wp2_with (with_reducible refine wpList_load_st rfl 26 (.tmp 5) rfl (g := b5) (off := 0) rfl H4.out (cs := s.cells) (t := 26) (fr := (0, 0)) (by simp) s.cells (fun j hj => by rw [Nat.zero_add]) _ Tryd.underlying26 rfl HMI.out ?_)
            refine (KR.out _ _ H4.out).mono ?_
            rintro e w5 ⟨rfl, h5⟩
            have H5 := Lib.hid h5
            clear h5 H4 KR
            obtain ⟨hfit, hsm⟩ := slot_fit (s := zS) (t := zS) zeros_len zeros_len
            have hix := slot_info (s := zS) zeros_len
            have hone := Slt.one zS
            have hzl : zS.cells = #[.int .i64 0, .int .i64 0, .int .u64 0, .int .i64 0, .int .u8 0, .int .u8 0, .int .u8 0, .int .u8 0, .int .u8 0, .int .u8 0, .int .u8 0, .int .u8 0, .int .u8 0, .int .u8 0, .int .u8 0, .int .u8 0, .int .u8 0, .int .u8 0, .int .u8 0, .int .u8 0, .int .u8 0, .int .u8 0, .int .u8 0, .int .u8 0, .int .u8 0, .int .u8 0, .int .u8 0, .int .u8 0, .int .u8 0, .int .u8 0, .int .u8 0, .int .u8 0, .int .u8 0, .int .u8 0, .int .u8 0, .int .u8 0] := bare_lit 0 ▸ rfl
            rw [hzl] at hfit hsm hix hone
            have HFIT := Lib.hid hfit; have HSM := Lib.hid hsm; have HIX := Lib.hid hix; have HONE := Lib.hid hone; have HZL := Lib.hid hzl
            clear hfit hsm hix hone hzl
            have HP := Lib.hid (H5.out.perm (List.Perm.swap _ _ _))
            go_wp2_with (with_reducible refine wpList_store_st rfl 26 (.tmp 2) (.tmp 60) rfl (g := b) (off := 0) #[.int .i64 0, .int .i64 0, .int .u64 0, .int .i64 0, .int .u8 0, .int .u8 0, .int .u8 0, .int .u8 0, .int .u8 0, .int .u8 0, .int .u8 0, .int .u8 0, .int .u8 0, .int .u8 0, .int .u8 0, .int .u8 0, .int .u8 0, .int .u8 0, .int .u8 0, .int .u8 0, .int .u8 0, .int .u8 0, .int .u8 0, .int .u8 0, .int .u8 0, .int .u8 0, .int .u8 0, .int .u8 0, .int .u8 0, .int .u8 0, .int .u8 0, .int .u8 0, .int .u8 0, .int .u8 0, .int .u8 0, .int .u8 0] rfl rfl HP.out HFIT.out HIX.out HONE.out ?_; intro w9 h9; refine Hid.out ?_)
            refine Lib.hid ?_
            rw [HSM.out, ← HZL.out] at h9
            go_wp2_with fail
            refine bodyPost_ret (slot_ret (F := F) h9 zeros_len rfl rfl rfl) rfl ?_
            exact ⟨by rw [HV.out], (St.weaken (A := [_, _]) h9).less HLE.out⟩
          | true =>
            rw [hR] at kR
            cases hE : (textS s == t.data.toList) with
            | false =>
              have hv : parseS t = (zS, 101) := by rw [HPV.out, hR, hE]; rfl
              have hne : ((⟨(textS s).toArray⟩ : ByteArray).toList == t.toList) = false := by rw [ByteArray.toList_eq, ByteArray.toList_eq]; exact hE
              have HV := Lib.hid hv; have KR := Lib.hid kR; have KX := Lib.hid kX
              clear hv kR kX hR hE
              generalize (⟨(textS s).toArray⟩ : ByteArray) = tx at *
              go_wp2_with (with_reducible refine wpList_load_st rfl 26 (.tmp 5) rfl (g := b5) (off := 0) rfl H4.out (cs := s.cells) (t := 26) (fr := (0, 0)) (by simp) s.cells (fun j hj => by rw [Nat.zero_add]) _ Tryd.underlying26 rfl HMI.out ?_)
              refine (KR.out _ _ H4.out).mono ?_
              rintro e w5 ⟨rfl, h5⟩
              have H5 := Lib.hid h5
              clear h5 H4 KR
              go_wp2_with (refine wpList_load_g (by rfl) 26 (.tmp 5) rfl (g := b5) (off := 0) rfl H5.out (cs := s.cells) (t := 26) (fr := (0, 0)) (by simp) s.cells (fun j hj => by rw [Nat.zero_add]) _ Tryd.underlying26 rfl HMI.out ?_)
              refine (KX.out _ _ H5.out).mono ?_
              rintro e w6 ⟨rfl, h6⟩
              have H6 := Lib.hid h6
              clear h6 H5 KX
              obtain ⟨hfit, hsm⟩ := slot_fit (s := zS) (t := zS) zeros_len zeros_len
              have hix := slot_info (s := zS) zeros_len
              have hone := Slt.one zS
              have hzl : zS.cells = #[.int .i64 0, .int .i64 0, .int .u64 0, .int .i64 0, .int .u8 0, .int .u8 0, .int .u8 0, .int .u8 0, .int .u8 0, .int .u8 0, .int .u8 0, .int .u8 0, .int .u8 0, .int .u8 0, .int .u8 0, .int .u8 0, .int .u8 0, .int .u8 0, .int .u8 0, .int .u8 0, .int .u8 0, .int .u8 0, .int .u8 0, .int .u8 0, .int .u8 0, .int .u8 0, .int .u8 0, .int .u8 0, .int .u8 0, .int .u8 0, .int .u8 0, .int .u8 0, .int .u8 0, .int .u8 0, .int .u8 0, .int .u8 0] := bare_lit 0 ▸ rfl
              rw [hzl] at hfit hsm hix hone
              have HFIT := Lib.hid hfit; have HSM := Lib.hid hsm; have HIX := Lib.hid hix; have HONE := Lib.hid hone; have HZL := Lib.hid hzl
              clear hfit hsm hix hone hzl
              have HP := Lib.hid (H6.out.perm (List.Perm.swap _ _ _))
              go_wp2_with (with_reducible refine wpList_store_st rfl 26 (.tmp 2) (.tmp 60) rfl (g := b) (off := 0) #[.int .i64 0, .int .i64 0, .int .u64 0, .int .i64 0, .int .u8 0, .int .u8 0, .int .u8 0, .int .u8 0, .int .u8 0, .int .u8 0, .int .u8 0, .int .u8 0, .int .u8 0, .int .u8 0, .int .u8 0, .int .u8 0, .int .u8 0, .int .u8 0, .int .u8 0, .int .u8 0, .int .u8 0, .int .u8 0, .int .u8 0, .int .u8 0, .int .u8 0, .int .u8 0, .int .u8 0, .int .u8 0, .int .u8 0, .int .u8 0, .int .u8 0, .int .u8 0, .int .u8 0, .int .u8 0, .int .u8 0, .int .u8 0] rfl rfl HP.out HFIT.out HIX.out HONE.out ?_; intro w9 h9; refine Hid.out ?_)
              refine Lib.hid ?_
              rw [HSM.out, ← HZL.out] at h9
              go_wp2_with fail
              refine bodyPost_ret (slot_ret (F := F) h9 zeros_len rfl rfl rfl) rfl ?_
              exact ⟨by rw [HV.out], (St.weaken (A := [_, _]) h9).less HLE.out⟩
            | true =>
              have hv : parseS t = (s, 0) := by rw [HPV.out, hR, hE]; rfl
              have hne : ((⟨(textS s).toArray⟩ : ByteArray).toList == t.toList) = true := by rw [ByteArray.toList_eq, ByteArray.toList_eq]; exact hE
              have HV := Lib.hid hv; have KR := Lib.hid kR; have KX := Lib.hid kX
              clear hv kR kX hR hE
              generalize (⟨(textS s).toArray⟩ : ByteArray) = tx at *
              go_wp2_with (with_reducible refine wpList_load_st rfl 26 (.tmp 5) rfl (g := b5) (off := 0) rfl H4.out (cs := s.cells) (t := 26) (fr := (0, 0)) (by simp) s.cells (fun j hj => by rw [Nat.zero_add]) _ Tryd.underlying26 rfl HMI.out ?_)
              refine (KR.out _ _ H4.out).mono ?_
              rintro e w5 ⟨rfl, h5⟩
              have H5 := Lib.hid h5
              clear h5 H4 KR
              go_wp2_with (refine wpList_load_g (by rfl) 26 (.tmp 5) rfl (g := b5) (off := 0) rfl H5.out (cs := s.cells) (t := 26) (fr := (0, 0)) (by simp) s.cells (fun j hj => by rw [Nat.zero_add]) _ Tryd.underlying26 rfl HMI.out ?_)
              refine (KX.out _ _ H5.out).mono ?_
              rintro e w6 ⟨rfl, h6⟩
              have H6 := Lib.hid h6
              clear h6 H5 KX
              obtain ⟨hfit, hsm⟩ := slot_fit (s := zS) (t := s) zeros_len HD.out
              have hone := Slt.one s
              rw [show zS.cells = #[.int .i64 0, .int .i64 0, .int .u64 0, .int .i64 0, .int .u8 0, .int .u8 0, .int .u8 0, .int .u8 0, .int .u8 0, .int .u8 0, .int .u8 0, .int .u8 0, .int .u8 0, .int .u8 0, .int .u8 0, .int .u8 0, .int .u8 0, .int .u8 0, .int .u8 0, .int .u8 0, .int .u8 0, .int .u8 0, .int .u8 0, .int .u8 0, .int .u8 0, .int .u8 0, .int .u8 0, .int .u8 0, .int .u8 0, .int .u8 0, .int .u8 0, .int .u8 0, .int .u8 0, .int .u8 0, .int .u8 0, .int .u8 0] from bare_lit 0 ▸ rfl] at hfit hsm
              have HFIT := Lib.hid hfit; have HSM := Lib.hid hsm; have HIX := HMI; have HONE := Lib.hid hone
              clear hfit hsm hone
              have HP := Lib.hid (H6.out.perm (List.Perm.swap _ _ _))
              go_wp2_with (first
                | (with_reducible refine wpList_load_st rfl 26 (.tmp 5) rfl (g := b5) (off := 0) rfl H6.out (cs := s.cells) (t := 26) (fr := (0, 0)) (by simp) s.cells (fun j hj => by rw [Nat.zero_add]) _ Tryd.underlying26 rfl HMI.out ?_)
                | (with_reducible refine wpList_store_st rfl 26 (.tmp 2) (.tmp 61) rfl (g := b) (off := 0) s.cells rfl rfl HP.out HFIT.out HIX.out HONE.out ?_; intro w9 h9; refine Hid.out ?_))
              refine Lib.hid ?_
              rw [HSM.out] at h9
              go_wp2_with fail
              refine bodyPost_ret (slot_ret (t := s) (F := F) h9 HD.out rfl rfl rfl) rfl ?_
              exact ⟨by rw [HV.out], (St.weaken (A := [_, _]) h9).less HLE.out⟩
      · have k4' : ¬ ((4 : Int) ≤ (ws.length : Int)) := by omega
        rw [if_neg (fun h => k4 h.2)] at hps
        have ok := pS_ok ws
        obtain ⟨s, hs5⟩ : ∃ s, pS ws = s := ⟨_, rfl⟩
        have hpv := HPV0.out
        rw [hs5] at hpv ok hps
        rw [← hps] at h2 kF HMI0
        have H2 := Lib.hid h2
        have KF := Lib.hid kF; have HPV := Lib.hid hpv
        clear h2 hs5 hpv HPV0 kF hF kf hps k4
        go_wp2_with (with_reducible refine wpList_load_st rfl 26 (.tmp 5) rfl (g := b5) (off := 0) rfl H2.out (cs := s.cells) (t := 26) (fr := (0, 0)) (by simp) s.cells (fun j hj => by rw [Nat.zero_add]) _ Tryd.underlying26 rfl HMI0.out ?_)
        refine (KF.out _ _ H2.out).mono ?_
        rintro e w3 ⟨rfl, h3⟩
        have H4 := Lib.hid h3
        clear h3 H2 KF
        have kR := fun (v : World) (F : List (Nat × Obj)) (hv : St W v J F) => slot_right s ok hv
        have kX := fun (v : World) (F : List (Nat × Obj)) (hv : St W v J F) => slot_text SVJ.out s ok hv
        have HD := Lib.hid ok.dig
        have HMI := Lib.hid (slot_info ok.dig)
        unfold Slt.val at kR kX
        clear ok

        cases hR : rightS s with
        | false =>
          rw [hR] at kR
          have hv : parseS t = (zS, 101) := by rw [HPV.out, hR]; rfl
          have HV := Lib.hid hv; have KR := Lib.hid kR
          clear hv kR kX hR
          go_wp2_with (with_reducible refine wpList_load_st rfl 26 (.tmp 5) rfl (g := b5) (off := 0) rfl H4.out (cs := s.cells) (t := 26) (fr := (0, 0)) (by simp) s.cells (fun j hj => by rw [Nat.zero_add]) _ Tryd.underlying26 rfl HMI.out ?_)
          refine (KR.out _ _ H4.out).mono ?_
          rintro e w5 ⟨rfl, h5⟩
          have H5 := Lib.hid h5
          clear h5 H4 KR
          obtain ⟨hfit, hsm⟩ := slot_fit (s := zS) (t := zS) zeros_len zeros_len
          have hix := slot_info (s := zS) zeros_len
          have hone := Slt.one zS
          have hzl : zS.cells = #[.int .i64 0, .int .i64 0, .int .u64 0, .int .i64 0, .int .u8 0, .int .u8 0, .int .u8 0, .int .u8 0, .int .u8 0, .int .u8 0, .int .u8 0, .int .u8 0, .int .u8 0, .int .u8 0, .int .u8 0, .int .u8 0, .int .u8 0, .int .u8 0, .int .u8 0, .int .u8 0, .int .u8 0, .int .u8 0, .int .u8 0, .int .u8 0, .int .u8 0, .int .u8 0, .int .u8 0, .int .u8 0, .int .u8 0, .int .u8 0, .int .u8 0, .int .u8 0, .int .u8 0, .int .u8 0, .int .u8 0, .int .u8 0] := bare_lit 0 ▸ rfl
          rw [hzl] at hfit hsm hix hone
          have HFIT := Lib.hid hfit; have HSM := Lib.hid hsm; have HIX := Lib.hid hix; have HONE := Lib.hid hone; have HZL := Lib.hid hzl
          clear hfit hsm hix hone hzl
          have HP := Lib.hid (H5.out.perm (List.Perm.swap _ _ _))
          go_wp2_with (with_reducible refine wpList_store_st rfl 26 (.tmp 2) (.tmp 60) rfl (g := b) (off := 0) #[.int .i64 0, .int .i64 0, .int .u64 0, .int .i64 0, .int .u8 0, .int .u8 0, .int .u8 0, .int .u8 0, .int .u8 0, .int .u8 0, .int .u8 0, .int .u8 0, .int .u8 0, .int .u8 0, .int .u8 0, .int .u8 0, .int .u8 0, .int .u8 0, .int .u8 0, .int .u8 0, .int .u8 0, .int .u8 0, .int .u8 0, .int .u8 0, .int .u8 0, .int .u8 0, .int .u8 0, .int .u8 0, .int .u8 0, .int .u8 0, .int .u8 0, .int .u8 0, .int .u8 0, .int .u8 0, .int .u8 0, .int .u8 0] rfl rfl HP.out HFIT.out HIX.out HONE.out ?_; intro w9 h9; refine Hid.out ?_)
          refine Lib.hid ?_
          rw [HSM.out, ← HZL.out] at h9
          go_wp2_with fail
          refine bodyPost_ret (slot_ret (F := F) h9 zeros_len rfl rfl rfl) rfl ?_
          exact ⟨by rw [HV.out], (St.weaken (A := [_, _]) h9).less HLE.out⟩
        | true =>
          rw [hR] at kR
          cases hE : (textS s == t.data.toList) with
          | false =>
            have hv : parseS t = (zS, 101) := by rw [HPV.out, hR, hE]; rfl
            have hne : ((⟨(textS s).toArray⟩ : ByteArray).toList == t.toList) = false := by rw [ByteArray.toList_eq, ByteArray.toList_eq]; exact hE
            have HV := Lib.hid hv; have KR := Lib.hid kR; have KX := Lib.hid kX
            clear hv kR kX hR hE
            generalize (⟨(textS s).toArray⟩ : ByteArray) = tx at *
            go_wp2_with (with_reducible refine wpList_load_st rfl 26 (.tmp 5) rfl (g := b5) (off := 0) rfl H4.out (cs := s.cells) (t := 26) (fr := (0, 0)) (by simp) s.cells (fun j hj => by rw [Nat.zero_add]) _ Tryd.underlying26 rfl HMI.out ?_)
            refine (KR.out _ _ H4.out).mono ?_
            rintro e w5 ⟨rfl, h5⟩
            have H5 := Lib.hid h5
            clear h5 H4 KR
            go_wp2_with (refine wpList_load_g (by rfl) 26 (.tmp 5) rfl (g := b5) (off := 0) rfl H5.out (cs := s.cells) (t := 26) (fr := (0, 0)) (by simp) s.cells (fun j hj => by rw [Nat.zero_add]) _ Tryd.underlying26 rfl HMI.out ?_)
            refine (KX.out _ _ H5.out).mono ?_
            rintro e w6 ⟨rfl, h6⟩
            have H6 := Lib.hid h6
            clear h6 H5 KX
            obtain ⟨hfit, hsm⟩ := slot_fit (s := zS) (t := zS) zeros_len zeros_len
            have hix := slot_info (s := zS) zeros_len
            have hone := Slt.one zS
            have hzl : zS.cells = #[.int .i64 0, .int .i64 0, .int .u64 0, .int .i64 0, .int .u8 0, .int .u8 0, .int .u8 0, .int .u8 0, .int .u8 0, .int .u8 0, .int .u8 0, .int .u8 0, .int .u8 0, .int .u8 0, .int .u8 0, .int .u8 0, .int .u8 0, .int .u8 0, .int .u8 0, .int .u8 0, .int .u8 0, .int .u8 0, .int .u8 0, .int .u8 0, .int .u8 0, .int .u8 0, .int .u8 0, .int .u8 0, .int .u8 0, .int .u8 0, .int .u8 0, .int .u8 0, .int .u8 0, .int .u8 0, .int .u8 0, .int .u8 0] := bare_lit 0 ▸ rfl
            rw [hzl] at hfit hsm hix hone
            have HFIT := Lib.hid hfit; have HSM := Lib.hid hsm; have HIX := Lib.hid hix; have HONE := Lib.hid hone; have HZL := Lib.hid hzl
            clear hfit hsm hix hone hzl
            have HP := Lib.hid (H6.out.perm (List.Perm.swap _ _ _))
            go_wp2_with (with_reducible refine wpList_store_st rfl 26 (.tmp 2) (.tmp 60) rfl (g := b) (off := 0) #[.int .i64 0, .int .i64 0, .int .u64 0, .int .i64 0, .int .u8 0, .int .u8 0, .int .u8 0, .int .u8 0, .int .u8 0, .int .u8 0, .int .u8 0, .int .u8 0, .int .u8 0, .int .u8 0, .int .u8 0, .int .u8 0, .int .u8 0, .int .u8 0, .int .u8 0, .int .u8 0, .int .u8 0, .int .u8 0, .int .u8 0, .int .u8 0, .int .u8 0, .int .u8 0, .int .u8 0, .int .u8 0, .int .u8 0, .int .u8 0, .int .u8 0, .int .u8 0, .int .u8 0, .int .u8 0, .int .u8 0, .int .u8 0] rfl rfl HP.out HFIT.out HIX.out HONE.out ?_; intro w9 h9; refine Hid.out ?_)
            refine Lib.hid ?_
            rw [HSM.out, ← HZL.out] at h9
            go_wp2_with fail
            refine bodyPost_ret (slot_ret (F := F) h9 zeros_len rfl rfl rfl) rfl ?_
            exact ⟨by rw [HV.out], (St.weaken (A := [_, _]) h9).less HLE.out⟩
          | true =>
            have hv : parseS t = (s, 0) := by rw [HPV.out, hR, hE]; rfl
            have hne : ((⟨(textS s).toArray⟩ : ByteArray).toList == t.toList) = true := by rw [ByteArray.toList_eq, ByteArray.toList_eq]; exact hE
            have HV := Lib.hid hv; have KR := Lib.hid kR; have KX := Lib.hid kX
            clear hv kR kX hR hE
            generalize (⟨(textS s).toArray⟩ : ByteArray) = tx at *
            go_wp2_with (with_reducible refine wpList_load_st rfl 26 (.tmp 5) rfl (g := b5) (off := 0) rfl H4.out (cs := s.cells) (t := 26) (fr := (0, 0)) (by simp) s.cells (fun j hj => by rw [Nat.zero_add]) _ Tryd.underlying26 rfl HMI.out ?_)
            refine (KR.out _ _ H4.out).mono ?_
            rintro e w5 ⟨rfl, h5⟩
            have H5 := Lib.hid h5
            clear h5 H4 KR
            go_wp2_with (refine wpList_load_g (by rfl) 26 (.tmp 5) rfl (g := b5) (off := 0) rfl H5.out (cs := s.cells) (t := 26) (fr := (0, 0)) (by simp) s.cells (fun j hj => by rw [Nat.zero_add]) _ Tryd.underlying26 rfl HMI.out ?_)
            refine (KX.out _ _ H5.out).mono ?_
            rintro e w6 ⟨rfl, h6⟩
            have H6 := Lib.hid h6
            clear h6 H5 KX
            obtain ⟨hfit, hsm⟩ := slot_fit (s := zS) (t := s) zeros_len HD.out
            have hone := Slt.one s
            rw [show zS.cells = #[.int .i64 0, .int .i64 0, .int .u64 0, .int .i64 0, .int .u8 0, .int .u8 0, .int .u8 0, .int .u8 0, .int .u8 0, .int .u8 0, .int .u8 0, .int .u8 0, .int .u8 0, .int .u8 0, .int .u8 0, .int .u8 0, .int .u8 0, .int .u8 0, .int .u8 0, .int .u8 0, .int .u8 0, .int .u8 0, .int .u8 0, .int .u8 0, .int .u8 0, .int .u8 0, .int .u8 0, .int .u8 0, .int .u8 0, .int .u8 0, .int .u8 0, .int .u8 0, .int .u8 0, .int .u8 0, .int .u8 0, .int .u8 0] from bare_lit 0 ▸ rfl] at hfit hsm
            have HFIT := Lib.hid hfit; have HSM := Lib.hid hsm; have HIX := HMI; have HONE := Lib.hid hone
            clear hfit hsm hone
            have HP := Lib.hid (H6.out.perm (List.Perm.swap _ _ _))
            go_wp2_with (first
              | (with_reducible refine wpList_load_st rfl 26 (.tmp 5) rfl (g := b5) (off := 0) rfl H6.out (cs := s.cells) (t := 26) (fr := (0, 0)) (by simp) s.cells (fun j hj => by rw [Nat.zero_add]) _ Tryd.underlying26 rfl HMI.out ?_)
              | (with_reducible refine wpList_store_st rfl 26 (.tmp 2) (.tmp 61) rfl (g := b) (off := 0) s.cells rfl rfl HP.out HFIT.out HIX.out HONE.out ?_; intro w9 h9; refine Hid.out ?_))
            refine Lib.hid ?_
            rw [HSM.out] at h9
            go_wp2_with fail
            refine bodyPost_ret (slot_ret (t := s) (F := F) h9 HD.out rfl rfl rfl) rfl ?_
            exact ⟨by rw [HV.out], (St.weaken (A := [_, _]) h9).less HLE.out⟩
    · have hF : fullS (bareS ix) = false := by
        unfold fullS bareS
        simp only [Bool.or_eq_false_iff, beq_eq_false_iff_ne]
        exact ⟨fun h => kf (.inl h), fun h => kf (.inr h)⟩
      rw [hF] at kF
      rw [if_neg (fun h => kf h.1)] at hps
      have ok := pS_ok ws
      obtain ⟨s, hs5⟩ : ∃ s, pS ws = s := ⟨_, rfl⟩
      have hpv := HPV0.out
      rw [hs5] at hpv ok hps
      rw [← hps] at h2 kF HMI0
      have H2 := Lib.hid h2
      have KF := Lib.hid kF; have HPV := Lib.hid hpv
      clear h2 hs5 hpv HPV0 kF hF kf hps
      go_wp2_with (with_reducible refine wpList_load_st rfl 26 (.tmp 5) rfl (g := b5) (off := 0) rfl H2.out (cs := s.cells) (t := 26) (fr := (0, 0)) (by simp) s.cells (fun j hj => by rw [Nat.zero_add]) _ Tryd.underlying26 rfl HMI0.out ?_)
      refine (KF.out _ _ H2.out).mono ?_
      rintro e w3 ⟨rfl, h3⟩
      have H4 := Lib.hid h3
      clear h3 H2 KF
      have kR := fun (v : World) (F : List (Nat × Obj)) (hv : St W v J F) => slot_right s ok hv
      have kX := fun (v : World) (F : List (Nat × Obj)) (hv : St W v J F) => slot_text SVJ.out s ok hv
      have HD := Lib.hid ok.dig
      have HMI := Lib.hid (slot_info ok.dig)
      unfold Slt.val at kR kX
      clear ok

      cases hR : rightS s with
      | false =>
        rw [hR] at kR
        have hv : parseS t = (zS, 101) := by rw [HPV.out, hR]; rfl
        have HV := Lib.hid hv; have KR := Lib.hid kR
        clear hv kR kX hR
        go_wp2_with (with_reducible refine wpList_load_st rfl 26 (.tmp 5) rfl (g := b5) (off := 0) rfl H4.out (cs := s.cells) (t := 26) (fr := (0, 0)) (by simp) s.cells (fun j hj => by rw [Nat.zero_add]) _ Tryd.underlying26 rfl HMI.out ?_)
        refine (KR.out _ _ H4.out).mono ?_
        rintro e w5 ⟨rfl, h5⟩
        have H5 := Lib.hid h5
        clear h5 H4 KR
        obtain ⟨hfit, hsm⟩ := slot_fit (s := zS) (t := zS) zeros_len zeros_len
        have hix := slot_info (s := zS) zeros_len
        have hone := Slt.one zS
        have hzl : zS.cells = #[.int .i64 0, .int .i64 0, .int .u64 0, .int .i64 0, .int .u8 0, .int .u8 0, .int .u8 0, .int .u8 0, .int .u8 0, .int .u8 0, .int .u8 0, .int .u8 0, .int .u8 0, .int .u8 0, .int .u8 0, .int .u8 0, .int .u8 0, .int .u8 0, .int .u8 0, .int .u8 0, .int .u8 0, .int .u8 0, .int .u8 0, .int .u8 0, .int .u8 0, .int .u8 0, .int .u8 0, .int .u8 0, .int .u8 0, .int .u8 0, .int .u8 0, .int .u8 0, .int .u8 0, .int .u8 0, .int .u8 0, .int .u8 0] := bare_lit 0 ▸ rfl
        rw [hzl] at hfit hsm hix hone
        have HFIT := Lib.hid hfit; have HSM := Lib.hid hsm; have HIX := Lib.hid hix; have HONE := Lib.hid hone; have HZL := Lib.hid hzl
        clear hfit hsm hix hone hzl
        have HP := Lib.hid (H5.out.perm (List.Perm.swap _ _ _))
        go_wp2_with (with_reducible refine wpList_store_st rfl 26 (.tmp 2) (.tmp 60) rfl (g := b) (off := 0) #[.int .i64 0, .int .i64 0, .int .u64 0, .int .i64 0, .int .u8 0, .int .u8 0, .int .u8 0, .int .u8 0, .int .u8 0, .int .u8 0, .int .u8 0, .int .u8 0, .int .u8 0, .int .u8 0, .int .u8 0, .int .u8 0, .int .u8 0, .int .u8 0, .int .u8 0, .int .u8 0, .int .u8 0, .int .u8 0, .int .u8 0, .int .u8 0, .int .u8 0, .int .u8 0, .int .u8 0, .int .u8 0, .int .u8 0, .int .u8 0, .int .u8 0, .int .u8 0, .int .u8 0, .int .u8 0, .int .u8 0, .int .u8 0] rfl rfl HP.out HFIT.out HIX.out HONE.out ?_; intro w9 h9; refine Hid.out ?_)
        refine Lib.hid ?_
        rw [HSM.out, ← HZL.out] at h9
        go_wp2_with fail
        refine bodyPost_ret (slot_ret (F := F) h9 zeros_len rfl rfl rfl) rfl ?_
        exact ⟨by rw [HV.out], (St.weaken (A := [_, _]) h9).less HLE.out⟩
      | true =>
        rw [hR] at kR
        cases hE : (textS s == t.data.toList) with
        | false =>
          have hv : parseS t = (zS, 101) := by rw [HPV.out, hR, hE]; rfl
          have hne : ((⟨(textS s).toArray⟩ : ByteArray).toList == t.toList) = false := by rw [ByteArray.toList_eq, ByteArray.toList_eq]; exact hE
          have HV := Lib.hid hv; have KR := Lib.hid kR; have KX := Lib.hid kX
          clear hv kR kX hR hE
          generalize (⟨(textS s).toArray⟩ : ByteArray) = tx at *
          go_wp2_with (with_reducible refine wpList_load_st rfl 26 (.tmp 5) rfl (g := b5) (off := 0) rfl H4.out (cs := s.cells) (t := 26) (fr := (0, 0)) (by simp) s.cells (fun j hj => by rw [Nat.zero_add]) _ Tryd.underlying26 rfl HMI.out ?_)
          refine (KR.out _ _ H4.out).mono ?_
          rintro e w5 ⟨rfl, h5⟩
          have H5 := Lib.hid h5
          clear h5 H4 KR
          go_wp2_with (refine wpList_load_g (by rfl) 26 (.tmp 5) rfl (g := b5) (off := 0) rfl H5.out (cs := s.cells) (t := 26) (fr := (0, 0)) (by simp) s.cells (fun j hj => by rw [Nat.zero_add]) _ Tryd.underlying26 rfl HMI.out ?_)
          refine (KX.out _ _ H5.out).mono ?_
          rintro e w6 ⟨rfl, h6⟩
          have H6 := Lib.hid h6
          clear h6 H5 KX
          obtain ⟨hfit, hsm⟩ := slot_fit (s := zS) (t := zS) zeros_len zeros_len
          have hix := slot_info (s := zS) zeros_len
          have hone := Slt.one zS
          have hzl : zS.cells = #[.int .i64 0, .int .i64 0, .int .u64 0, .int .i64 0, .int .u8 0, .int .u8 0, .int .u8 0, .int .u8 0, .int .u8 0, .int .u8 0, .int .u8 0, .int .u8 0, .int .u8 0, .int .u8 0, .int .u8 0, .int .u8 0, .int .u8 0, .int .u8 0, .int .u8 0, .int .u8 0, .int .u8 0, .int .u8 0, .int .u8 0, .int .u8 0, .int .u8 0, .int .u8 0, .int .u8 0, .int .u8 0, .int .u8 0, .int .u8 0, .int .u8 0, .int .u8 0, .int .u8 0, .int .u8 0, .int .u8 0, .int .u8 0] := bare_lit 0 ▸ rfl
          rw [hzl] at hfit hsm hix hone
          have HFIT := Lib.hid hfit; have HSM := Lib.hid hsm; have HIX := Lib.hid hix; have HONE := Lib.hid hone; have HZL := Lib.hid hzl
          clear hfit hsm hix hone hzl
          have HP := Lib.hid (H6.out.perm (List.Perm.swap _ _ _))
          go_wp2_with (with_reducible refine wpList_store_st rfl 26 (.tmp 2) (.tmp 60) rfl (g := b) (off := 0) #[.int .i64 0, .int .i64 0, .int .u64 0, .int .i64 0, .int .u8 0, .int .u8 0, .int .u8 0, .int .u8 0, .int .u8 0, .int .u8 0, .int .u8 0, .int .u8 0, .int .u8 0, .int .u8 0, .int .u8 0, .int .u8 0, .int .u8 0, .int .u8 0, .int .u8 0, .int .u8 0, .int .u8 0, .int .u8 0, .int .u8 0, .int .u8 0, .int .u8 0, .int .u8 0, .int .u8 0, .int .u8 0, .int .u8 0, .int .u8 0, .int .u8 0, .int .u8 0, .int .u8 0, .int .u8 0, .int .u8 0, .int .u8 0] rfl rfl HP.out HFIT.out HIX.out HONE.out ?_; intro w9 h9; refine Hid.out ?_)
          refine Lib.hid ?_
          rw [HSM.out, ← HZL.out] at h9
          go_wp2_with fail
          refine bodyPost_ret (slot_ret (F := F) h9 zeros_len rfl rfl rfl) rfl ?_
          exact ⟨by rw [HV.out], (St.weaken (A := [_, _]) h9).less HLE.out⟩
        | true =>
          have hv : parseS t = (s, 0) := by rw [HPV.out, hR, hE]; rfl
          have hne : ((⟨(textS s).toArray⟩ : ByteArray).toList == t.toList) = true := by rw [ByteArray.toList_eq, ByteArray.toList_eq]; exact hE
          have HV := Lib.hid hv; have KR := Lib.hid kR; have KX := Lib.hid kX
          clear hv kR kX hR hE
          generalize (⟨(textS s).toArray⟩ : ByteArray) = tx at *
          go_wp2_with (with_reducible refine wpList_load_st rfl 26 (.tmp 5) rfl (g := b5) (off := 0) rfl H4.out (cs := s.cells) (t := 26) (fr := (0, 0)) (by simp) s.cells (fun j hj => by rw [Nat.zero_add]) _ Tryd.underlying26 rfl HMI.out ?_)
          refine (KR.out _ _ H4.out).mono ?_
          rintro e w5 ⟨rfl, h5⟩
          have H5 := Lib.hid h5
          clear h5 H4 KR
          go_wp2_with (refine wpList_load_g (by rfl) 26 (.tmp 5) rfl (g := b5) (off := 0) rfl H5.out (cs := s.cells) (t := 26) (fr := (0, 0)) (by simp) s.cells (fun j hj => by rw [Nat.zero_add]) _ Tryd.underlying26 rfl HMI.out ?_)
          refine (KX.out _ _ H5.out).mono ?_
          rintro e w6 ⟨rfl, h6⟩
          have H6 := Lib.hid h6
          clear h6 H5 KX
          obtain ⟨hfit, hsm⟩ := slot_fit (s := zS) (t := s) zeros_len HD.out
          have hone := Slt.one s
          rw [show zS.cells = #[.int .i64 0, .int .i64 0, .int .u64 0, .int .i64 0, .int .u8 0, .int .u8 0, .int .u8 0, .int .u8 0, .int .u8 0, .int .u8 0, .int .u8 0, .int .u8 0, .int .u8 0, .int .u8 0, .int .u8 0, .int .u8 0, .int .u8 0, .int .u8 0, .int .u8 0, .int .u8 0, .int .u8 0, .int .u8 0, .int .u8 0, .int .u8 0, .int .u8 0, .int .u8 0, .int .u8 0, .int .u8 0, .int .u8 0, .int .u8 0, .int .u8 0, .int .u8 0, .int .u8 0, .int .u8 0, .int .u8 0, .int .u8 0] from bare_lit 0 ▸ rfl] at hfit hsm
          have HFIT := Lib.hid hfit; have HSM := Lib.hid hsm; have HIX := HMI; have HONE := Lib.hid hone
          clear hfit hsm hone
          have HP := Lib.hid (H6.out.perm (List.Perm.swap _ _ _))
          go_wp2_with (first
            | (with_reducible refine wpList_load_st rfl 26 (.tmp 5) rfl (g := b5) (off := 0) rfl H6.out (cs := s.cells) (t := 26) (fr := (0, 0)) (by simp) s.cells (fun j hj => by rw [Nat.zero_add]) _ Tryd.underlying26 rfl HMI.out ?_)
            | (with_reducible refine wpList_store_st rfl 26 (.tmp 2) (.tmp 61) rfl (g := b) (off := 0) s.cells rfl rfl HP.out HFIT.out HIX.out HONE.out ?_; intro w9 h9; refine Hid.out ?_))
          refine Lib.hid ?_
          rw [HSM.out] at h9
          go_wp2_with fail
          refine bodyPost_ret (slot_ret (t := s) (F := F) h9 HD.out rfl rfl rfl) rfl ?_
          exact ⟨by rw [HV.out], (St.weaken (A := [_, _]) h9).less HLE.out⟩
end
end Go.Proofs.YtpjfmgifddoppaaDoor
