/- image: Want, Done, Len, Whole: walks. image: Take: walk. image: the document's stream: Done, Whole, Take: walks. -/
import Derived.Test.YtkpgliaahibjgaaDoorImgAB
import Derived.Test.YtkpgliaahibjgaaDoorQtail
import Derived.Test.YtkpgliaahibjgaaDoorManRS
namespace Go.Proofs.YtkpgliaahibjgaaDoor
section
set_option linter.unusedVariables false
set_option linter.unusedSimpArgs false
open Go.RowKit Go.Lib

/-- A world of which something holds. -/
structure CW (C : World → Prop) where
  w : World
  ok : C w
/-- A region that draws its order, whose operations only read what C says, and whose calls keep C and hand back plain values: one walk. -/
theorem wp_region_cw {P : Program} {w : World} {id : Nat} {Q : Exit → Act → World → Prop} {a : Act} {l : List Oper} (C : World → Prop) (hC : C w.drew) (hm : P.follows .mixedOrders = true) (hB : Region.lexB .any l.toArray = true)
    (h : wpQuiet P l.toArray (fun w' => ∃ x : CW C, w' = x.w) (fun a' => ∀ w', (∃ x : CW C, w' = x.w) → Q .normal a' w') l a) : (Code.region id l.toArray true).wp P Q a w :=
  wp_region_quiet (C := fun w' => ∃ x : CW C, w' = x.w) hm hB ⟨⟨_, hC⟩, rfl⟩ (by simpa using h)

section
variable {W w : World} {I : Nat → Option Obj} {F : List (Nat × Obj)} {s g want : Nat} {m : Man} {bs : List UInt8}
theorem Strm.drew (h : Strm W w I s g m bs want F) (k : Nat) : Strm W (w.drewN k) I s g m bs want F := Digs.drew h k
theorem Strm.drew1 (h : Strm W w I s g m bs want F) : Strm W w.drew I s g m bs want F := Digs.drew h 1
theorem Strm.frame1 (h : Strm W w I s g m bs want F) : St W w I ((s, .cells (sCells m g want) 71 (0, 0)) :: F) := Digs.frame h
theorem Strm.alloc_ (h : Strm W w I s g m bs want F) (o : Obj) : Strm W (w.alloc o) I s g m bs want F := Digs.alloc_ h o
theorem strm_cells (ok : m.Ok) (h : Strm W w I s g m bs want F) : w.cell? ⟨s, 36, none⟩ = some (.slice m.A m.n m.c) ∧ w.cell? ⟨s, 37, none⟩ = some (.pointer (some ⟨g, 0, none⟩)) ∧ w.cell? ⟨s, 38, none⟩ = some (.int .i64 want) ∧ w.frozen? ⟨s, 38, none⟩ = false := by
  have hc := fun i => h.frame1.cell (g := s) (List.mem_cons_self ..) i
  exact ⟨(hc 36).trans ((sCells_lo ok g want (by omega)).trans (Man.g36 ok)), (hc 37).trans (sCells_37 ok g want), (hc 38).trans (sCells_38 ok g want), h.frame1.frozen (g := s) (List.mem_cons_self ..) 38⟩
theorem strm_man (ok : m.Ok) (h : Strm W w I s g m bs want F) : w.rangeAt s 0 m.cells.toList :=
  h.frame1.rangeAt (g := s) (List.mem_cons_self ..) (fun j hj => by
    have h1 := Man.cells_size ok
    rw [Array.length_toList] at hj
    rw [Nat.zero_add, sCells_lo ok g want (by omega), Array.getElem?_toList])
theorem Man.dig_at (m : Man) (ok : m.Ok) (j : Nat) (h : j < 32) : m.cells[4 + j]? = (m.dig.map bval)[j]? := by
  have := ok.dig
  unfold Man.cells
  rw [List.getElem?_toArray, List.getElem?_append_left (by simp; omega), List.getElem?_append_right (by simp)]
  congr 1
  simp
theorem strm_dig (ok : m.Ok) (h : Strm W w I s g m bs want F) : w.rangeAt s 4 (bcells m.dig).toList :=
  h.frame1.rangeAt (g := s) (List.mem_cons_self ..) (fun j hj => by
    have h1 := ok.dig
    rw [Array.length_toList, bcells_size] at hj
    rw [sCells_lo ok g want (by omega), Man.dig_at m ok j (by omega)]
    simp [bcells])
theorem Digs.setF {ds : List (Nat × List UInt8)} {cs : Array Value} {t : TypeId} (h : Digs W w I ds ((s, .cells cs t (0, 0)) :: F)) (i : Nat) (u : Value) : Digs W (w.setCell ⟨s, i, none⟩ u) I ds ((s, .cells (cs.setIfInBounds i u) t (0, 0)) :: F) := by
  obtain ⟨G, hb, hst⟩ := h
  exact ⟨G, hb, St.set (A := G) hst i u⟩
/-- A function that leaves all that is ours as it was. -/
theorem strm_lift {f : FuncId} {args : Array Value} {v : Value} (hf : ∀ L, St W w I L → Calls Tryd.prog f args w fun e w' => e = .returned v ∧ St W w' I L) (h : Strm W w I s g m bs want F) : Calls Tryd.prog f args w fun e w' => e = .returned v ∧ Strm W w' I s g m bs want F := by
  obtain ⟨G, hb, hst⟩ := h
  exact (hf _ hst).mono fun e w' ⟨he, h'⟩ => ⟨he, G, hb, h'⟩

set_option maxRecDepth 100000 in
set_option maxHeartbeats 1000000 in
theorem iwant (ok : m.Ok) (h : Strm W w I s g m bs want F) : Calls Tryd.prog 17 #[.pointer (some ⟨s, 0, none⟩)] w fun e w' => e = .returned (.int .i64 want) ∧ w = w' := by
  obtain ⟨c36, c37, c38, _⟩ := strm_cells ok h
  clear h
  go_enter Tryd.func17, Tryd.ntmps17
  go_wp2_with fail
  go_ret
  exact ⟨rfl, rfl⟩

set_option maxRecDepth 100000 in
set_option maxHeartbeats 1000000 in
theorem idone (ok : m.Ok) (h : Strm W w I s g m bs want F) : Calls Tryd.prog 18 #[.pointer (some ⟨s, 0, none⟩)] w fun e w' => e = .returned (.bool ((want : Int) == (m.n : Int))) ∧ ∃ k, w' = w.drewN k := by
  obtain ⟨c36, c37, c38, _⟩ := strm_cells ok h
  clear h
  go_enter Tryd.func18, Tryd.ntmps18
  go_wp2_with fail
  go_quiet (fail)
  go_wp2_with fail
  go_ret
  exact ⟨rfl, _, rfl⟩

set_option maxRecDepth 100000 in
set_option maxHeartbeats 1000000 in
theorem ilen (ok : m.Ok) (hl : bs.length ≤ 1000000000) (h : Strm W w I s g m bs want F) : Calls Tryd.prog 22 #[.pointer (some ⟨s, 0, none⟩)] w fun e w' => e = .returned (.int .i64 bs.length) ∧ w = w' := by
  obtain ⟨c36, c37, c38, _⟩ := strm_cells ok h
  have hL := ds_len h
  have HL := Lib.hid hL
  have cw : IntKind.i64.wrap (bs.length : Int) = bs.length := by rw [IntKind.wrap_i64]; omega
  have hl2 : (bs.length : Int) ≤ 1000000000 := by omega
  clear h hL
  go_enter Tryd.func22, Tryd.ntmps22
  go_wp2_with fail
  refine HL.out.mono ?_
  rintro e w1 ⟨rfl, rfl⟩
  go_wp2_with fail
  go_ret
  exact ⟨rfl, rfl⟩

set_option maxRecDepth 100000 in
set_option maxHeartbeats 2000000 in
theorem iwhole (ok : m.Ok) (hl : bs.length ≤ 1000000000) (h : Strm W w I s g m bs want F) : Calls Tryd.prog 20 #[.pointer (some ⟨s, 0, none⟩)] w fun e w' => e = .returned (.bool (((want : Int) == (m.n : Int)) && (hashOf bs == m.dig))) ∧ Strm W w' I s g m bs want F := by
  have kd : ∀ x : CW (fun v => Strm W v I s g m bs want F), Calls Tryd.prog 18 #[.pointer (some ⟨s, 0, none⟩)] x.w fun e w' => e = .returned (.bool ((want : Int) == (m.n : Int))) ∧ ∃ y : CW (fun v => Strm W v I s g m bs want F), w' = y.w := fun x => (idone ok x.ok).mono fun e w' ⟨he, k, hk⟩ => ⟨he, ⟨_, x.ok.drew k⟩, hk⟩
  obtain ⟨D, hD⟩ : ∃ D, ((want : Int) == (m.n : Int)) = D := ⟨_, rfl⟩
  rw [hD] at kd ⊢
  have KD := Lib.hid kd
  have H := Lib.hid h.drew1
  have hne : Nonempty (CW (fun v => Strm W v I s g m bs want F)) := ⟨⟨_, H.out⟩⟩
  clear kd hD
  cases D with
  | false =>
    clear h
    go_enter Tryd.func20, Tryd.ntmps20
    go_wp2_with fail
    refine wp_region_cw (fun v => Strm W v I s g m bs want F) H.out (by kernel_rfl) (by kernel_rfl) ?_
    repeat (go_big_quiet_step ((go_at_call 18; (with_reducible refine (KD.out _).mono ?_); exact fun e w'' h => h)))
    refine wpQuiet_nil ?_
    rintro _ ⟨x, rfl⟩
    have hfin := x.ok
    have HFIN := Lib.hid hfin
    clear hfin H KD
    go_wp2_with fail
    go_ret
    exact ⟨rfl, HFIN.out⟩
  | true =>
    have c37 : ∀ x : CW (fun v => Strm W v I s g m bs want F), x.w.cell? ⟨s, 37, none⟩ = some (.pointer (some ⟨g, 0, none⟩)) := fun x => (strm_cells ok x.ok).2.1
    have ks : ∀ x : CW (fun v => Strm W v I s g m bs want F), Calls Tryd.prog 37 #[.pointer (some ⟨g, 0, none⟩)] x.w fun e w' => e = .returned (.agg (HV bs)) ∧ ∃ y : CW (fun v => Strm W v I s g m bs want F), w' = y.w := fun x => (ds_sum x.ok (by omega)).mono fun e w' ⟨he, hk⟩ => ⟨he, ⟨_, hk⟩, rfl⟩
    have hx : ∀ v, (∃ x : CW (fun v => Strm W v I s g m bs want F), v = x.w) → v.rangeAt s 4 (bcells m.dig).toList := by rintro _ ⟨x, rfl⟩; exact strm_dig ok x.ok
    have E1 : ∀ w, (Op.equalIn 10000 31 (.agg (HV bs)) (.agg (bcells m.dig))).run Tryd.prog w = .ok (hashOf bs == m.dig) w := fun w => eq_bcells _ _ (hashOf_len _) ok.dig w
    have ix : (Tryd.prog.info? 31).map (·.size) = some (bcells m.dig).size := by rw [bcells_size, ok.dig]; kernel_rfl
    have KS := Lib.hid ks; have HX := Lib.hid hx; have IX := Lib.hid ix
    clear h ks hx ix hl
    go_enter Tryd.func20, Tryd.ntmps20
    go_wp2_with fail
    refine wp_region_cw (fun v => Strm W v I s g m bs want F) H.out (by kernel_rfl) (by kernel_rfl) ?_
    repeat (first
      | (go_big_quiet_want; refine quiet_load_rowK 31 (.tmp 14) rfl (b := s) (off := 4) rfl (bcells m.dig) _ HX.out Tryd.underlying31 rfl IX.out ?_; simp only [Act.put, List.setIfInBounds_toArray, List.set_cons_zero, List.set_cons_succ]; go_big_quiet_on)
      | go_big_quiet_step ((go_at_call 18; (with_reducible refine (KD.out _).mono ?_); exact fun e w'' h => h))
      | go_big_quiet_step ((go_at_call 37; (with_reducible refine (KS.out _).mono ?_); exact fun e w'' h => h)))
    refine wpQuiet_nil ?_
    rintro _ ⟨x, rfl⟩
    have hfin := x.ok
    have HFIN := Lib.hid hfin
    clear hfin H KD KS HX c37
    go_wp2_with fail
    go_ret
    exact ⟨by simp, HFIN.out⟩
end
end

section
set_option linter.unusedVariables false
set_option linter.unusedSimpArgs false
open Go.RowKit Go.Lib

/-- What Take answers. -/
def takeErr (m : Man) (hs : List (List UInt8)) (want : Nat) (i : Int) (b : List UInt8) : Int :=
  if (want : Int) = m.n ∨ i ≠ want then 151 else if (b.length : Int) ≠ (spanM m i).2 ∨ hashOf b ≠ hs.getD want [] then 152 else 0
section
variable {W w : World} {I : Nat → Option Obj} {F : List (Nat × Obj)} {s g want : Nat} {m : Man} {bs : List UInt8}
def TakePost (W : World) (I : Nat → Option Obj) (s g : Nat) (m : Man) (hs : List (List UInt8)) (bs : List UInt8) (want : Nat) (F : List (Nat × Obj)) (i : Int) (b : List UInt8) (e : Ending) (w' : World) : Prop :=
  e = .returned (.int .i64 (takeErr m hs want i b)) ∧ if takeErr m hs want i b = 0 then Strm W w' I s g m (bs ++ b) (want + 1) F else Strm W w' I s g m bs want F

theorem take_no {hs : List (List UInt8)} {i k : Int} {b : List UInt8} {e : Ending} {w' : World} (he : takeErr m hs want i b = k) (hk : k ≠ 0) (h1 : e = .returned (.int .i64 k)) (h2 : Strm W w' I s g m bs want F) : TakePost W I s g m hs bs want F i b e w' := by
  subst he
  exact ⟨h1, by rw [if_neg hk]; exact h2⟩
theorem take_yes {hs : List (List UInt8)} {i : Int} {b : List UInt8} {e : Ending} {w' : World} (he : takeErr m hs want i b = 0) (h1 : e = .returned (.int .i64 0)) (h2 : Strm W w' I s g m (bs ++ b) (want + 1) F) : TakePost W I s g m hs bs want F i b e w' :=
  ⟨by rw [he]; exact h1, by rw [if_pos he]; exact h2⟩

set_option maxRecDepth 100000 in
set_option maxHeartbeats 4000000 in
theorem itake (t : TB W I) (ok : m.Ok) (hs : List (List UInt8)) (hn : m.n = hs.length) (hh : HsIn m.A hs W I) (hps : m.prod.size ≤ 140737488355328) (hsl : hs.length ≤ 1000000) (hw : want ≤ hs.length) (hbl : bs.length ≤ 1000000000)
    (i : Int) (i0 : -9223372036854775808 ≤ i) (i1 : i ≤ 9223372036854775807) (p : Part) (hp : p.In W I) (hpl : p.bs.length ≤ 1000000) (h : Strm W w I s g m bs want F) :
    Calls Tryd.prog 15 #[.pointer (some ⟨s, 0, none⟩), .int .i64 i, .slice p.A p.bs.length p.c] w (TakePost W I s g m hs bs want F i p.bs) := by
  have kd := idone ok h
  obtain ⟨c36, c37, c38, f38⟩ := strm_cells ok h
  by_cases hd : (want : Int) = m.n
  · have hb : ((want : Int) == (m.n : Int)) = true := beq_iff_eq.2 hd
    rw [hb] at kd
    have he : takeErr m hs want i p.bs = 151 := by unfold takeErr; rw [if_pos (.inl hd)]
    have KD := Lib.hid kd; have H := Lib.hid h; have HE := Lib.hid he
    clear kd h hd hb he
    go_enter Tryd.func15, Tryd.ntmps15
    go_wp2_with fail
    refine KD.out.mono ?_
    rintro e w1 ⟨rfl, k, rfl⟩
    go_wp2_with fail
    go_ret
    exact take_no HE.out (by decide) rfl (H.out.drew k)
  have hb : ((want : Int) == (m.n : Int)) = false := beq_eq_false_iff_ne.2 hd
  rw [hb] at kd
  by_cases hi : i = (want : Int)
  · subst hi
    have hlt : want < hs.length := by omega
    obtain ⟨x, hx⟩ : ∃ x, hs[want]? = some x := ⟨_, List.getElem?_eq_getElem hlt⟩
    have hx32 := hh.len x (List.mem_of_getElem? hx)
    obtain ⟨P, Q, hPQ⟩ : ∃ P Q, spanM m want = (P, Q) := ⟨_, _, rfl⟩
    have kS := fun (v : World) (hv : Strm W v I s g m bs want F) => strm_lift (fun L hL => span_own t m ok hps (want : Int) hL) hv
    rw [hPQ] at kS
    have hbn : ((want : Int) != (want : Int)) = false := by simp
    have hdec : takeErr m hs want want p.bs = if (p.bs.length : Int) ≠ Q ∨ hashOf p.bs ≠ x then 152 else 0 := by
      unfold takeErr
      rw [if_neg (by simp; omega), hPQ, List.getD_eq_getElem?_getD, hx]
      rfl
    have hmi : (Tryd.prog.info? 34).map (·.size) = some m.cells.size := by rw [Man.cells_size ok]; kernel_rfl
    have hld : ∀ j, j < m.cells.size → (sCells m g want)[0 + j]? = m.cells[j]? := fun j hj => by rw [Nat.zero_add, sCells_lo ok g want (by rw [Man.cells_size ok] at hj; omega)]
    have hval : m.val = .agg m.cells := rfl
    rw [hval] at kS
    have h1 := h.drew
    have KD := Lib.hid kd; have H := Lib.hid h; have KS := Lib.hid kS; have HDEC := Lib.hid hdec; have HMI := Lib.hid hmi; have HLD := Lib.hid hld
    clear kd h kS hdec hmi hld h1 hb hval
    by_cases hl : (p.bs.length : Int) = Q
    · obtain ⟨b0, o0, hA, hrg⟩ := hh.range H.out.frame1 hx
      obtain ⟨B, hB⟩ : ∃ B, (hashOf p.bs == x) = B := ⟨_, rfl⟩
      have ka := fun (v : World) (n0 : Nat) (hn0 : n0 = v.heap.size) (hv : Strm W v I s g m bs want F) => ds_all [p] (in_cons hp in_nil) hv (n0 := n0) (n := 1) hn0 rfl (by simp [cat]; omega) (by omega)
      rw [show cat [p] = p.bs by simp [cat]] at ka
      simp only [Part.val, List.map_cons, List.map_nil] at ka
      have E1 : ∀ w, (Op.equalIn 10000 31 (.agg (HV p.bs)) (.agg (bcells x))).run Tryd.prog w = .ok B w := fun w => by rw [← hB]; exact eq_bcells _ _ (hashOf_len _) hx32 w
      have E2 : ∀ w, (Op.equalIn 10000 31 (.agg (HV p.bs)) (.agg (x.map bval).toArray)).run Tryd.prog w = .ok B w := E1
      have ix : (Tryd.prog.info? 31).map (·.size) = some (x.map bval).length := by rw [List.length_map, hx32]; kernel_rfl
      have rg : ∀ v, Strm W v I s g m bs want F → v.rangeAt b0 (o0 + want * 32) (x.map bval) := fun v hv => hrg v _ hv.frame1
      have facts := fun (v : World) (hv : Strm W v I s g m bs want F) => strm_cells ok hv
      rw [hA] at c36 facts
      have hbnd : (want : Int) < (m.n : Int) := by omega
      have hbne : ((p.bs.length : Int) != Q) = false := by simp [hl]
      have hws : (want : Int) + 1 ≤ 9223372036854775807 := by omega
      have kw := fun (v : World) (hv : Strm W v I s g m bs want F) => ds_write p hp hv (by omega)
      have hB2 : hashOf p.bs = x ↔ B = true := by rw [← hB]; simp
      have KA := Lib.hid ka; have IX := Lib.hid ix; have RG := Lib.hid rg; have FACTS := Lib.hid facts; have KW := Lib.hid kw; have HBB := Lib.hid hB2; have HUL := Lib.hid Tryd.underlying31; have E1h := Lib.hid E1; have HL := Lib.hid hl
      clear ka ix rg facts kw hB hB2 hrg hd hh hp hA hn hx hl E1
      go_enter Tryd.func15, Tryd.ntmps15
      go_wp2_with fail
      refine KD.out.mono ?_
      rintro e w1 ⟨rfl, k, rfl⟩
      have H1 := Lib.hid (H.out.drew k)
      clear H KD
      have c38' : (w.drewN k).cell? ⟨s, 38, none⟩ = some (.int .i64 want) := c38
      go_wp2_with (with_reducible refine wpList_load_st rfl 34 (.tmp 22) rfl (g := s) (off := 0) rfl H1.out.frame1 (List.mem_cons_self ..) m.cells HLD.out _ Tryd.underlying34 rfl HMI.out ?_)
      refine (KS.out _ H1.out).mono ?_
      rintro e w2 ⟨rfl, h2⟩
      have H2 := Lib.hid h2
      have HDW := Lib.hid h2.drew1
      have KA2 : Hid (Calls Tryd.prog 35 #[.slice (some ⟨w2.heap.size, 0, none⟩) 1 1] (w2.alloc (.cells #[.slice p.A p.bs.length p.c] 22)).drew fun e w' => e = .returned (.agg (HV p.bs)) ∧ Strm W w' I s g m bs want F) := Lib.hid (KA.out w2.drew w2.heap.size rfl HDW.out)
      clear H1 KS h2 c36 c37 c38 c38' f38
      go_wp2_with fail
      refine wp_region_held_drew (S := fun w' => w'.cell? ⟨s, 36, none⟩ = some (.slice (some ⟨b0, o0, none⟩) m.n m.c) ∧ w'.rangeAt b0 (o0 + want * 32) (x.map bval)) (by kernel_rfl) ⟨(FACTS.out _ HDW.out).1, RG.out _ HDW.out⟩ (fun hHeld => ?_)
      refine wpAnyH_take (i := 0) (oi := ?_) (v := ?_) ?_ ?_ ?_ ?_ ?_ ?_ ?_ ?_
      rotate_left 2
      · (simp only [List.getElem?_toArray, List.getElem?_cons_succ, List.getElem?_cons_zero]; exact rfl)
      · kernel_rfl
      · kernel_rfl
      · kernel_rfl
      · exact fun _ _ _ h => h
      · (refine Or.inl ⟨by rfl, ?_⟩; intro w hSw; (try dsimp only at hSw); go_simp; try with_reducible rfl)
      · assumption
      try simp only [Act.put, List.setIfInBounds_toArray, List.set_cons_zero, List.set_cons_succ]
      refine wpAnyH_take (i := 1) (oi := ?_) (v := ?_) ?_ ?_ ?_ ?_ ?_ ?_ ?_ ?_
      rotate_left 2
      · (simp only [List.getElem?_toArray, List.getElem?_cons_succ, List.getElem?_cons_zero]; exact rfl)
      · kernel_rfl
      · kernel_rfl
      · kernel_rfl
      · exact fun _ _ _ h => h
      · (refine Or.inl ⟨by rfl, ?_⟩; intro w hSw; (try dsimp only at hSw); go_simp; try with_reducible rfl)
      · assumption
      try simp only [Act.put, List.setIfInBounds_toArray, List.set_cons_zero, List.set_cons_succ]
      refine wpAnyH_take (i := 2) (oi := ?_) (v := ?_) ?_ ?_ ?_ ?_ ?_ ?_ ?_ ?_
      rotate_left 2
      · (simp only [List.getElem?_toArray, List.getElem?_cons_succ, List.getElem?_cons_zero]; exact rfl)
      · kernel_rfl
      · kernel_rfl
      · kernel_rfl
      · exact fun _ _ _ h => h
      · (refine Or.inl ⟨by rfl, ?_⟩; intro w hSw; (try dsimp only at hSw); go_simp; try with_reducible rfl)
      · assumption
      try simp only [Act.put, List.setIfInBounds_toArray, List.set_cons_zero, List.set_cons_succ]
      refine wpAnyH_take (i := 3) (oi := ?_) (v := ?_) ?_ ?_ ?_ ?_ ?_ ?_ ?_ ?_
      rotate_left 2
      · (simp only [List.getElem?_toArray, List.getElem?_cons_succ, List.getElem?_cons_zero]; exact rfl)
      · kernel_rfl
      · kernel_rfl
      · kernel_rfl
      · exact fun _ _ _ h => h
      · (refine Or.inl ⟨by rfl, ?_⟩; intro w hSw; (try dsimp only at hSw); go_simp; try with_reducible rfl)
      · assumption
      try simp only [Act.put, List.setIfInBounds_toArray, List.set_cons_zero, List.set_cons_succ]
      refine wpAnyH_take (i := 4) (oi := ?_) (v := ?_) ?_ ?_ ?_ ?_ ?_ ?_ ?_ ?_
      rotate_left 2
      · (simp only [List.getElem?_toArray, List.getElem?_cons_succ, List.getElem?_cons_zero]; exact rfl)
      · kernel_rfl
      · kernel_rfl
      · kernel_rfl
      · exact fun _ _ _ h => h
      · (refine Or.inl ⟨by rfl, ?_⟩; intro w hSw; (try dsimp only at hSw); go_simp; try with_reducible rfl)
      · assumption
      try simp only [Act.put, List.setIfInBounds_toArray, List.set_cons_zero, List.set_cons_succ]
      refine wpAnyH_take (i := 5) (oi := ?_) (v := ?_) ?_ ?_ ?_ ?_ ?_ ?_ ?_ ?_
      rotate_left 2
      · (simp only [List.getElem?_toArray, List.getElem?_cons_succ, List.getElem?_cons_zero]; exact rfl)
      · kernel_rfl
      · kernel_rfl
      · kernel_rfl
      · exact fun _ _ _ h => h
      · (refine Or.inl ⟨by rfl, ?_⟩; intro w hSw; (try dsimp only at hSw); go_simp; try with_reducible rfl)
      · assumption
      try simp only [Act.put, List.setIfInBounds_toArray, List.set_cons_zero, List.set_cons_succ]
      refine wpAnyH_take (i := 8) (oi := ?_) (v := ?_) ?_ ?_ ?_ ?_ ?_ ?_ ?_ ?_
      rotate_left 2
      · (simp only [List.getElem?_toArray, List.getElem?_cons_succ, List.getElem?_cons_zero]; exact rfl)
      · kernel_rfl
      · kernel_rfl
      · kernel_rfl
      · exact fun _ _ _ h => h
      · (refine Or.inl ⟨by rfl, ?_⟩; intro w hSw; (try dsimp only at hSw); go_simp; try with_reducible rfl)
      · assumption
      try simp only [Act.put, List.setIfInBounds_toArray, List.set_cons_zero, List.set_cons_succ]
      refine wpAnyH_take (i := 9) (oi := ?_) (v := ?_) ?_ ?_ ?_ ?_ ?_ ?_ ?_ ?_
      rotate_left 2
      · (simp only [List.getElem?_toArray, List.getElem?_cons_succ, List.getElem?_cons_zero]; exact rfl)
      · kernel_rfl
      · kernel_rfl
      · kernel_rfl
      · exact fun _ _ _ h => h
      · (refine Or.inl ⟨by rfl, ?_⟩; intro w hSw; (try dsimp only at hSw); go_simp; try with_reducible rfl)
      · assumption
      try simp only [Act.put, List.setIfInBounds_toArray, List.set_cons_zero, List.set_cons_succ]
      refine wpAnyH_take (i := 10) (oi := ?_) (v := ?_) ?_ ?_ ?_ ?_ ?_ ?_ ?_ ?_
      rotate_left 2
      · (simp only [List.getElem?_toArray, List.getElem?_cons_succ, List.getElem?_cons_zero]; exact rfl)
      · kernel_rfl
      · kernel_rfl
      · kernel_rfl
      · exact fun _ _ _ h => h
      · (refine Or.inl ⟨by rfl, ?_⟩; intro w hSw; (try dsimp only at hSw); go_simp; try with_reducible rfl)
      · assumption
      try simp only [Act.put, List.setIfInBounds_toArray, List.set_cons_zero, List.set_cons_succ]
      refine wpAnyH_take (i := 11) (oi := ?_) (v := ?_) ?_ ?_ ?_ ?_ ?_ ?_ ?_ ?_
      rotate_left 2
      · (simp only [List.getElem?_toArray, List.getElem?_cons_succ, List.getElem?_cons_zero]; exact rfl)
      · kernel_rfl
      · kernel_rfl
      · kernel_rfl
      · exact fun _ _ _ h => h
      · (refine Or.inl ⟨by rfl, ?_⟩; intro w hSw; (try dsimp only at hSw); go_simp; try with_reducible rfl)
      · assumption
      try simp only [Act.put, List.setIfInBounds_toArray, List.set_cons_zero, List.set_cons_succ]
      refine wpAnyH_take (i := 12) (oi := ?_) (v := ?_) ?_ ?_ ?_ ?_ ?_ ?_ ?_ ?_
      rotate_left 2
      · (simp only [List.getElem?_toArray, List.getElem?_cons_succ, List.getElem?_cons_zero]; exact rfl)
      · kernel_rfl
      · kernel_rfl
      · kernel_rfl
      · exact fun _ _ _ h => h
      · (first | ((refine yieldsIf_load_mid ?_ 31 (.tmp 42) ?_ b0 (o0 + want * 32) ?_ (x.map bval) _ ?_ HUL.out ?_ IX.out) <;> first | rfl | exact fun w h => h.2) | (refine Or.inl ⟨by rfl, ?_⟩; intro w hSw; obtain ⟨hS1, hS2⟩ := hSw; go_simp; try with_reducible rfl))
      · assumption
      try simp only [Act.put, List.setIfInBounds_toArray, List.set_cons_zero, List.set_cons_succ]
      refine wpAnyH_take (i := 13) (oi := ?_) (v := ?_) ?_ ?_ ?_ ?_ ?_ ?_ ?_ ?_
      rotate_left 2
      · (simp only [List.getElem?_toArray, List.getElem?_cons_succ, List.getElem?_cons_zero]; exact rfl)
      · kernel_rfl
      · kernel_rfl
      · kernel_rfl
      · exact fun _ _ _ h => h
      · (refine Or.inl ⟨by rfl, ?_⟩; intro w hSw; (try dsimp only at hSw); go_simp; try with_reducible rfl)
      · assumption
      try simp only [Act.put, List.setIfInBounds_toArray, List.set_cons_zero, List.set_cons_succ]
      refine wpAnyH_take (i := 14) (oi := ?_) (v := ?_) ?_ ?_ ?_ ?_ ?_ ?_ ?_ ?_
      rotate_left 2
      · (simp only [List.getElem?_toArray, List.getElem?_cons_succ, List.getElem?_cons_zero]; exact rfl)
      · kernel_rfl
      · kernel_rfl
      · kernel_rfl
      · exact fun _ _ _ h => h
      · (refine Or.inl ⟨by rfl, ?_⟩; intro w hSw; (try dsimp only at hSw); go_simp; try with_reducible rfl)
      · assumption
      try simp only [Act.put, List.setIfInBounds_toArray, List.set_cons_zero, List.set_cons_succ]
      refine wpAnyH_take (i := 15) (oi := ?_) (v := ?_) ?_ ?_ ?_ ?_ ?_ ?_ ?_ ?_
      rotate_left 2
      · (simp only [List.getElem?_toArray, List.getElem?_cons_succ, List.getElem?_cons_zero]; exact rfl)
      · kernel_rfl
      · kernel_rfl
      · kernel_rfl
      · exact fun _ _ _ h => h
      · (first | ((refine yieldsIf_load_mid ?_ 31 (.tmp 42) ?_ b0 (o0 + want * 32) ?_ (x.map bval) _ ?_ HUL.out ?_ IX.out) <;> first | rfl | exact fun w h => h.2) | (refine Or.inl ⟨by rfl, ?_⟩; intro w hSw; obtain ⟨hS1, hS2⟩ := hSw; go_simp; try with_reducible rfl))
      · assumption
      try simp only [Act.put, List.setIfInBounds_toArray, List.set_cons_zero, List.set_cons_succ]
      refine wpAnyH_ready (rs := [6]) (by kernel_rfl) (by simp) ?_
      refine AllReadyH.cons (o := ?_) ?_ (fun K hK => ?_) ?_
      rotate_left 1
      · (simp only [List.getElem?_toArray, List.getElem?_cons_succ, List.getElem?_cons_zero]; exact rfl)
      · go_simp
        refine hK.out _ _ ?_ (fun hHeld => ?_)
        · (try dsimp only) <;> (first | exact ⟨(FACTS.out _ (HDW.out.alloc_ _)).1, RG.out _ (HDW.out.alloc_ _)⟩ | exact ⟨(FACTS.out _ hx).1, RG.out _ hx⟩)
        clear hK K
        try simp only [Act.put, List.setIfInBounds_toArray, List.set_cons_zero, List.set_cons_succ]
        refine wpAnyH_ready (rs := [7]) (by kernel_rfl) (by simp) ?_
        refine AllReadyH.cons (o := ?_) ?_ (fun K hK => ?_) ?_
        rotate_left 1
        · (simp only [List.getElem?_toArray, List.getElem?_cons_succ, List.getElem?_cons_zero]; exact rfl)
        · go_simp
          (first | (go_at_call 35; (with_reducible refine KA2.out.mono ?_); rintro e wx ⟨rfl, hx⟩; dsimp only))
          refine hK.out _ _ ?_ (fun hHeld => ?_)
          · (try dsimp only) <;> (first | exact ⟨(FACTS.out _ (HDW.out.alloc_ _)).1, RG.out _ (HDW.out.alloc_ _)⟩ | exact ⟨(FACTS.out _ hx).1, RG.out _ hx⟩)
          clear hK K
          try simp only [Act.put, List.setIfInBounds_toArray, List.set_cons_zero, List.set_cons_succ]
          refine wpAnyH_take (i := 16) (oi := ?_) (v := ?_) ?_ ?_ ?_ ?_ ?_ ?_ ?_ ?_
          rotate_left 2
          · (simp only [List.getElem?_toArray, List.getElem?_cons_succ, List.getElem?_cons_zero]; exact rfl)
          · kernel_rfl
          · kernel_rfl
          · kernel_rfl
          · exact fun _ _ _ h => h
          · (refine Or.inl ⟨by rfl, ?_⟩; intro w hSw; (try dsimp only at hSw); go_simp; try with_reducible rfl)
          · assumption
          try simp only [Act.put, List.setIfInBounds_toArray, List.set_cons_zero, List.set_cons_succ]
          refine wpAnyH_take (i := 17) (oi := ?_) (v := ?_) ?_ ?_ ?_ ?_ ?_ ?_ ?_ ?_
          rotate_left 2
          · (simp only [List.getElem?_toArray, List.getElem?_cons_succ, List.getElem?_cons_zero]; exact rfl)
          · kernel_rfl
          · kernel_rfl
          · kernel_rfl
          · exact fun _ _ _ h => h
          · (refine Or.inl ⟨by rfl, ?_⟩; intro w hSw; (try dsimp only at hSw); go_simp; try with_reducible rfl)
          · assumption
          try simp only [Act.put, List.setIfInBounds_toArray, List.set_cons_zero, List.set_cons_succ]
          refine wpAnyH_done (by kernel_rfl) ?_ _
          obtain ⟨e36, e37, e38, e39⟩ := FACTS.out _ hx
          have HX := Lib.hid hx
          clear hx
          cases B with
          | false =>
            simp only [Bool.not_false]
            clear E2
            go_wp2_with fail
            go_ret
            exact take_no (by rw [HDEC.out, if_pos (.inr (fun h => by have := HBB.out.1 h; cases this))]) (by decide) rfl HX.out
          | true =>
            simp only [Bool.not_true]
            clear E2
            go_wp2_with fail
            refine (KW.out _ HX.out).mono ?_
            rintro e w5 ⟨rfl, h5⟩
            have hf := strm_cells ok h5
            have hset := Digs.setF h5 38 (.int .i64 ((want : Int) + 1))
            have hcs := sCells_set ok g want (want + 1)
            rw [show ((want + 1 : Nat) : Int) = (want : Int) + 1 from by omega] at hcs
            rw [hcs] at hset
            have HSET := Lib.hid hset
            obtain ⟨g36, g37, g38, g39⟩ := hf
            clear h5 hset hcs e36 e37 e38 e39 HX
            go_wp2_with fail
            go_ret
            exact take_yes (by rw [HDEC.out, if_neg (fun h => by rcases h with h | h; exact h HL.out; exact h (HBB.out.2 (by simp)))]) rfl HSET.out
        exact AllReadyH.nil
      exact AllReadyH.nil
    · have hbne : ((p.bs.length : Int) != Q) = true := bne_iff_ne.2 hl
      have HL := Lib.hid hl
      have facts := fun (v : World) (hv : Strm W v I s g m bs want F) => strm_cells ok hv
      have FACTS := Lib.hid facts
      clear hl hd hh hp hx hn facts
      go_enter Tryd.func15, Tryd.ntmps15
      go_wp2_with fail
      refine KD.out.mono ?_
      rintro e w1 ⟨rfl, k, rfl⟩
      have H1 := Lib.hid (H.out.drew k)
      clear H KD
      have c38' : (w.drewN k).cell? ⟨s, 38, none⟩ = some (.int .i64 want) := c38
      go_wp2_with (with_reducible refine wpList_load_st rfl 34 (.tmp 22) rfl (g := s) (off := 0) rfl H1.out.frame1 (List.mem_cons_self ..) m.cells HLD.out _ Tryd.underlying34 rfl HMI.out ?_)
      refine (KS.out _ H1.out).mono ?_
      rintro e w2 ⟨rfl, h2⟩
      obtain ⟨e36, e37, e38, e39⟩ := FACTS.out _ h2
      have H2 := Lib.hid h2
      clear H1 KS h2 c36 c37 c38 c38' f38 FACTS
      go_wp2_with fail
      go_quiet (fail)
      go_wp2_with fail
      go_ret
      exact take_no (by rw [HDEC.out, if_pos (.inl HL.out)]) (by decide) rfl (H2.out.drew nq)
  · have hbn : (i != (want : Int)) = true := bne_iff_ne.2 hi
    have he : takeErr m hs want i p.bs = 151 := by unfold takeErr; rw [if_pos (.inr hi)]
    have KD := Lib.hid kd; have H := Lib.hid h; have HE := Lib.hid he
    clear kd h hd hb he hi
    go_enter Tryd.func15, Tryd.ntmps15
    go_wp2_with fail
    refine KD.out.mono ?_
    rintro e w1 ⟨rfl, k, rfl⟩
    have c38' : (w.drewN k).cell? ⟨s, 38, none⟩ = some (.int .i64 want) := c38
    go_wp2_with fail
    go_ret
    exact take_no HE.out (by decide) rfl (H.out.drew k)
end
end

section
set_option linter.unusedVariables false
set_option linter.unusedSimpArgs false
open Go.RowKit Go.Lib

/-- What was lent out comes back. -/
theorem St.thaw {W w w' : World} {I J : Nat → Option Obj} {L0 F F' : List (Nat × Obj)} (h0 : St W w I (L0 ++ F)) (hle : Le I J) (hJ : ∀ p ∈ L0, J p.1 = some p.2) (h' : St W w' J F') : St W w' I (L0 ++ F') := by
  refine ⟨h'.os, h'.tape, h'.output, ?_, ?_, fun b o hb => h'.imm b o (hle b o hb), ?_⟩
  · intro p hp
    rcases List.mem_append.1 hp with hp | hp
    · exact h'.imm _ _ (hJ p hp)
    · exact h'.own p hp
  · rw [List.map_append, List.nodup_append]
    have hn := h0.nodup
    rw [List.map_append, List.nodup_append] at hn
    refine ⟨hn.1, h'.nodup, ?_⟩
    intro a ha b hb he
    subst he
    obtain ⟨p, hp, rfl⟩ := List.mem_map.1 ha
    obtain ⟨q, hq, he⟩ := List.mem_map.1 hb
    have h1 := h'.apart q hq
    rw [he, hJ p hp] at h1
    cases h1
  · intro p hp
    rcases List.mem_append.1 hp with hp | hp
    · exact h0.apart p (List.mem_append.2 (.inl hp))
    · cases hx : I p.1 with
      | none => rfl
      | some o => have := hle _ _ hx; rw [h'.apart p hp] at this; cases this
theorem refsum_row {W w : World} {I : Nat → Option Obj} {F L0 : List (Nat × Obj)} {A : Option Addr} {c : Nat} {xs : List UInt8} (hr : Row 5 1 (.slice A xs.length c) xs.length (xs.map bval) L0) (hl : xs.length ≤ 1000000) (h : St W w I (L0 ++ F)) :
    Calls Tryd.prog 23 #[.slice A xs.length c] w fun e w' => e = .returned (.agg (HV xs)) ∧ St W w' I (L0 ++ F) := by
  obtain ⟨J, h1, h2, h3⟩ := St.freezes L0 h
  have hin : Part.In ⟨A, c, xs⟩ W J := fun v L hv => hr.src (fun p hp => hv.imm _ _ (h2 p hp))
  exact (refsum ⟨A, c, xs⟩ hin hl h3).mono fun e w' ⟨he, h'⟩ => ⟨he, St.thaw h h1 h2 h'⟩

/-- The document's stream as it lies in memory. -/
def rCells (m : Man) (v : Value) (want : Nat) : Array Value := (m.cells.toList ++ [v, .int .i64 want]).toArray
section
variable {m : Man} {v : Value} {want : Nat}
theorem rCells_lo (ok : m.Ok) (v : Value) (want : Nat) {j : Nat} (h : j < 37) : (rCells m v want)[j]? = m.cells[j]? := by
  have h1 := Man.cells_size ok
  unfold rCells
  rw [List.getElem?_toArray, List.getElem?_append_left (by rw [Array.length_toList]; omega), Array.getElem?_toList]
theorem rCells_37 (ok : m.Ok) (v : Value) (want : Nat) : (rCells m v want)[37]? = some v := by
  have h1 := Man.cells_size ok
  unfold rCells
  rw [List.getElem?_toArray, List.getElem?_append_right (by rw [Array.length_toList]; omega), Array.length_toList, h1]
  rfl
theorem rCells_38 (ok : m.Ok) (v : Value) (want : Nat) : (rCells m v want)[38]? = some (.int .i64 want) := by
  have h1 := Man.cells_size ok
  unfold rCells
  rw [List.getElem?_toArray, List.getElem?_append_right (by rw [Array.length_toList]; omega), Array.length_toList, h1]
  rfl
theorem rCells_set38 (ok : m.Ok) (v : Value) (want k : Nat) : (rCells m v want).setIfInBounds 38 (.int .i64 k) = rCells m v k := by
  have h1 := Man.cells_size ok
  unfold rCells
  apply Array.toList_inj.1
  rw [Array.toList_setIfInBounds]
  simp only
  rw [List.set_append_right _ _ (by rw [Array.length_toList]; omega), Array.length_toList, h1]
  rfl
theorem rCells_set37 (ok : m.Ok) (v u : Value) (want : Nat) : (rCells m v want).setIfInBounds 37 u = rCells m u want := by
  have h1 := Man.cells_size ok
  unfold rCells
  apply Array.toList_inj.1
  rw [Array.toList_setIfInBounds]
  simp only
  rw [List.set_append_right _ _ (by rw [Array.length_toList]; omega), Array.length_toList, h1]
  rfl
end
section
variable {W w : World} {I : Nat → Option Obj} {F : List (Nat × Obj)} {r want : Nat} {m : Man} {bs : List UInt8}
/-- The document's stream, the slice of its bytes being A, c, in the blocks L0. -/
def RSt (W w : World) (I : Nat → Option Obj) (r : Nat) (m : Man) (A : Option Addr) (n c want : Nat) (L : List (Nat × Obj)) : Prop := St W w I ((r, .cells (rCells m (.slice A n c) want) 43 (0, 0)) :: L)
def RStrm (W w : World) (I : Nat → Option Obj) (r : Nat) (m : Man) (bs : List UInt8) (want : Nat) (F : List (Nat × Obj)) : Prop :=
  ∃ A c L0, Row 5 1 (.slice A bs.length c) bs.length (bs.map bval) L0 ∧ RSt W w I r m A bs.length c want (L0 ++ F)
theorem RSt.st {A : Option Addr} {n c : Nat} (h : RSt W w I r m A n c want F) : St W w I ((r, .cells (rCells m (.slice A n c) want) 43 (0, 0)) :: F) := h
theorem RSt.drew {A : Option Addr} {n c : Nat} (h : RSt W w I r m A n c want F) (k : Nat) : RSt W (w.drewN k) I r m A n c want F := St.drew h k
theorem rst_cells {A : Option Addr} {n c : Nat} (ok : m.Ok) (h : RSt W w I r m A n c want F) : w.cell? ⟨r, 36, none⟩ = some (.slice m.A m.n m.c) ∧ w.cell? ⟨r, 37, none⟩ = some (.slice A n c) ∧ w.cell? ⟨r, 38, none⟩ = some (.int .i64 want) ∧ w.frozen? ⟨r, 37, none⟩ = false ∧ w.frozen? ⟨r, 38, none⟩ = false := by
  have hc := fun i => St.cell h (g := r) (List.mem_cons_self ..) i
  exact ⟨(hc 36).trans ((rCells_lo ok _ want (by omega)).trans (Man.g36 ok)), (hc 37).trans (rCells_37 ok _ want), (hc 38).trans (rCells_38 ok _ want), St.frozen h (g := r) (List.mem_cons_self ..) 37, St.frozen h (g := r) (List.mem_cons_self ..) 38⟩
theorem rst_dig {A : Option Addr} {n c : Nat} (ok : m.Ok) (h : RSt W w I r m A n c want F) : w.rangeAt r 4 (bcells m.dig).toList :=
  St.rangeAt h (g := r) (List.mem_cons_self ..) (fun j hj => by
    have h1 := ok.dig
    rw [Array.length_toList, bcells_size] at hj
    rw [rCells_lo ok _ want (by omega), Man.dig_at m ok j (by omega)]
    simp [bcells])

set_option maxRecDepth 100000 in
set_option maxHeartbeats 1000000 in
theorem rdone {A : Option Addr} {n c : Nat} (ok : m.Ok) (h : RSt W w I r m A n c want F) : Calls Tryd.prog 19 #[.pointer (some ⟨r, 0, none⟩)] w fun e w' => e = .returned (.bool ((want : Int) == (m.n : Int))) ∧ ∃ k, w' = w.drewN k := by
  obtain ⟨c36, c37, c38, _⟩ := rst_cells ok h
  clear h
  go_enter Tryd.func19, Tryd.ntmps19
  go_wp2_with fail
  go_quiet (fail)
  go_wp2_with fail
  go_ret
  exact ⟨rfl, _, rfl⟩

set_option maxRecDepth 100000 in
set_option maxHeartbeats 2000000 in
theorem rwhole (ok : m.Ok) (hl : bs.length ≤ 1000000) (h : RStrm W w I r m bs want F) : Calls Tryd.prog 21 #[.pointer (some ⟨r, 0, none⟩)] w fun e w' => e = .returned (.bool (((want : Int) == (m.n : Int)) && (hashOf bs == m.dig))) ∧ RStrm W w' I r m bs want F := by
  obtain ⟨A, c, L0, hr, h⟩ := h
  have kd : ∀ x : CW (fun v => RSt W v I r m A bs.length c want (L0 ++ F)), Calls Tryd.prog 19 #[.pointer (some ⟨r, 0, none⟩)] x.w fun e w' => e = .returned (.bool ((want : Int) == (m.n : Int))) ∧ ∃ y : CW (fun v => RSt W v I r m A bs.length c want (L0 ++ F)), w' = y.w := fun x => (rdone ok x.ok).mono fun e w' ⟨he, k, hk⟩ => ⟨he, ⟨_, x.ok.drew k⟩, hk⟩
  obtain ⟨D, hD⟩ : ∃ D, ((want : Int) == (m.n : Int)) = D := ⟨_, rfl⟩
  rw [hD] at kd ⊢
  have KD := Lib.hid kd; have HR := Lib.hid hr
  have H := Lib.hid (h.drew 1)
  have hne : Nonempty (CW (fun v => RSt W v I r m A bs.length c want (L0 ++ F))) := ⟨⟨_, H.out⟩⟩
  clear kd hD hr
  cases D with
  | false =>
    clear h
    go_enter Tryd.func21, Tryd.ntmps21
    go_wp2_with fail
    refine wp_region_cw (fun v => RSt W v I r m A bs.length c want (L0 ++ F)) H.out (by kernel_rfl) (by kernel_rfl) ?_
    repeat (go_big_quiet_step ((go_at_call 19; (with_reducible refine (KD.out _).mono ?_); exact fun e w'' h => h)))
    refine wpQuiet_nil ?_
    rintro _ ⟨x, rfl⟩
    have hfin := x.ok
    have HFIN := Lib.hid hfin
    clear hfin H KD
    go_wp2_with fail
    go_ret
    exact ⟨rfl, A, c, L0, HR.out, HFIN.out⟩
  | true =>
    have c37 : ∀ x : CW (fun v => RSt W v I r m A bs.length c want (L0 ++ F)), x.w.cell? ⟨r, 37, none⟩ = some (.slice A bs.length c) := fun x => (rst_cells ok x.ok).2.1
    have ks : ∀ x : CW (fun v => RSt W v I r m A bs.length c want (L0 ++ F)), Calls Tryd.prog 23 #[.slice A bs.length c] x.w fun e w' => e = .returned (.agg (HV bs)) ∧ ∃ y : CW (fun v => RSt W v I r m A bs.length c want (L0 ++ F)), w' = y.w := fun x =>
      (refsum_row HR.out hl (St.swap (A := [_]) x.ok)).mono fun e w' ⟨he, hk⟩ => ⟨he, ⟨_, St.swap (B := [_]) hk⟩, rfl⟩
    have hx : ∀ v, (∃ x : CW (fun v => RSt W v I r m A bs.length c want (L0 ++ F)), v = x.w) → v.rangeAt r 4 (bcells m.dig).toList := by rintro _ ⟨x, rfl⟩; exact rst_dig ok x.ok
    have E1 : ∀ w, (Op.equalIn 10000 31 (.agg (HV bs)) (.agg (bcells m.dig))).run Tryd.prog w = .ok (hashOf bs == m.dig) w := fun w => eq_bcells _ _ (hashOf_len _) ok.dig w
    have ix : (Tryd.prog.info? 31).map (·.size) = some (bcells m.dig).size := by rw [bcells_size, ok.dig]; kernel_rfl
    have KS := Lib.hid ks; have HX := Lib.hid hx; have IX := Lib.hid ix
    clear h ks hx ix hl
    go_enter Tryd.func21, Tryd.ntmps21
    go_wp2_with fail
    refine wp_region_cw (fun v => RSt W v I r m A bs.length c want (L0 ++ F)) H.out (by kernel_rfl) (by kernel_rfl) ?_
    repeat (first
      | (go_big_quiet_want; refine quiet_load_rowK 31 (.tmp 14) rfl (b := r) (off := 4) rfl (bcells m.dig) _ HX.out Tryd.underlying31 rfl IX.out ?_; simp only [Act.put, List.setIfInBounds_toArray, List.set_cons_zero, List.set_cons_succ]; go_big_quiet_on)
      | go_big_quiet_step ((go_at_call 19; (with_reducible refine (KD.out _).mono ?_); exact fun e w'' h => h))
      | go_big_quiet_step ((go_at_call 23; (with_reducible refine (KS.out _).mono ?_); exact fun e w'' h => h)))
    refine wpQuiet_nil ?_
    rintro _ ⟨x, rfl⟩
    have hfin := x.ok
    have HFIN := Lib.hid hfin
    clear hfin H KD KS HX c37
    go_wp2_with fail
    go_ret
    exact ⟨by simp, A, c, L0, HR.out, HFIN.out⟩

def RTakePost (W : World) (I : Nat → Option Obj) (r : Nat) (m : Man) (hs : List (List UInt8)) (bs : List UInt8) (want : Nat) (F : List (Nat × Obj)) (i : Int) (b : List UInt8) (e : Ending) (w' : World) : Prop :=
  e = .returned (.int .i64 (takeErr m hs want i b)) ∧ if takeErr m hs want i b = 0 then RStrm W w' I r m (bs ++ b) (want + 1) F else RStrm W w' I r m bs want F
theorem rtake_no {hs : List (List UInt8)} {i k : Int} {b : List UInt8} {e : Ending} {w' : World} (he : takeErr m hs want i b = k) (hk : k ≠ 0) (h1 : e = .returned (.int .i64 k)) (h2 : RStrm W w' I r m bs want F) : RTakePost W I r m hs bs want F i b e w' := by
  subst he
  exact ⟨h1, by rw [if_neg hk]; exact h2⟩
theorem rtake_yes {hs : List (List UInt8)} {i : Int} {b : List UInt8} {e : Ending} {w' : World} (he : takeErr m hs want i b = 0) (h1 : e = .returned (.int .i64 0)) (h2 : RStrm W w' I r m (bs ++ b) (want + 1) F) : RTakePost W I r m hs bs want F i b e w' :=
  ⟨by rw [he]; exact h1, by rw [if_pos he]; exact h2⟩

set_option maxRecDepth 100000 in
set_option maxHeartbeats 4000000 in
theorem rtake (t : TB W I) (ok : m.Ok) (hs : List (List UInt8)) (hn : m.n = hs.length) (hh : HsIn m.A hs W I) (hps : m.prod.size ≤ 1000000000) (hsl : hs.length ≤ 1000000) (hw : want ≤ hs.length) (hbl : bs.length ≤ 1000000000)
    (i : Int) (i0 : -9223372036854775808 ≤ i) (i1 : i ≤ 9223372036854775807) (p : Part) (hp : p.In W I) (hpl : p.bs.length ≤ 1000000) (h : RStrm W w I r m bs want F) :
    Calls Tryd.prog 16 #[.pointer (some ⟨r, 0, none⟩), .int .i64 i, .slice p.A p.bs.length p.c] w (RTakePost W I r m hs bs want F i p.bs) := by
  obtain ⟨A, c, L0, hr, h⟩ := h
  have kd := rdone ok h
  obtain ⟨c36, c37, c38, f37, f38⟩ := rst_cells ok h
  have HR := Lib.hid hr
  clear hr
  by_cases hd : (want : Int) = m.n
  · have hb : ((want : Int) == (m.n : Int)) = true := beq_iff_eq.2 hd
    rw [hb] at kd
    have he : takeErr m hs want i p.bs = 151 := by unfold takeErr; rw [if_pos (.inl hd)]
    have KD := Lib.hid kd; have H := Lib.hid h; have HE := Lib.hid he
    clear kd h hd hb he
    go_enter Tryd.func16, Tryd.ntmps16
    go_wp2_with fail
    refine KD.out.mono ?_
    rintro e w1 ⟨rfl, k, rfl⟩
    go_wp2_with fail
    go_ret
    exact rtake_no HE.out (by decide) rfl ⟨A, c, L0, HR.out, H.out.drew k⟩
  have hb : ((want : Int) == (m.n : Int)) = false := beq_eq_false_iff_ne.2 hd
  rw [hb] at kd
  by_cases hi : i = (want : Int)
  · subst hi
    have hlt : want < hs.length := by omega
    obtain ⟨x, hx⟩ : ∃ x, hs[want]? = some x := ⟨_, List.getElem?_eq_getElem hlt⟩
    have hx32 := hh.len x (List.mem_of_getElem? hx)
    obtain ⟨P, Q, hPQ⟩ : ∃ P Q, spanM m want = (P, Q) := ⟨_, _, rfl⟩
    have kS := fun (v : World) (hv : RSt W v I r m A bs.length c want (L0 ++ F)) => rspan t m ok hps (want : Int) hv
    rw [hPQ] at kS
    have hbn : ((want : Int) != (want : Int)) = false := by simp
    have hdec : takeErr m hs want want p.bs = if (p.bs.length : Int) ≠ Q ∨ hashOf p.bs ≠ x then 152 else 0 := by
      unfold takeErr
      rw [if_neg (by simp; omega), hPQ, List.getD_eq_getElem?_getD, hx]
      rfl
    have hmi : (Tryd.prog.info? 34).map (·.size) = some m.cells.size := by rw [Man.cells_size ok]; kernel_rfl
    have hld : ∀ j, j < m.cells.size → (rCells m (.slice A bs.length c) want)[0 + j]? = m.cells[j]? := fun j hj => by rw [Nat.zero_add, rCells_lo ok _ want (by rw [Man.cells_size ok] at hj; omega)]
    have hval : m.val = .agg m.cells := rfl
    rw [hval] at kS
    have KD := Lib.hid kd; have H := Lib.hid h; have KS := Lib.hid kS; have HDEC := Lib.hid hdec; have HMI := Lib.hid hmi; have HLD := Lib.hid hld
    clear kd h kS hdec hmi hld hb hval hPQ
    by_cases hl : (p.bs.length : Int) = Q
    · obtain ⟨b0, o0, hA, hrg⟩ := hh.range H.out hx
      obtain ⟨B, hB⟩ : ∃ B, (hashOf p.bs == x) = B := ⟨_, rfl⟩
      have ka : ∀ y : CW (fun v => RSt W v I r m A bs.length c want (L0 ++ F)), Calls Tryd.prog 23 #[.slice p.A p.bs.length p.c] y.w fun e w' => e = .returned (.agg (HV p.bs)) ∧ ∃ z : CW (fun v => RSt W v I r m A bs.length c want (L0 ++ F)), w' = z.w := fun y =>
        (refsum p hp hpl y.ok).mono fun e w' ⟨he, hk⟩ => ⟨he, ⟨_, hk⟩, rfl⟩
      have E1 : ∀ w, (Op.equalIn 10000 31 (.agg (HV p.bs)) (.agg (bcells x))).run Tryd.prog w = .ok B w := fun w => by rw [← hB]; exact eq_bcells _ _ (hashOf_len _) hx32 w
      have ix : (Tryd.prog.info? 31).map (·.size) = some (bcells x).size := by rw [bcells_size, hx32]; kernel_rfl
      have rg : ∀ v, (∃ y : CW (fun v => RSt W v I r m A bs.length c want (L0 ++ F)), v = y.w) → v.rangeAt b0 (o0 + want * 32) (bcells x).toList := by rintro _ ⟨y, rfl⟩; simpa [bcells] using hrg _ _ y.ok
      have facts := fun (v : World) (hv : RSt W v I r m A bs.length c want (L0 ++ F)) => rst_cells ok hv
      rw [hA] at c36 facts
      have y36 : ∀ y : CW (fun v => RSt W v I r m A bs.length c want (L0 ++ F)), y.w.cell? ⟨r, 36, none⟩ = some (.slice (some ⟨b0, o0, none⟩) m.n m.c) := fun y => (facts _ y.ok).1
      have hbnd : (want : Int) < (m.n : Int) := by omega
      have hbne : ((p.bs.length : Int) != Q) = false := by simp [hl]
      have hws : (want : Int) + 1 ≤ 9223372036854775807 := by omega
      have hB2 : hashOf p.bs = x ↔ B = true := by rw [← hB]; simp
      have hone : ∀ u ∈ p.bs.map bval, u.oneCell' = true := by intro u hu; obtain ⟨b, _, rfl⟩ := List.mem_map.1 hu; rfl
      have KA := Lib.hid ka; have IX := Lib.hid ix; have RG := Lib.hid rg; have FACTS := Lib.hid facts; have HBB := Lib.hid hB2; have HL := Lib.hid hl; have HP := Lib.hid hp; have HONE := Lib.hid hone; have Y36 := Lib.hid y36
      have TT := Lib.hid t
      clear ka ix rg facts hB hB2 hrg hd hh hp hA hn hx hl hone t y36
      go_enter Tryd.func16, Tryd.ntmps16
      go_wp2_with fail
      refine KD.out.mono ?_
      rintro e w1 ⟨rfl, k, rfl⟩
      have H1 := Lib.hid (H.out.drew k)
      clear H KD
      have c38' : (w.drewN k).cell? ⟨r, 38, none⟩ = some (.int .i64 want) := c38
      go_wp2_with (with_reducible refine wpList_load_st rfl 34 (.tmp 22) rfl (g := r) (off := 0) rfl H1.out.st (List.mem_cons_self ..) m.cells HLD.out _ Tryd.underlying34 rfl HMI.out ?_)
      refine (KS.out _ H1.out).mono ?_
      rintro e w2 ⟨rfl, h2⟩
      have HDW := Lib.hid (St.drew1 h2)
      have hne : Nonempty (CW (fun v => RSt W v I r m A bs.length c want (L0 ++ F))) := ⟨⟨_, HDW.out⟩⟩
      have y36 := Y36.out
      clear H1 KS h2 c36 c37 c38 c38' f37 f38
      go_wp2_with fail
      refine wp_region_cw (fun v => RSt W v I r m A bs.length c want (L0 ++ F)) HDW.out (by kernel_rfl) (by kernel_rfl) ?_
      repeat (first
        | (go_big_quiet_want; refine quiet_load_rowK 31 (.tmp 41) rfl (b := b0) (off := o0 + want * 32) rfl (bcells x) _ RG.out Tryd.underlying31 rfl IX.out ?_; simp only [Act.put, List.setIfInBounds_toArray, List.set_cons_zero, List.set_cons_succ]; go_big_quiet_on)
        | go_big_quiet_step ((go_at_call 23; (with_reducible refine (KA.out _).mono ?_); exact fun e w'' h => h)))
      refine wpQuiet_nil ?_
      rintro _ ⟨y, rfl⟩
      have hfin := y.ok
      generalize y.w = wx at *
      obtain ⟨e36, e37, e38, e39, e40⟩ := FACTS.out _ hfin
      have HX := Lib.hid hfin
      clear hfin HDW KA RG y36 Y36 y
      cases B with
      | false =>
        (try simp only [Bool.not_false])
        clear E1
        go_wp2_with fail
        go_ret
        exact rtake_no (by rw [HDEC.out, if_pos (.inr (fun h => by have := HBB.out.1 h; cases this))]) (by decide) rfl ⟨A, c, L0, HR.out, HX.out⟩
      | true =>
        (try simp only [Bool.not_true])
        clear E1
        have hsrc := HP.out _ _ HX.out
        have HSRC := Lib.hid hsrc
        clear hsrc
        go_wp2_with (at_builtin; refine Hid.out ?_)
        refine Lib.hid ?_
        refine wpList_append_row (F := (r, .cells (rCells m (.slice A bs.length c) want) 43 (0, 0)) :: F) (L := L0) rfl (.tmp 49) (.tmp 50) 22 rfl 5 (.int .u8 0) 1 1 Tryd.underlying22 (by kernel_rfl) rfl (by omega) rfl HR.out (St.swap (A := [_]) HX.out) rfl HSRC.out HONE.out (bs.length + p.bs.length) rfl (bs.map bval ++ p.bs.map bval) rfl (by unfold maxLen; omega) (by omega) ?_
        intro A6 c6 w6 L6 hr6 h6
        have h7 : RSt W w6 I r m A bs.length c want (L6 ++ F) := St.perm h6 List.perm_middle
        obtain ⟨d36, d37, d38, d39, d40⟩ := rst_cells ok h7
        have h8 := St.set (A := []) h7 37 (.slice A6 (bs.length + p.bs.length) c6)
        rw [rCells_set37 ok] at h8
        have h9 := St.set (A := []) h8 38 (.int .i64 ((want : Int) + 1))
        have hcs := rCells_set38 ok (.slice A6 (bs.length + p.bs.length) c6) want (want + 1)
        rw [show ((want + 1 : Nat) : Int) = (want : Int) + 1 from by omega] at hcs
        rw [hcs] at h9
        obtain ⟨g36, g37, g38, g39, g40⟩ := rst_cells ok h8
        have H9 := Lib.hid h9; have HR6 := Lib.hid hr6
        clear h6 h7 h8 h9 hcs hr6 e36 e37 e38 e39 e40 HX HSRC
        go_wp2_with fail
        go_ret
        refine rtake_yes (by rw [HDEC.out, if_neg (fun h => by rcases h with h | h; exact h HL.out; exact h (HBB.out.2 (by simp)))]) rfl ⟨A6, c6, L6, ?_, ?_⟩
        · rw [List.length_append, List.map_append]; exact HR6.out
        · rw [List.length_append]; exact H9.out
    · have hbne : ((p.bs.length : Int) != Q) = true := bne_iff_ne.2 hl
      have HL := Lib.hid hl
      have facts := fun (v : World) (hv : RSt W v I r m A bs.length c want (L0 ++ F)) => rst_cells ok hv
      have FACTS := Lib.hid facts
      clear hl hd hh hp hx hn facts
      go_enter Tryd.func16, Tryd.ntmps16
      go_wp2_with fail
      refine KD.out.mono ?_
      rintro e w1 ⟨rfl, k, rfl⟩
      have H1 := Lib.hid (H.out.drew k)
      clear H KD
      have c38' : (w.drewN k).cell? ⟨r, 38, none⟩ = some (.int .i64 want) := c38
      go_wp2_with (with_reducible refine wpList_load_st rfl 34 (.tmp 22) rfl (g := r) (off := 0) rfl H1.out.st (List.mem_cons_self ..) m.cells HLD.out _ Tryd.underlying34 rfl HMI.out ?_)
      refine (KS.out _ H1.out).mono ?_
      rintro e w2 ⟨rfl, h2⟩
      obtain ⟨e36, e37, e38, e39⟩ := FACTS.out _ h2
      have h2' : RSt W w2 I r m A bs.length c want (L0 ++ F) := h2
      have H2 := Lib.hid h2'
      clear H1 KS h2 h2' c36 c37 c38 c38' f37 f38 FACTS
      go_wp2_with fail
      go_quiet (fail)
      go_wp2_with fail
      go_ret
      exact rtake_no (by rw [HDEC.out, if_pos (.inl HL.out)]) (by decide) rfl ⟨A, c, L0, HR.out, H2.out.drew nq⟩
  · have hbn : (i != (want : Int)) = true := bne_iff_ne.2 hi
    have he : takeErr m hs want i p.bs = 151 := by unfold takeErr; rw [if_pos (.inr hi)]
    have KD := Lib.hid kd; have H := Lib.hid h; have HE := Lib.hid he
    clear kd h hd hb he hi
    go_enter Tryd.func16, Tryd.ntmps16
    go_wp2_with fail
    refine KD.out.mono ?_
    rintro e w1 ⟨rfl, k, rfl⟩
    have c38' : (w.drewN k).cell? ⟨r, 38, none⟩ = some (.int .i64 want) := c38
    go_wp2_with fail
    go_ret
    exact rtake_no HE.out (by decide) rfl ⟨A, c, L0, HR.out, H.out.drew k⟩
end
end
end Go.Proofs.YtkpgliaahibjgaaDoor
