/- image: Want, Done, Len, Whole: walks. -/
import Derived.Test.YtkpgliaahibjgaaDoorImgB
import Derived.Test.YtkpgliaahibjgaaDoorQtail
namespace Go.Proofs.YtkpgliaahibjgaaDoor
set_option linter.unusedVariables false
set_option linter.unusedSimpArgs false
open Go.RowKit Go.Lib

/-- A world of which something holds. -/
structure CW (C : World → Prop) where
  w : World
  ok : C w
/-- A region that draws its order, whose operations only read what C says, and whose calls keep C and hand back plain values: one walk. -/
theorem wp_region_cw {P : Program} {w : World} {id : Nat} {Q : Exit → Act → World → Prop} {a : Act} {l : List Oper} (C : World → Prop) (hC : C w.drew) (hm : P.follows .mixedOrders = true) (hB : Region.lexB .any l.toArray = true)
    (h : wpQuiet P l.toArray (fun w' => ∃ x : CW C, w' = x.w) (fun a' => ∀ w', (∃ x : CW C, w' = x.w) → Q .normal a' w') l a) : (Code.region id l.toArray true).wp P Q a w :=
  wp_region_quiet (C := fun w' => ∃ x : CW C, w' = x.w) hm hB ⟨⟨_, hC⟩, rfl⟩ (by simpa using h)

section
variable {W w : World} {I : Nat → Option Obj} {F : List (Nat × Obj)} {s g want : Nat} {m : Man} {bs : List UInt8}
theorem Strm.drew (h : Strm W w I s g m bs want F) (k : Nat) : Strm W (w.drewN k) I s g m bs want F := Digs.drew h k
theorem Strm.drew1 (h : Strm W w I s g m bs want F) : Strm W w.drew I s g m bs want F := Digs.drew h 1
theorem Strm.frame1 (h : Strm W w I s g m bs want F) : St W w I ((s, .cells (sCells m g want) 71 (0, 0)) :: F) := Digs.frame h
theorem Strm.alloc_ (h : Strm W w I s g m bs want F) (o : Obj) : Strm W (w.alloc o) I s g m bs want F := Digs.alloc_ h o
theorem strm_cells (ok : m.Ok) (h : Strm W w I s g m bs want F) : w.cell? ⟨s, 36, none⟩ = some (.slice m.A m.n m.c) ∧ w.cell? ⟨s, 37, none⟩ = some (.pointer (some ⟨g, 0, none⟩)) ∧ w.cell? ⟨s, 38, none⟩ = some (.int .i64 want) ∧ w.frozen? ⟨s, 38, none⟩ = false := by
  have hc := fun i => h.frame1.cell (g := s) (List.mem_cons_self ..) i
  exact ⟨(hc 36).trans ((sCells_lo ok g want (by omega)).trans (Man.g36 ok)), (hc 37).trans (sCells_37 ok g want), (hc 38).trans (sCells_38 ok g want), h.frame1.frozen (g := s) (List.mem_cons_self ..) 38⟩
theorem strm_man (ok : m.Ok) (h : Strm W w I s g m bs want F) : w.rangeAt s 0 m.cells.toList :=
  h.frame1.rangeAt (g := s) (List.mem_cons_self ..) (fun j hj => by
    have h1 := Man.cells_size ok
    rw [Array.length_toList] at hj
    rw [Nat.zero_add, sCells_lo ok g want (by omega), Array.getElem?_toList])
theorem Man.dig_at (m : Man) (ok : m.Ok) (j : Nat) (h : j < 32) : m.cells[4 + j]? = (m.dig.map bval)[j]? := by
  have := ok.dig
  unfold Man.cells
  rw [List.getElem?_toArray, List.getElem?_append_left (by simp; omega), List.getElem?_append_right (by simp)]
  congr 1
  simp
theorem strm_dig (ok : m.Ok) (h : Strm W w I s g m bs want F) : w.rangeAt s 4 (bcells m.dig).toList :=
  h.frame1.rangeAt (g := s) (List.mem_cons_self ..) (fun j hj => by
    have h1 := ok.dig
    rw [Array.length_toList, bcells_size] at hj
    rw [sCells_lo ok g want (by omega), Man.dig_at m ok j (by omega)]
    simp [bcells])
theorem Digs.setF {ds : List (Nat × List UInt8)} {cs : Array Value} {t : TypeId} (h : Digs W w I ds ((s, .cells cs t (0, 0)) :: F)) (i : Nat) (u : Value) : Digs W (w.setCell ⟨s, i, none⟩ u) I ds ((s, .cells (cs.setIfInBounds i u) t (0, 0)) :: F) := by
  obtain ⟨G, hb, hst⟩ := h
  exact ⟨G, hb, St.set (A := G) hst i u⟩
/-- A function that leaves all that is ours as it was. -/
theorem strm_lift {f : FuncId} {args : Array Value} {v : Value} (hf : ∀ L, St W w I L → Calls Tryd.prog f args w fun e w' => e = .returned v ∧ St W w' I L) (h : Strm W w I s g m bs want F) : Calls Tryd.prog f args w fun e w' => e = .returned v ∧ Strm W w' I s g m bs want F := by
  obtain ⟨G, hb, hst⟩ := h
  exact (hf _ hst).mono fun e w' ⟨he, h'⟩ => ⟨he, G, hb, h'⟩

set_option maxRecDepth 100000 in
set_option maxHeartbeats 1000000 in
theorem iwant (ok : m.Ok) (h : Strm W w I s g m bs want F) : Calls Tryd.prog 17 #[.pointer (some ⟨s, 0, none⟩)] w fun e w' => e = .returned (.int .i64 want) ∧ w = w' := by
  obtain ⟨c36, c37, c38, _⟩ := strm_cells ok h
  clear h
  go_enter Tryd.func17, Tryd.ntmps17
  go_wp2_with fail
  go_ret
  exact ⟨rfl, rfl⟩

set_option maxRecDepth 100000 in
set_option maxHeartbeats 1000000 in
theorem idone (ok : m.Ok) (h : Strm W w I s g m bs want F) : Calls Tryd.prog 18 #[.pointer (some ⟨s, 0, none⟩)] w fun e w' => e = .returned (.bool ((want : Int) == (m.n : Int))) ∧ ∃ k, w' = w.drewN k := by
  obtain ⟨c36, c37, c38, _⟩ := strm_cells ok h
  clear h
  go_enter Tryd.func18, Tryd.ntmps18
  go_wp2_with fail
  go_quiet (fail)
  go_wp2_with fail
  go_ret
  exact ⟨rfl, _, rfl⟩

set_option maxRecDepth 100000 in
set_option maxHeartbeats 1000000 in
theorem ilen (ok : m.Ok) (hl : bs.length ≤ 1000000000) (h : Strm W w I s g m bs want F) : Calls Tryd.prog 22 #[.pointer (some ⟨s, 0, none⟩)] w fun e w' => e = .returned (.int .i64 bs.length) ∧ w = w' := by
  obtain ⟨c36, c37, c38, _⟩ := strm_cells ok h
  have hL := ds_len h
  have HL := Lib.hid hL
  have cw : IntKind.i64.wrap (bs.length : Int) = bs.length := by rw [IntKind.wrap_i64]; omega
  have hl2 : (bs.length : Int) ≤ 1000000000 := by omega
  clear h hL
  go_enter Tryd.func22, Tryd.ntmps22
  go_wp2_with fail
  refine HL.out.mono ?_
  rintro e w1 ⟨rfl, rfl⟩
  go_wp2_with fail
  go_ret
  exact ⟨rfl, rfl⟩

set_option maxRecDepth 100000 in
set_option maxHeartbeats 2000000 in
theorem iwhole (ok : m.Ok) (hl : bs.length ≤ 1000000000) (h : Strm W w I s g m bs want F) : Calls Tryd.prog 20 #[.pointer (some ⟨s, 0, none⟩)] w fun e w' => e = .returned (.bool (((want : Int) == (m.n : Int)) && (hashOf bs == m.dig))) ∧ Strm W w' I s g m bs want F := by
  have kd : ∀ x : CW (fun v => Strm W v I s g m bs want F), Calls Tryd.prog 18 #[.pointer (some ⟨s, 0, none⟩)] x.w fun e w' => e = .returned (.bool ((want : Int) == (m.n : Int))) ∧ ∃ y : CW (fun v => Strm W v I s g m bs want F), w' = y.w := fun x => (idone ok x.ok).mono fun e w' ⟨he, k, hk⟩ => ⟨he, ⟨_, x.ok.drew k⟩, hk⟩
  obtain ⟨D, hD⟩ : ∃ D, ((want : Int) == (m.n : Int)) = D := ⟨_, rfl⟩
  rw [hD] at kd ⊢
  have KD := Lib.hid kd
  have H := Lib.hid h.drew1
  have hne : Nonempty (CW (fun v => Strm W v I s g m bs want F)) := ⟨⟨_, H.out⟩⟩
  clear kd hD
  cases D with
  | false =>
    clear h
    go_enter Tryd.func20, Tryd.ntmps20
    go_wp2_with fail
    refine wp_region_cw (fun v => Strm W v I s g m bs want F) H.out (by kernel_rfl) (by kernel_rfl) ?_
    repeat (go_big_quiet_step ((go_at_call 18; (with_reducible refine (KD.out _).mono ?_); exact fun e w'' h => h)))
    refine wpQuiet_nil ?_
    rintro _ ⟨x, rfl⟩
    have hfin := x.ok
    have HFIN := Lib.hid hfin
    clear hfin H KD
    go_wp2_with fail
    go_ret
    exact ⟨rfl, HFIN.out⟩
  | true =>
    have c37 : ∀ x : CW (fun v => Strm W v I s g m bs want F), x.w.cell? ⟨s, 37, none⟩ = some (.pointer (some ⟨g, 0, none⟩)) := fun x => (strm_cells ok x.ok).2.1
    have ks : ∀ x : CW (fun v => Strm W v I s g m bs want F), Calls Tryd.prog 37 #[.pointer (some ⟨g, 0, none⟩)] x.w fun e w' => e = .returned (.agg (HV bs)) ∧ ∃ y : CW (fun v => Strm W v I s g m bs want F), w' = y.w := fun x => (ds_sum x.ok (by omega)).mono fun e w' ⟨he, hk⟩ => ⟨he, ⟨_, hk⟩, rfl⟩
    have hx : ∀ v, (∃ x : CW (fun v => Strm W v I s g m bs want F), v = x.w) → v.rangeAt s 4 (bcells m.dig).toList := by rintro _ ⟨x, rfl⟩; exact strm_dig ok x.ok
    have E1 : ∀ w, (Op.equalIn 10000 31 (.agg (HV bs)) (.agg (bcells m.dig))).run Tryd.prog w = .ok (hashOf bs == m.dig) w := fun w => eq_bcells _ _ (hashOf_len _) ok.dig w
    have ix : (Tryd.prog.info? 31).map (·.size) = some (bcells m.dig).size := by rw [bcells_size, ok.dig]; kernel_rfl
    have KS := Lib.hid ks; have HX := Lib.hid hx; have IX := Lib.hid ix
    clear h ks hx ix hl
    go_enter Tryd.func20, Tryd.ntmps20
    go_wp2_with fail
    refine wp_region_cw (fun v => Strm W v I s g m bs want F) H.out (by kernel_rfl) (by kernel_rfl) ?_
    repeat (first
      | (go_big_quiet_want; refine quiet_load_rowK 31 (.tmp 14) rfl (b := s) (off := 4) rfl (bcells m.dig) _ HX.out Tryd.underlying31 rfl IX.out ?_; simp only [Act.put, List.setIfInBounds_toArray, List.set_cons_zero, List.set_cons_succ]; go_big_quiet_on)
      | go_big_quiet_step ((go_at_call 18; (with_reducible refine (KD.out _).mono ?_); exact fun e w'' h => h))
      | go_big_quiet_step ((go_at_call 37; (with_reducible refine (KS.out _).mono ?_); exact fun e w'' h => h)))
    refine wpQuiet_nil ?_
    rintro _ ⟨x, rfl⟩
    have hfin := x.ok
    have HFIN := Lib.hid hfin
    clear hfin H KD KS HX c37
    go_wp2_with fail
    go_ret
    exact ⟨by simp, HFIN.out⟩
end
end Go.Proofs.YtkpgliaahibjgaaDoor
