/- The loader: what it fetches. -/
import Derived.Test.YtnhlpiomfljlcaaDoorLdCD
import Derived.Test.YtnhlpiomfljlcaaDoorNtC
import Derived.Test.YtnhlpiomfljlcaaDoorMnA
namespace Go.Proofs.YtnhlpiomfljlcaaDoor
set_option linter.unusedVariables false
set_option linter.unusedSimpArgs false
open Go.RowKit Go.Lib

section
variable {W w : World} {J : Nat → Option Obj} {F : List (Nat × Obj)} {g gn m : Nat} {es : List (ByteArray × Part)} {fs : List Fault} {cnt : Nat} {l : Lder}
theorem NetSt.drewN (h : NetSt W w J gn m es fs cnt F) (n : Nat) : NetSt W (w.drewN n) J gn m es fs cnt F := let ⟨φ, h⟩ := h; ⟨φ, h.drew n⟩
theorem NetSt.drew1 (h : NetSt W w J gn m es fs cnt F) : NetSt W w.drew J gn m es fs cnt F := let ⟨φ, h⟩ := h; ⟨φ, h.drew1⟩
/-- What a fetch brings: bytes and an error's number. -/
def Fch (W : World) (J : Nat → Option Obj) (gn m : Nat) (es : List (ByteArray × Part)) (fs : List Fault) (cnt : Nat) (F : List (Nat × Obj)) (o : Option Part) (a n : Int) (v : Value) (x : Int) (w' : World) : Prop :=
  match o with
  | none => v = .slice none 0 0 ∧ x = 182 ∧ NetSt W w' J gn m es fs cnt F
  | some p => x = (fetched p.bs (first fs) a n).2 ∧ FreshN W w' J gn m es fs.tail (cnt + 1) F (fetched p.bs (first fs) a n).1 v
def FchPost (W : World) (J : Nat → Option Obj) (gn m : Nat) (es : List (ByteArray × Part)) (fs : List Fault) (cnt : Nat) (F : List (Nat × Obj)) (o : Option Part) (a n : Int) (e : Ending) (w' : World) : Prop :=
  ∃ v x, e = .returned (.tuple #[v, .int .i64 x]) ∧ Fch W J gn m es fs cnt F o a n v x w'
def offOf (es : List (ByteArray × Part)) (s : ByteArray) : Option Part := lookP es ⟨(foldOf s).toArray⟩
theorem net_any (t : TB W J) (ho : Offs W J es) (s : ByteArray) (hs : s.size ≤ 1000000) (a n : Int) (hfs : fs.length ≤ 1000000) (hcnt : cnt ≤ 1000000000) (h : NetSt W w J gn m es fs cnt F) :
    Calls Tryd.prog 65 #[.pointer (some ⟨gn, 0, none⟩), .string s, .int .i64 a, .int .i64 n] w (FchPost W J gn m es fs cnt F (offOf es s) a n) := by
  cases hl : offOf es s with
  | none => exact (net_fetch_none t s (by omega) a n hl h).mono fun e w' ⟨he, hw⟩ => ⟨_, _, he, rfl, rfl, hw⟩
  | some p => exact (net_fetch t ho s (by omega) a n hfs hcnt p hl h).mono fun e w' ⟨v, he, hw⟩ => ⟨v, _, he, rfl, hw⟩
theorem Fch.frame {A : List (Nat × Obj)} {o : Option Part} {a n : Int} {v : Value} {x : Int} (h : Fch W J gn m es fs cnt F o a n v x w) : ∃ B, St W w J (B ++ F) := by
  cases o with
  | none => obtain ⟨_, _, φ, h⟩ := h; exact ⟨_, h⟩
  | some p => obtain ⟨_, A, c, L', _, _, φ, h⟩ := h; exact ⟨_, by rw [← List.append_assoc] at h; exact h⟩
theorem NetSt.frame (h : NetSt W w J gn m es fs cnt F) : ∃ B, St W w J (B ++ F) := let ⟨φ, h⟩ := h; ⟨_, h⟩
theorem ld_in {B : List (Nat × Obj)} (h : St W w J (B ++ ((g, .cells l.cells 98 (0, 0)) :: F))) : St W w J ((g, .cells l.cells 98 (0, 0)) :: F) := h.weaken

/-- What it asks for. -/
def Lder.ask (l : Lder) : Int × Int := if l.wants = -1 then (0, 2304) else match l.known with
  | some k => (k.head + (spanM k.m l.wants).1, (spanM k.m l.wants).2)
  | none => (0, 2304)
theorem spanM_bound (m : Man) (i : Int) (hr : rightM m = true) (h0 : 0 ≤ i) (h1 : i < m.n) : 0 ≤ (spanM m i).1 ∧ (spanM m i).1 ≤ 100000 := by
  rw [spanM, if_pos ⟨hr, h0, h1⟩]
  obtain ⟨_, _, _, h1', h2', h3', h4', _, h5', h6'⟩ := (rightM_iff m).1 hr
  simp only
  have h7 : 0 ≤ i * m.chunk := Int.mul_nonneg h0 (by omega)
  have h8 : i * m.chunk ≤ 64 * 1024 := Int.le_trans (Int.mul_le_mul_of_nonneg_right (by omega : i ≤ 64) (by omega)) (Int.mul_le_mul_of_nonneg_left h4' (by omega))
  omega

theorem step_load_at {P : Program} {ops : Array Oper} {o : Oper} {a : Act} {K : Act → World → Prop} {Q : Exit → Act → World → Prop} {E : Prop} (hgd : o.guard = none) (ty : TypeId) (x : Operand) (ho : o.op = .load ty x) {g off : Nat} (hx : a.eval x = .pointer (some ⟨g, off, none⟩)) (ys : Array Value)
    (hr : w.rangeAt g off ys.toList) (d : TypeDesc) (hu : P.underlying ty = some d) (hd : d.isRow = true) (hi : (P.info? ty).map (·.size) = some ys.size) (h : K (a.put o.dst (.agg ys)) w) : if Region.wanted o (yielded ops a.tmps) = true then o.wp P a w K Q else E := by
  rw [if_pos (by simp [Region.wanted, hgd])]
  exact wp_load_mid ty x ho g off hx ys.toList d hr hu hd (by simpa using hi) (by simpa using h)

set_option maxRecDepth 100000 in
set_option maxHeartbeats 2000000 in
theorem ld_fetch (t : TB W J) (ho : Offs W J es) (ok : l.Ok J) (hgn : l.gn = gn) (hs : l.name.size ≤ 1000000) (hw : l.wants ≠ -2) (hfs : fs.length ≤ 1000000) (hcnt : cnt ≤ 1000000000) (h : NetSt W w J gn m es fs cnt ((g, .cells l.cells 98 (0, 0)) :: F)) :
    Calls Tryd.prog 39 #[.pointer (some ⟨g, 0, none⟩)] w (FchPost W J gn m es fs cnt ((g, .cells l.cells 98 (0, 0)) :: F) (offOf es l.name) l.ask.1 l.ask.2) := by
  obtain ⟨B, hB⟩ := h.frame
  obtain ⟨c0, c1, _, _, _, c5, c6, _⟩ := ld_cells (ld_in hB)
  subst hgn
  have hf : ∀ v a n, NetSt W v J l.gn m es fs cnt ((g, .cells l.cells 98 (0, 0)) :: F) → Calls Tryd.prog 65 #[.pointer (some ⟨l.gn, 0, none⟩), .string l.name, .int .i64 a, .int .i64 n] v (FchPost W J l.gn m es fs cnt ((g, .cells l.cells 98 (0, 0)) :: F) (offOf es l.name) a n) :=
    fun v a n hv => net_any t ho l.name hs a n hfs hcnt hv
  have hfa : ∀ v a n y x, Fch W J l.gn m es fs cnt ((g, .cells l.cells 98 (0, 0)) :: F) (offOf es l.name) a n y x v → v.cell? ⟨g, 0, none⟩ = some (.pointer (some ⟨l.gn, 0, none⟩)) ∧ v.cell? ⟨g, 1, none⟩ = some (.string l.name) ∧ v.cell? ⟨g, 5, none⟩ = some (.pointer (knV l.known)) ∧ v.cell? ⟨g, 6, none⟩ = some (.int .i64 l.wants) := by
    intro v a n y x hv
    obtain ⟨B, hB⟩ := hv.frame (A := [])
    obtain ⟨c0, c1, _, _, _, c5, c6, _⟩ := ld_cells (ld_in hB)
    exact ⟨c0, c1, c5, c6⟩
  clear hB
  by_cases h1 : l.wants = -1
  · have ea : l.ask = (0, 2304) := if_pos h1
    rw [ea]
    have H := Lib.hid h; have HF := Lib.hid hf; have FA := Lib.hid hfa
    rw [h1] at c6
    clear h hf hfa ea h1 hw c5
    go_enter Tryd.func39, Tryd.ntmps39
    go_wp2_with fail
    go_region_held3 (fun w' => w'.cell? ⟨g, 0, none⟩ = some (.pointer (some ⟨l.gn, 0, none⟩)) ∧ w'.cell? ⟨g, 1, none⟩ = some (.string l.name)) (first | exact ⟨c0, c1⟩ | assumption)
      (first | (go_at_call 65; refine (HF.out _ _ _ (by first | exact H.out.drew1 | exact H.out.drewN _ | exact H.out)).mono ?_; rintro e w5 ⟨y, x, rfl, h5⟩; have S5 : w5.cell? ⟨g, 0, none⟩ = some (.pointer (some ⟨l.gn, 0, none⟩)) ∧ w5.cell? ⟨g, 1, none⟩ = some (.string l.name) := ⟨(FA.out _ _ _ _ _ h5).1, (FA.out _ _ _ _ _ h5).2.1⟩; have H5 := Lib.hid h5; clear h5))
    go_wp2_with fail
    go_ret2
    exact ⟨y, x, rfl, H5.out⟩
  · obtain ⟨k, hk, h2, h3⟩ : ∃ k, l.known = some k ∧ 0 ≤ l.wants ∧ l.wants < k.m.n := by
      rcases ok.wants with h0 | ⟨_, h0⟩ | h0
      · exact absurd h0 hw
      · exact absurd h0 h1
      · exact h0
    have hin := ok.known k hk
    have hsp := spanM_bound k.m l.wants hin.right h2 h3
    obtain ⟨P, hP⟩ : ∃ P, (spanM k.m l.wants).1 = P := ⟨_, rfl⟩
    obtain ⟨Q, hQ⟩ : ∃ Q, (spanM k.m l.wants).2 = Q := ⟨_, rfl⟩
    have ea : l.ask = (k.head + P, Q) := by rw [Lder.ask, if_neg h1, hk, ← hP, ← hQ]
    rw [ea]
    rw [hP] at hsp
    obtain ⟨hp0, hp1⟩ := hsp
    have hh0 := hin.h0
    have hh1 := hin.h1
    rw [hk] at c5
    simp only [knV] at c5
    have hsn : ∀ v, NetSt W v J l.gn m es fs cnt ((g, .cells l.cells 98 (0, 0)) :: F) → Calls Tryd.prog 66 #[.agg k.m.cells, .int .i64 l.wants] v fun e w' => e = .returned (.tuple #[.int .i64 P, .int .i64 Q]) ∧ NetSt W w' J l.gn m es fs cnt ((g, .cells l.cells 98 (0, 0)) :: F) := by
      intro v hv
      obtain ⟨φ, hv⟩ := hv
      rw [← hP, ← hQ]
      exact (span_own t k.m hin.ok (by have := hin.name; omega) l.wants hv).mono fun e w' ⟨he, h⟩ => ⟨he, φ, h⟩
    have hnf : ∀ v, NetSt W v J l.gn m es fs cnt ((g, .cells l.cells 98 (0, 0)) :: F) → v.cell? ⟨g, 0, none⟩ = some (.pointer (some ⟨l.gn, 0, none⟩)) ∧ v.cell? ⟨g, 1, none⟩ = some (.string l.name) ∧ v.cell? ⟨g, 5, none⟩ = some (.pointer (some ⟨k.b, 0, none⟩)) ∧ v.cell? ⟨g, 6, none⟩ = some (.int .i64 l.wants) ∧ v.cell? ⟨k.b, 0, none⟩ = some (.int .i64 k.head) := by
      intro v hv
      obtain ⟨B, hB⟩ := hv.frame
      obtain ⟨c0, c1, _, _, _, c5, c6, _⟩ := ld_cells (ld_in hB)
      rw [hk] at c5
      exact ⟨c0, c1, c5, c6, (imm_cell hB hin.at_ 0).trans (gcells_0 _ _)⟩
    have hld : ∀ v, NetSt W v J l.gn m es fs cnt ((g, .cells l.cells 98 (0, 0)) :: F) → v.rangeAt k.b 1 k.m.cells.toList := by
      intro v hv
      obtain ⟨B, hB⟩ := hv.frame
      intro j u hj
      rw [imm_cell hB hin.at_ (1 + j), Nat.add_comm, gcells_m]
      simpa using hj
    have hmi := man_info hin.ok
    have hfk : ∀ v a n y x, Fch W J l.gn m es fs cnt ((g, .cells l.cells 98 (0, 0)) :: F) (offOf es l.name) a n y x v → v.cell? ⟨k.b, 0, none⟩ = some (.int .i64 k.head) := by
      intro v a n y x hv
      obtain ⟨B, hB⟩ := hv.frame (A := [])
      exact (imm_cell hB hin.at_ 0).trans (gcells_0 _ _)
    have hz1 : (l.wants == -1) = false := by simpa using h1
    obtain ⟨X, hX⟩ : ∃ X, k.m.cells = X := ⟨_, rfl⟩
    rw [hX] at hsn hld hmi
    have HMA : Hid ((Tryd.prog.info? 53).map (·.size) = some X.toList.length) := Lib.hid (by rw [hmi, Array.length_toList])
    have HUL := Lib.hid Tryd.underlying53
    clear hX
    have hkv : (some (Value.pointer (knV l.known))) = some (Value.pointer (some ⟨k.b, 0, none⟩)) := by rw [hk]; rfl
    have HKV := Lib.hid hkv; clear hkv
    have WR : Hid (IntKind.i64.wrap (k.head + P) = k.head + P) := Lib.hid (by rw [IntKind.wrap_i64]; omega)
    have H := Lib.hid h; have HF := Lib.hid hf; have FA := Lib.hid hfa; have SN := Lib.hid hsn; have NFa := Lib.hid hnf; have LD := Lib.hid hld; have HMI := Lib.hid hmi; have FK := Lib.hid hfk
    clear h hf hfa hsn hnf hld hmi hfk hin ea hP hQ hk h1 h2 h3 hw
    go_enter Tryd.func39, Tryd.ntmps39
    go_wp2_with fail
    have HDW := Lib.hid H.out.drew1
    have s0 : w.drew.cell? ⟨g, 5, none⟩ = some (.pointer (some ⟨k.b, 0, none⟩)) ∧ w.drew.cell? ⟨g, 6, none⟩ = some (.int .i64 l.wants) ∧ w.drew.rangeAt k.b 1 X.toList := ⟨(NFa.out _ HDW.out).2.2.1, (NFa.out _ HDW.out).2.2.2.1, LD.out _ HDW.out⟩
    refine wp_region_held_drew (S := fun w' => w'.cell? ⟨g, 5, none⟩ = some (.pointer (some ⟨k.b, 0, none⟩)) ∧ w'.cell? ⟨g, 6, none⟩ = some (.int .i64 l.wants) ∧ w'.rangeAt k.b 1 X.toList) (by kernel_rfl) s0 (fun hHeld => ?_)
    refine wpAnyH_take (i := 0) (oi := ?_) (v := ?_) ?_ ?_ ?_ ?_ ?_ ?_ ?_ ?_
    rotate_left 2
    · (simp only [List.getElem?_toArray, List.getElem?_cons_succ, List.getElem?_cons_zero]; exact rfl)
    · kernel_rfl
    · kernel_rfl
    · kernel_rfl
    · exact fun _ _ _ h => h
    · first | (refine Or.inl ⟨by rfl, ?_⟩; intro w hSw; (try dsimp only at hSw); go_simp; try with_reducible rfl) | (refine Or.inr ⟨by rfl, ?_⟩; rfl)
    · assumption
    try simp only [Act.put, List.setIfInBounds_toArray, List.set_cons_zero, List.set_cons_succ]
    refine wpAnyH_take (i := 1) (oi := ?_) (v := ?_) ?_ ?_ ?_ ?_ ?_ ?_ ?_ ?_
    rotate_left 2
    · (simp only [List.getElem?_toArray, List.getElem?_cons_succ, List.getElem?_cons_zero]; exact rfl)
    · kernel_rfl
    · kernel_rfl
    · kernel_rfl
    · exact fun _ _ _ h => h
    · first | (refine Or.inl ⟨by rfl, ?_⟩; intro w hSw; (try dsimp only at hSw); go_simp; try with_reducible rfl) | (refine Or.inr ⟨by rfl, ?_⟩; rfl)
    · assumption
    try simp only [Act.put, List.setIfInBounds_toArray, List.set_cons_zero, List.set_cons_succ]
    refine wpAnyH_take (i := 2) (oi := ?_) (v := ?_) ?_ ?_ ?_ ?_ ?_ ?_ ?_ ?_
    rotate_left 2
    · (simp only [List.getElem?_toArray, List.getElem?_cons_succ, List.getElem?_cons_zero]; exact rfl)
    · kernel_rfl
    · kernel_rfl
    · kernel_rfl
    · exact fun _ _ _ h => h
    · first | (refine Or.inl ⟨by rfl, ?_⟩; intro w hSw; (try dsimp only at hSw); go_simp; try with_reducible rfl) | (refine Or.inr ⟨by rfl, ?_⟩; rfl)
    · assumption
    try simp only [Act.put, List.setIfInBounds_toArray, List.set_cons_zero, List.set_cons_succ]
    refine wpAnyH_take (i := 3) (oi := ?_) (v := ?_) ?_ ?_ ?_ ?_ ?_ ?_ ?_ ?_
    rotate_left 2
    · (simp only [List.getElem?_toArray, List.getElem?_cons_succ, List.getElem?_cons_zero]; exact rfl)
    · kernel_rfl
    · kernel_rfl
    · kernel_rfl
    · exact fun _ _ _ h => h
    · first | (first | ((refine yieldsIf_load_mid ?_ 53 (.tmp 28) ?_ k.b 1 ?_ X.toList _ ?_ HUL.out ?_ HMA.out) <;> first | rfl | exact fun w h => h.2.2) | (refine Or.inl ⟨by rfl, ?_⟩; intro w hSw; obtain ⟨hS1, hS2, hS3⟩ := hSw; go_simp; try with_reducible rfl)) | (refine Or.inr ⟨by rfl, ?_⟩; rfl)
    · assumption
    try simp only [Act.put, List.setIfInBounds_toArray, List.set_cons_zero, List.set_cons_succ]
    refine wpAnyH_take (i := 4) (oi := ?_) (v := ?_) ?_ ?_ ?_ ?_ ?_ ?_ ?_ ?_
    rotate_left 2
    · (simp only [List.getElem?_toArray, List.getElem?_cons_succ, List.getElem?_cons_zero]; exact rfl)
    · kernel_rfl
    · kernel_rfl
    · kernel_rfl
    · exact fun _ _ _ h => h
    · first | (refine Or.inl ⟨by rfl, ?_⟩; intro w hSw; (try dsimp only at hSw); go_simp; try with_reducible rfl) | (refine Or.inr ⟨by rfl, ?_⟩; rfl)
    · assumption
    try simp only [Act.put, List.setIfInBounds_toArray, List.set_cons_zero, List.set_cons_succ]
    refine wpAnyH_take (i := 5) (oi := ?_) (v := ?_) ?_ ?_ ?_ ?_ ?_ ?_ ?_ ?_
    rotate_left 2
    · (simp only [List.getElem?_toArray, List.getElem?_cons_succ, List.getElem?_cons_zero]; exact rfl)
    · kernel_rfl
    · kernel_rfl
    · kernel_rfl
    · exact fun _ _ _ h => h
    · first | (refine Or.inl ⟨by rfl, ?_⟩; intro w hSw; (try dsimp only at hSw); go_simp; try with_reducible rfl) | (refine Or.inr ⟨by rfl, ?_⟩; rfl)
    · assumption
    try simp only [Act.put, List.setIfInBounds_toArray, List.set_cons_zero, List.set_cons_succ]
    refine wpAnyH_take (i := 6) (oi := ?_) (v := ?_) ?_ ?_ ?_ ?_ ?_ ?_ ?_ ?_
    rotate_left 2
    · (simp only [List.getElem?_toArray, List.getElem?_cons_succ, List.getElem?_cons_zero]; exact rfl)
    · kernel_rfl
    · kernel_rfl
    · kernel_rfl
    · exact fun _ _ _ h => h
    · first | (first | ((refine yieldsIf_load_mid ?_ 53 (.tmp 28) ?_ k.b 1 ?_ X.toList _ ?_ HUL.out ?_ HMA.out) <;> first | rfl | exact fun w h => h.2.2) | (refine Or.inl ⟨by rfl, ?_⟩; intro w hSw; obtain ⟨hS1, hS2, hS3⟩ := hSw; go_simp; try with_reducible rfl)) | (refine Or.inr ⟨by rfl, ?_⟩; rfl)
    · assumption
    try simp only [Act.put, List.setIfInBounds_toArray, List.set_cons_zero, List.set_cons_succ]
    refine wpAnyH_take (i := 7) (oi := ?_) (v := ?_) ?_ ?_ ?_ ?_ ?_ ?_ ?_ ?_
    rotate_left 2
    · (simp only [List.getElem?_toArray, List.getElem?_cons_succ, List.getElem?_cons_zero]; exact rfl)
    · kernel_rfl
    · kernel_rfl
    · kernel_rfl
    · exact fun _ _ _ h => h
    · first | (refine Or.inl ⟨by rfl, ?_⟩; intro w hSw; (try dsimp only at hSw); go_simp; try with_reducible rfl) | (refine Or.inr ⟨by rfl, ?_⟩; rfl)
    · assumption
    try simp only [Act.put, List.setIfInBounds_toArray, List.set_cons_zero, List.set_cons_succ]
    refine wpAnyH_take (i := 8) (oi := ?_) (v := ?_) ?_ ?_ ?_ ?_ ?_ ?_ ?_ ?_
    rotate_left 2
    · (simp only [List.getElem?_toArray, List.getElem?_cons_succ, List.getElem?_cons_zero]; exact rfl)
    · kernel_rfl
    · kernel_rfl
    · kernel_rfl
    · exact fun _ _ _ h => h
    · first | (refine Or.inl ⟨by rfl, ?_⟩; intro w hSw; (try dsimp only at hSw); go_simp; try with_reducible rfl) | (refine Or.inr ⟨by rfl, ?_⟩; rfl)
    · assumption
    try simp only [Act.put, List.setIfInBounds_toArray, List.set_cons_zero, List.set_cons_succ]
    refine wpAnyH_take (i := 9) (oi := ?_) (v := ?_) ?_ ?_ ?_ ?_ ?_ ?_ ?_ ?_
    rotate_left 2
    · (simp only [List.getElem?_toArray, List.getElem?_cons_succ, List.getElem?_cons_zero]; exact rfl)
    · kernel_rfl
    · kernel_rfl
    · kernel_rfl
    · exact fun _ _ _ h => h
    · first | (refine Or.inl ⟨by rfl, ?_⟩; intro w hSw; (try dsimp only at hSw); go_simp; try with_reducible rfl) | (refine Or.inr ⟨by rfl, ?_⟩; rfl)
    · assumption
    try simp only [Act.put, List.setIfInBounds_toArray, List.set_cons_zero, List.set_cons_succ]
    refine wpAnyH_take (i := 10) (oi := ?_) (v := ?_) ?_ ?_ ?_ ?_ ?_ ?_ ?_ ?_
    rotate_left 2
    · (simp only [List.getElem?_toArray, List.getElem?_cons_succ, List.getElem?_cons_zero]; exact rfl)
    · kernel_rfl
    · kernel_rfl
    · kernel_rfl
    · exact fun _ _ _ h => h
    · first | (first | ((refine yieldsIf_load_mid ?_ 53 (.tmp 28) ?_ k.b 1 ?_ X.toList _ ?_ HUL.out ?_ HMA.out) <;> first | rfl | exact fun w h => h.2.2) | (refine Or.inl ⟨by rfl, ?_⟩; intro w hSw; obtain ⟨hS1, hS2, hS3⟩ := hSw; go_simp; try with_reducible rfl)) | (refine Or.inr ⟨by rfl, ?_⟩; rfl)
    · assumption
    try simp only [Act.put, List.setIfInBounds_toArray, List.set_cons_zero, List.set_cons_succ]
    refine wpAnyH_ready (rs := [11]) (by kernel_rfl) (by simp) ?_
    refine AllReadyH.cons (o := ?_) ?_ (fun K hK => ?_) ?_
    rotate_left 1
    · (simp only [List.getElem?_toArray, List.getElem?_cons_succ, List.getElem?_cons_zero]; exact rfl)
    · go_simp
      (first | (go_at_call 66; (refine (SN.out _ HDW.out).mono ?_); rintro e wx ⟨rfl, hx⟩; dsimp only))
      refine hK.out _ _ ?_ (fun hHeld => ?_)
      · (try dsimp only) <;> (first | exact ⟨(NFa.out _ hx).2.2.1, (NFa.out _ hx).2.2.2.1, LD.out _ hx⟩)
      clear hK K
      try simp only [Act.put, List.setIfInBounds_toArray, List.set_cons_zero, List.set_cons_succ]
      refine wpAnyH_take (i := 12) (oi := ?_) (v := ?_) ?_ ?_ ?_ ?_ ?_ ?_ ?_ ?_
      rotate_left 2
      · (simp only [List.getElem?_toArray, List.getElem?_cons_succ, List.getElem?_cons_zero]; exact rfl)
      · kernel_rfl
      · kernel_rfl
      · kernel_rfl
      · exact fun _ _ _ h => h
      · first | (refine Or.inl ⟨by rfl, ?_⟩; intro w hSw; (try dsimp only at hSw); go_simp; try with_reducible rfl) | (refine Or.inr ⟨by rfl, ?_⟩; rfl)
      · assumption
      try simp only [Act.put, List.setIfInBounds_toArray, List.set_cons_zero, List.set_cons_succ]
      refine wpAnyH_take (i := 13) (oi := ?_) (v := ?_) ?_ ?_ ?_ ?_ ?_ ?_ ?_ ?_
      rotate_left 2
      · (simp only [List.getElem?_toArray, List.getElem?_cons_succ, List.getElem?_cons_zero]; exact rfl)
      · kernel_rfl
      · kernel_rfl
      · kernel_rfl
      · exact fun _ _ _ h => h
      · first | (refine Or.inl ⟨by rfl, ?_⟩; intro w hSw; (try dsimp only at hSw); go_simp; try with_reducible rfl) | (refine Or.inr ⟨by rfl, ?_⟩; rfl)
      · assumption
      try simp only [Act.put, List.setIfInBounds_toArray, List.set_cons_zero, List.set_cons_succ]
      refine wpAnyH_take (i := 14) (oi := ?_) (v := ?_) ?_ ?_ ?_ ?_ ?_ ?_ ?_ ?_
      rotate_left 2
      · (simp only [List.getElem?_toArray, List.getElem?_cons_succ, List.getElem?_cons_zero]; exact rfl)
      · kernel_rfl
      · kernel_rfl
      · kernel_rfl
      · exact fun _ _ _ h => h
      · first | (refine Or.inl ⟨by rfl, ?_⟩; intro w hSw; (try dsimp only at hSw); go_simp; try with_reducible rfl) | (refine Or.inr ⟨by rfl, ?_⟩; rfl)
      · assumption
      try simp only [Act.put, List.setIfInBounds_toArray, List.set_cons_zero, List.set_cons_succ]
      refine wpAnyH_take (i := 15) (oi := ?_) (v := ?_) ?_ ?_ ?_ ?_ ?_ ?_ ?_ ?_
      rotate_left 2
      · (simp only [List.getElem?_toArray, List.getElem?_cons_succ, List.getElem?_cons_zero]; exact rfl)
      · kernel_rfl
      · kernel_rfl
      · kernel_rfl
      · exact fun _ _ _ h => h
      · first | (refine Or.inl ⟨by rfl, ?_⟩; intro w hSw; (try dsimp only at hSw); go_simp; try with_reducible rfl) | (refine Or.inr ⟨by rfl, ?_⟩; rfl)
      · assumption
      try simp only [Act.put, List.setIfInBounds_toArray, List.set_cons_zero, List.set_cons_succ]
      refine wpAnyH_take (i := 16) (oi := ?_) (v := ?_) ?_ ?_ ?_ ?_ ?_ ?_ ?_ ?_
      rotate_left 2
      · (simp only [List.getElem?_toArray, List.getElem?_cons_succ, List.getElem?_cons_zero]; exact rfl)
      · kernel_rfl
      · kernel_rfl
      · kernel_rfl
      · exact fun _ _ _ h => h
      · first | (refine Or.inl ⟨by rfl, ?_⟩; intro w hSw; (try dsimp only at hSw); go_simp; try with_reducible rfl) | (refine Or.inr ⟨by rfl, ?_⟩; rfl)
      · assumption
      try simp only [Act.put, List.setIfInBounds_toArray, List.set_cons_zero, List.set_cons_succ]
      refine wpAnyH_done (by kernel_rfl) ?_ _
      obtain ⟨n0, n1, n5, n6, nk⟩ := NFa.out _ hx
      have HX := Lib.hid hx
      clear hx s0 HDW H c0 c1 c5 c6
      go_wp2_with fail
      go_region_held3 (fun w' => w'.cell? ⟨g, 0, none⟩ = some (.pointer (some ⟨l.gn, 0, none⟩)) ∧ w'.cell? ⟨g, 1, none⟩ = some (.string l.name) ∧ w'.cell? ⟨g, 5, none⟩ = some (.pointer (some ⟨k.b, 0, none⟩)) ∧ w'.cell? ⟨k.b, 0, none⟩ = some (.int .i64 k.head)) (first | exact ⟨n0, n1, n5, nk⟩ | assumption)
        (first | (go_at_call 65; refine (HF.out _ _ _ (by first | exact HX.out.drew1 | exact HX.out.drewN _ | exact HX.out)).mono ?_; rintro e w5 ⟨y, x, rfl, h5⟩; have S5 : w5.cell? ⟨g, 0, none⟩ = some (.pointer (some ⟨l.gn, 0, none⟩)) ∧ w5.cell? ⟨g, 1, none⟩ = some (.string l.name) ∧ w5.cell? ⟨g, 5, none⟩ = some (.pointer (some ⟨k.b, 0, none⟩)) ∧ w5.cell? ⟨k.b, 0, none⟩ = some (.int .i64 k.head) := ⟨(FA.out _ _ _ _ _ h5).1, (FA.out _ _ _ _ _ h5).2.1, (FA.out _ _ _ _ _ h5).2.2.1.trans HKV.out, FK.out _ _ _ _ _ h5⟩; have H5 := Lib.hid h5; clear h5))
      go_wp2_with fail
      go_ret2
      exact ⟨y, x, rfl, by have h := H5.out; rwa [WR.out] at h⟩
    exact AllReadyH.nil
end
end Go.Proofs.YtnhlpiomfljlcaaDoor
