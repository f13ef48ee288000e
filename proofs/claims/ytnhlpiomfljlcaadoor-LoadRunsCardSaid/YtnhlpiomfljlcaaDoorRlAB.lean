/- The document's loader as it lies in memory; its try. The document's loader: follow. -/
import Derived.Test.YtnhlpiomfljlcaaDoorLgrT
import Derived.Test.YtnhlpiomfljlcaaDoorRefF
import Derived.Test.YtnhlpiomfljlcaaDoorManS
import Derived.Deep.DeepCutAuto
namespace Go.Proofs.YtnhlpiomfljlcaaDoor
section
set_option linter.unusedVariables false
set_option linter.unusedSimpArgs false
open Go.RowKit Go.Lib

theorem setMany_mid (A B B' C : List Value) (h : B.length = B'.length) : setMany (A ++ (B ++ C)).toArray A.length B' = (A ++ (B' ++ C)).toArray := by
  apply Array.ext_getElem?
  intro j
  rw [setMany_get _ _ _ _ (by simp; omega)]
  split
  · rename_i hj
    rw [List.getElem?_toArray, List.getElem?_append_right hj.1, List.getElem?_append_left (by omega)]
  · rename_i hj
    rw [List.getElem?_toArray, List.getElem?_toArray]
    by_cases h1 : j < A.length
    · rw [List.getElem?_append_left h1, List.getElem?_append_left h1]
    · rw [List.getElem?_append_right (by omega), List.getElem?_append_right (by omega), List.getElem?_append_right (by omega), List.getElem?_append_right (by omega), h]
def pcell (x : Int × Part) : List Value := [.int .i64 x.1, .slice x.2.A x.2.bs.length x.2.c]
def pall (l : List (Int × Part)) : List Value := l.flatMap pcell
def tall (l : List Tl) : List Value := l.flatMap tcells
/-- The document's loader. -/
structure Dc where
  r : Nat
  name : ByteArray
  left : Nat
  OA : Option Addr
  oc : Nat
  ps : List (Int × Part)
  room : Nat
  IA : Option Addr
  ic : Nat
  ts : List Tl
  known : Bool
  head : Int
  m : Man
  wants : Int
  err : Int
def Dc.cells (d : Dc) : Array Value := (.pointer (some ⟨d.r, 0, none⟩) :: .string d.name :: .int .i64 d.left :: .slice d.OA d.ps.length d.oc :: .int .i64 d.room :: .slice d.IA d.ts.length d.ic :: .bool d.known :: .int .i64 d.head :: (d.m.cells.toList ++ [.int .i64 d.wants, .int .i64 d.err])).toArray
section
variable {d : Dc}
theorem Dc.size (ok : d.m.Ok) : d.cells.size = 47 := by
  have := Man.cells_size ok
  simp [Dc.cells, this]
theorem Dc.gm (ok : d.m.Ok) (j : Nat) (hj : j < 37) : d.cells[8 + j]? = d.m.cells[j]? := by
  have hs := Man.cells_size ok
  unfold Dc.cells
  rw [List.getElem?_toArray]
  rw [show 8 + j = j + 1 + 1 + 1 + 1 + 1 + 1 + 1 + 1 by omega]
  simp only [List.getElem?_cons_succ]
  rw [List.getElem?_append_left (by simp; omega)]
  simp
theorem Dc.g45 (ok : d.m.Ok) : d.cells[45]? = some (.int .i64 d.wants) := by
  have hs := Man.cells_size ok
  unfold Dc.cells
  rw [List.getElem?_toArray]
  simp only [List.getElem?_cons_succ]
  rw [List.getElem?_append_right (by simp; omega)]
  simp [hs]
theorem Dc.g46 (ok : d.m.Ok) : d.cells[46]? = some (.int .i64 d.err) := by
  have hs := Man.cells_size ok
  unfold Dc.cells
  rw [List.getElem?_toArray]
  simp only [List.getElem?_cons_succ]
  rw [List.getElem?_append_right (by simp; omega)]
  simp [hs]
theorem Dc.s2 (x : Nat) : d.cells.setIfInBounds 2 (.int .i64 (x : Int)) = ({ d with left := x } : Dc).cells := by simp [Dc.cells]
theorem Dc.s3 (A : Option Addr) (c : Nat) (ps : List (Int × Part)) : d.cells.setIfInBounds 3 (.slice A ps.length c) = ({ d with OA := A, oc := c, ps := ps } : Dc).cells := by simp [Dc.cells]
theorem Dc.s5 (A : Option Addr) (c : Nat) (ts : List Tl) : d.cells.setIfInBounds 5 (.slice A ts.length c) = ({ d with IA := A, ic := c, ts := ts } : Dc).cells := by simp [Dc.cells]
theorem Dc.s6 (x : Bool) : d.cells.setIfInBounds 6 (.bool x) = ({ d with known := x } : Dc).cells := by simp [Dc.cells]
theorem Dc.s7 (x : Int) : d.cells.setIfInBounds 7 (.int .i64 x) = ({ d with head := x } : Dc).cells := by simp [Dc.cells]
theorem Dc.s45 (ok : d.m.Ok) (x : Int) : d.cells.setIfInBounds 45 (.int .i64 x) = ({ d with wants := x } : Dc).cells := by
  have hs := Man.cells_size ok
  unfold Dc.cells
  rw [List.setIfInBounds_toArray]
  simp only [List.set_cons_succ]
  rw [List.set_append_right _ _ (by simp; omega)]
  simp [hs]
theorem Dc.s46 (ok : d.m.Ok) (x : Int) : d.cells.setIfInBounds 46 (.int .i64 x) = ({ d with err := x } : Dc).cells := by
  have hs := Man.cells_size ok
  unfold Dc.cells
  rw [List.setIfInBounds_toArray]
  simp only [List.set_cons_succ]
  rw [List.set_append_right _ _ (by simp; omega)]
  simp [hs]
theorem Dc.sm (ok : d.m.Ok) (m : Man) (mok : m.Ok) : setMany d.cells 8 m.cells.toList = ({ d with m := m } : Dc).cells := by
  have hs := Man.cells_size ok
  have hm := Man.cells_size mok
  have key := setMany_mid
    (.pointer (some ⟨d.r, 0, none⟩) :: .string d.name :: .int .i64 d.left :: .slice d.OA d.ps.length d.oc :: .int .i64 d.room :: .slice d.IA d.ts.length d.ic :: .bool d.known :: [.int .i64 d.head]) d.m.cells.toList m.cells.toList [.int .i64 d.wants, .int .i64 d.err] (by simp [hs, hm])
  unfold Dc.cells
  exact key
end
abbrev dcB (b : Nat) (d : Dc) : Nat × Obj := (b, .cells d.cells 87 (0, 0))
def Dc.tryD (d : Dc) : Dc := if d.left = 0 then { d with err := 191 } else { d with left := d.left - 1 }
section
variable {W w : World} {J : Nat → Option Obj} {b : Nat} {d : Dc} {X F : List (Nat × Obj)}
theorem dc_cells (ok : d.m.Ok) (h : St W w J X) (hm : dcB b d ∈ X) : w.cell? ⟨b, 0, none⟩ = some (.pointer (some ⟨d.r, 0, none⟩)) ∧ w.cell? ⟨b, 1, none⟩ = some (.string d.name) ∧ w.cell? ⟨b, 2, none⟩ = some (.int .i64 d.left) ∧ w.cell? ⟨b, 3, none⟩ = some (.slice d.OA d.ps.length d.oc) ∧
    w.cell? ⟨b, 4, none⟩ = some (.int .i64 d.room) ∧ w.cell? ⟨b, 5, none⟩ = some (.slice d.IA d.ts.length d.ic) ∧ w.cell? ⟨b, 6, none⟩ = some (.bool d.known) ∧ w.cell? ⟨b, 7, none⟩ = some (.int .i64 d.head) ∧ w.cell? ⟨b, 44, none⟩ = some (.slice d.m.A d.m.n d.m.c) ∧ w.cell? ⟨b, 45, none⟩ = some (.int .i64 d.wants) ∧ w.cell? ⟨b, 46, none⟩ = some (.int .i64 d.err) :=
  ⟨h.cell hm 0, h.cell hm 1, h.cell hm 2, h.cell hm 3, h.cell hm 4, h.cell hm 5, h.cell hm 6, h.cell hm 7, (h.cell hm 44).trans ((Dc.gm ok 36 (by omega)).trans (Man.g36 ok)), (h.cell hm 45).trans (Dc.g45 ok), (h.cell hm 46).trans (Dc.g46 ok)⟩
theorem dc_frozen (h : St W w J X) (hm : dcB b d ∈ X) (i : Nat) : w.frozen? ⟨b, i, none⟩ = false := h.frozen hm i
theorem dc_man (ok : d.m.Ok) (h : St W w J X) (hm : dcB b d ∈ X) : w.rangeAt b 8 d.m.cells.toList := fun j u hj => by
  have hj37 : j < 37 := by have := (List.getElem?_eq_some_iff.1 hj).1; rw [Array.length_toList, Man.cells_size ok] at this; exact this
  rw [h.cell hm (8 + j), Dc.gm ok j hj37]
  simpa using hj
set_option maxRecDepth 100000 in
set_option maxHeartbeats 2000000 in
theorem rl_try (ok : d.m.Ok) (hl : d.left ≤ 100) (h : St W w J (dcB b d :: F)) :
    Calls Tryd.prog 54 #[.pointer (some ⟨b, 0, none⟩)] w fun e w' => e = .returned (.tuple #[]) ∧ St W w' J (dcB b d.tryD :: F) := by
  obtain ⟨_, _, c2, _⟩ := dc_cells ok h (List.mem_cons_self ..)
  have f2 := dc_frozen h (List.mem_cons_self ..) 2
  have f46 := dc_frozen h (List.mem_cons_self ..) 46
  by_cases hz : d.left = 0
  · have h1 := St.set (A := []) h 46 (.int .i64 191)
    rw [Dc.s46 ok] at h1
    have e : d.tryD = { d with err := 191 } := if_pos hz
    rw [e]
    rw [hz] at c2
    have H := Lib.hid h1
    clear h1 h e hz
    go_enter Tryd.func54, Tryd.ntmps54
    go_wp2_with fail
    refine bodyPost_ret (results_none rfl _ _ _) rfl ?_
    exact ⟨rfl, H.out⟩
  · have h1 := St.set (A := []) h 2 (.int .i64 ((d.left - 1 : Nat) : Int))
    rw [Dc.s2] at h1
    have e : d.tryD = { d with left := d.left - 1 } := if_neg hz
    rw [e]
    have hc : ((d.left - 1 : Nat) : Int) = (d.left : Int) - 1 := by omega
    rw [hc] at h1
    have hzb : ((d.left : Int) == 0) = false := by simp; omega
    have H := Lib.hid h1
    clear h1 h e hz hc
    go_enter Tryd.func54, Tryd.ntmps54
    go_wp2_with fail
    go_end0
    exact ⟨rfl, H.out⟩
end
end

section
set_option linter.unusedVariables false
set_option linter.unusedSimpArgs false
open Go.RowKit Go.Lib

theorem wpList_load_midg (n : Nat) {P : Program} {ops : Array Oper} {rest : List Oper} {o : Oper} {a : Act} {w : World} {Q : Exit → Act → World → Prop} (hn : o.dst = some n) (hw : Region.wanted o (yielded ops a.tmps) = true) (ty : TypeId) (x : Operand) (ho : o.op = .load ty x) (b off : Nat) (hx : a.eval x = .pointer (some ⟨b, off, none⟩)) (cs : Array Value) (d : TypeDesc) (hc : w.rangeAt b off cs.toList)
    (hu : P.underlying ty = some d) (hd : d.isRow = true) (hi : (P.info? ty).map (·.size) = some cs.size) (h : wpList P ops Q rest (a.put o.dst (.agg cs)) w) : wpList P ops Q (o :: rest) a w :=
  wpList_step fun K hK => by
    rw [if_pos hw]
    exact wp_load_mid ty x ho b off hx cs.toList d hc hu hd (by simpa using hi) (hK _ _ (by simpa using h))
def Dc.againD (d : Dc) (t : Tl) : Bool := decide (t.kind = 1) && ((!d.known && decide (t.at_ = -1)) || (d.known && decide (0 ≤ t.at_) && decide (t.at_ < d.m.n)))
def Dc.goD (d : Dc) (t : Tl) : Bool := decide (t.kind = 2) && !d.known && rightM t.m && decide (0 ≤ t.head) && decide (t.head ≤ 2304)
def Dc.followD (d : Dc) (t : Tl) : Dc :=
  if d.againD t = true then (if d.left = 0 then { d with err := 191 } else { d with left := d.left - 1, wants := t.at_ })
  else if d.goD t = true then { d with known := true, m := t.m, head := t.head, wants := 0 } else { d with err := 192 }
theorem Dc.tryD_ok {d : Dc} (ok : d.m.Ok) : d.tryD.m.Ok := by unfold Dc.tryD; split <;> exact ok
section
variable {W w : World} {J : Nat → Option Obj} {b : Nat} {d : Dc} {t : Tl} {X F : List (Nat × Obj)}
theorem tl_cells (ok : t.m.Ok) {g : Nat} (h : St W w J X) (hm : (g, Obj.cells t.arr 71 (0, 0)) ∈ X) : w.cell? ⟨g, 0, none⟩ = some (.int .i64 t.kind) ∧ w.cell? ⟨g, 1, none⟩ = some (.int .i64 t.at_) ∧ w.cell? ⟨g, 2, none⟩ = some (.int .i64 t.head) ∧ w.rangeAt g 3 t.m.cells.toList :=
  ⟨(h.cell hm 0).trans tl0, (h.cell hm 1).trans tl1, (h.cell hm 2).trans tl2, fun j u hj => by
    have hj37 : j < 37 := by have := (List.getElem?_eq_some_iff.1 hj).1; rw [Array.length_toList, Man.cells_size ok] at this; exact this
    rw [h.cell hm (3 + j), tlm ok j hj37]
    simpa using hj⟩
set_option maxRecDepth 100000 in
set_option maxHeartbeats 4000000 in
theorem rl_follow (tb : TB W J) (ok : d.m.Ok) (hl : d.left ≤ 100) (he : d.err = 0) (tok : t.m.Ok) (hp : t.m.prod.size ≤ 1000000000) (h : St W w J (dcB b d :: F)) :
    Calls Tryd.prog 51 #[.pointer (some ⟨b, 0, none⟩), .agg t.arr] w fun e w' => e = .returned (.tuple #[]) ∧ St W w' J (dcB b (d.followD t) :: F) := by
  obtain ⟨g, hg⟩ : ∃ g, w.heap.size = g := ⟨_, rfl⟩
  have h1 := h.alloc (.cells t.arr 71)
  rw [hg] at h1
  have h2 : ∀ k, St W ((w.alloc (.cells t.arr 71)).drewN k) J (dcB b d :: (g, .cells t.arr 71 (0, 0)) :: F) := fun k => (h1.drew k).perm (List.Perm.swap ..)
  obtain ⟨_, _, p2, _, _, _, p6, _, p44, p45, p46⟩ := dc_cells ok (h2 0) (List.mem_cons_self ..)
  obtain ⟨q0, q1, q2, qr⟩ := tl_cells tok (h2 0) (List.mem_cons_of_mem _ (List.mem_cons_self ..))
  have kT := fun k => rl_try ok hl (h2 k)
  have kR := fun k => rright13 tb t.m tok hp (h2 k)
  have hgd : (g, Obj.cells t.arr 71 (0, 0)) = (g, Obj.cells t.arr 71 (0, 0)) := rfl
  have hmi := man_info tok
  obtain ⟨AG, hAG⟩ : ∃ AG, d.againD t = AG := ⟨_, rfl⟩
  have hAD := hAG
  unfold Dc.againD at hAD
  have H2 := Lib.hid h2; have KT := Lib.hid kT; have KR := Lib.hid kR; have HAG := Lib.hid hAG; have QR := Lib.hid qr; have HMI := Lib.hid hmi
  have HAD := Lib.hid hAD
  clear h h1 h2 kT kR hAG qr hgd hmi hAD tb
  obtain ⟨TA, hTA⟩ : ∃ TA, t.arr = TA := ⟨_, rfl⟩
  rw [hTA] at H2 KT KR QR p2 p6 p44 p45 p46 q0 q1 q2 ⊢
  have HTA := Lib.hid hTA
  clear hTA
  obtain ⟨D', hD⟩ : ∃ D', d.followD t = D' := ⟨_, rfl⟩
  rw [hD]
  have HDF := Lib.hid hD
  clear hD
  go_enter Tryd.func51, Tryd.ntmps51
  go_upto_region 1 with fail
  go_cut [4] (fun s4 wx => s4 = .bool AG ∧ ∃ k, wx = (w.alloc (.cells TA 71)).drewN k)
  case first =>
    have q0' : (w.alloc (.cells TA 71)).cell? ⟨g, 0, none⟩ = some (.int .i64 t.kind) := q0
    have q1' : (w.alloc (.cells TA 71)).cell? ⟨g, 1, none⟩ = some (.int .i64 t.at_) := q1
    have p6' : (w.alloc (.cells TA 71)).cell? ⟨b, 6, none⟩ = some (.bool d.known) := p6
    have p44' : (w.alloc (.cells TA 71)).cell? ⟨b, 44, none⟩ = some (.slice d.m.A d.m.n d.m.c) := p44
    clear p2 p6 p44 p45 p46 q0 q1 q2
    have had := HAD.out
    by_cases k1 : t.kind = 1
    · have b1 : (t.kind == 1) = true := by simpa using k1
      cases hk : d.known with
      | false =>
        rw [hk] at p6' had
        by_cases a1 : t.at_ = -1
        · have b2 : (t.at_ == -1) = true := by simpa using a1
          have e : AG = true := by rw [← had]; simp [k1, a1]
          subst e
          go_quiet (fail)
          go_wp2_with fail
          go_meet
          exact ⟨rfl, _, rfl⟩
        · have b2 : (t.at_ == -1) = false := by simpa using a1
          have e : AG = false := by rw [← had]; simp [k1, a1]
          subst e
          go_quiet (fail)
          go_wp2_with fail
          go_meet
          exact ⟨rfl, _, rfl⟩
      | true =>
        rw [hk] at p6' had
        by_cases a1 : 0 ≤ t.at_
        · have b2 : decide (0 ≤ t.at_) = true := decide_eq_true a1
          have b2' : ¬ t.at_ < 0 := by omega
          by_cases a2 : t.at_ < d.m.n
          · have b3 : decide (t.at_ < (d.m.n : Int)) = true := decide_eq_true a2
            have e : AG = true := by rw [← had]; simp [k1, a1, a2]
            subst e
            go_quiet (fail)
            go_wp2_with fail
            go_meet
            exact ⟨rfl, _, rfl⟩
          · have b3 : decide (t.at_ < (d.m.n : Int)) = false := decide_eq_false a2
            have e : AG = false := by rw [← had]; simp [k1, a1, a2]
            subst e
            go_quiet (fail)
            go_wp2_with fail
            go_meet
            exact ⟨rfl, _, rfl⟩
        · have b2 : decide (0 ≤ t.at_) = false := decide_eq_false a1
          have b2' : t.at_ < 0 := by omega
          have e : AG = false := by rw [← had]; simp [k1, a1]
          subst e
          go_quiet (fail)
          go_wp2_with fail
          go_meet
          exact ⟨rfl, _, rfl⟩
    · have b1 : (t.kind == 1) = false := by simpa using k1
      have e : AG = false := by rw [← had]; simp [k1]
      subst e
      go_quiet (fail)
      go_wp2_with fail
      go_meet
      exact ⟨rfl, _, rfl⟩
  case rest =>
    obtain ⟨rfl, k, rfl⟩ := hcut
    clear p2 p6 p44 p45 p46 q0 q1 q2 HAD
    obtain ⟨_, _, p2, _, _, _, p6, _, p44, p45, p46⟩ := dc_cells ok (H2.out k) (List.mem_cons_self ..)
    have hqs := fun (v : World) (X : List (Nat × Obj)) (hv : St W v J X) (hm : (g, Obj.cells TA 71 (0, 0)) ∈ X) => tl_cells (t := t) tok hv (by rw [HTA.out]; exact hm)
    obtain ⟨q0, q1, q2, qr⟩ := hqs _ _ (H2.out k) (List.mem_cons_of_mem _ (List.mem_cons_self ..))
    cases AG with
    | true =>
      have hfd : D' = (if d.left = 0 then { d with err := 191 } else { d with left := d.left - 1, wants := t.at_ }) := HDF.out.symm.trans (if_pos HAG.out)
      have HFD := Lib.hid hfd
      have KTk := Lib.hid (KT.out k); have HQS := Lib.hid hqs
      clear hfd hqs qr p2 p6 p44 p45 p46 q0 q1 q2
      generalize (w.alloc (.cells TA 71)).drewN k = w2 at *
      go_wp2_with fail
      refine KTk.out.mono ?_
      rintro e w3 ⟨rfl, h3⟩
      obtain ⟨_, q1, _, _⟩ := HQS.out _ _ h3 (List.mem_cons_of_mem _ (List.mem_cons_self ..))
      by_cases hz : d.left = 0
      · have HE := Lib.hid (HFD.out.trans (if_pos hz))
        have e : d.tryD = { d with err := 191 } := if_pos hz
        rw [e] at h3
        obtain ⟨_, _, _, _, _, _, _, _, _, _, p46⟩ := dc_cells (by exact ok) h3 (List.mem_cons_self ..)
        have p46 : w3.cell? ⟨b, 46, none⟩ = some (.int .i64 191) := p46
        have HX := Lib.hid (St.mid (A := [_]) (B := [_]) h3)
        clear h3 e
        go_wp2_with fail
        refine bodyPost_ret (results_none rfl _ _ _) rfl ?_
        exact ⟨rfl, by rw [HE.out]; exact HX.out⟩
      · have HE := Lib.hid (HFD.out.trans (if_neg hz))
        have e : d.tryD = { d with left := d.left - 1 } := if_neg hz
        rw [e] at h3
        obtain ⟨_, _, _, _, _, _, _, _, _, p45, p46⟩ := dc_cells (by exact ok) h3 (List.mem_cons_self ..)
        have p46 : w3.cell? ⟨b, 46, none⟩ = some (.int .i64 d.err) := p46
        rw [he] at p46
        have f45 := dc_frozen h3 (List.mem_cons_self ..) 45
        have h4 := St.set (A := []) h3 45 (.int .i64 t.at_)
        rw [Dc.s45 (by exact ok)] at h4
        have HX := Lib.hid (St.mid (A := [_]) (B := [_]) h4)
        clear h3 h4 e
        go_wp2_with fail
        refine bodyPost_ret (results_none rfl _ _ _) rfl ?_
        exact ⟨rfl, by rw [HE.out]; exact HX.out⟩
    | false =>
      have hfd : D' = (if d.goD t = true then { d with known := true, m := t.m, head := t.head, wants := 0 } else { d with err := 192 }) := HDF.out.symm.trans (if_neg (by rw [HAG.out]; decide))
      have KRk := Lib.hid (KR.out k); have HX2 := Lib.hid (H2.out k); have QR := Lib.hid qr; have HQS := Lib.hid hqs
      have f6 := dc_frozen (H2.out k) (List.mem_cons_self ..) 6
      have f46 := dc_frozen (H2.out k) (List.mem_cons_self ..) 46
      have f7 := dc_frozen (H2.out k) (List.mem_cons_self ..) 7
      have f45 := dc_frozen (H2.out k) (List.mem_cons_self ..) 45
      have hno := St.set (A := []) (H2.out k) 46 (.int .i64 192)
      rw [Dc.s46 ok] at hno
      have HNO := Lib.hid (St.mid (A := [_]) (B := [_]) hno)
      obtain ⟨MT, hMT⟩ : ∃ MT, t.m.cells = MT := ⟨_, rfl⟩
      obtain ⟨RM, hRM⟩ : ∃ RM, rightM t.m = RM := ⟨_, rfl⟩
      obtain ⟨G, hG⟩ : ∃ G, d.goD t = G := ⟨_, rfl⟩
      have hgd := hG
      unfold Dc.goD at hgd
      unfold Man.val at KRk
      rw [hMT] at KRk QR HMI
      rw [hRM] at KRk hgd
      rw [hG] at hfd
      have HFD := Lib.hid hfd
      have HGD := Lib.hid hgd; have HMT := Lib.hid hMT
      clear hfd hno qr hqs hMT hRM hG hgd KR KT H2 HAG
      generalize (w.alloc (.cells TA 71)).drewN k = w2 at *
      have hld := QR.out
      by_cases k2 : t.kind = 2
      · have b1 : (t.kind != 2) = false := by simp [k2]
        cases hk : d.known with
        | true =>
          have e : G = false := by rw [← HGD.out]; simp [hk]
          subst e
          rw [hk] at p6
          have HE := Lib.hid (HFD.out.trans (if_neg (by decide)))
          clear HX2
          go_wp2_with (first | (with_reducible refine wpList_load_midg 66 rfl (by kernel_rfl) 53 (.tmp 65) rfl g 3 rfl MT _ QR.out Tryd.underlying53 rfl HMI.out ?_) | (go_at_call 45; refine KRk.out.mono ?_; rintro e w3 ⟨rfl, h3⟩; obtain ⟨_, _, q2, _⟩ := HQS.out _ _ h3 (List.mem_cons_of_mem _ (List.mem_cons_self ..)); obtain ⟨_, _, _, _, _, _, _, _, _, _, p46⟩ := dc_cells ok h3 (List.mem_cons_self ..); have f46 := dc_frozen h3 (List.mem_cons_self ..) 46; have hno := St.set (A := []) h3 46 (.int .i64 192); rw [Dc.s46 ok] at hno; have HNO := Lib.hid (St.mid (A := [_]) (B := [_]) hno); clear h3 hno))
          refine bodyPost_ret (results_none rfl _ _ _) rfl ?_
          exact ⟨rfl, by rw [HE.out]; exact HNO.out⟩
        | false =>
          rw [hk] at p6
          cases RM with
          | false =>
            have e : G = false := by rw [← HGD.out]; simp
            subst e
            have HE := Lib.hid (HFD.out.trans (if_neg (by decide)))
            clear HX2
            go_wp2_with (first | (with_reducible refine wpList_load_midg 66 rfl (by kernel_rfl) 53 (.tmp 65) rfl g 3 rfl MT _ QR.out Tryd.underlying53 rfl HMI.out ?_) | (go_at_call 45; refine KRk.out.mono ?_; rintro e w3 ⟨rfl, h3⟩; obtain ⟨_, _, q2, _⟩ := HQS.out _ _ h3 (List.mem_cons_of_mem _ (List.mem_cons_self ..)); obtain ⟨_, _, _, _, _, _, _, _, _, _, p46⟩ := dc_cells ok h3 (List.mem_cons_self ..); have f46 := dc_frozen h3 (List.mem_cons_self ..) 46; have hno := St.set (A := []) h3 46 (.int .i64 192); rw [Dc.s46 ok] at hno; have HNO := Lib.hid (St.mid (A := [_]) (B := [_]) hno); clear h3 hno))
            refine bodyPost_ret (results_none rfl _ _ _) rfl ?_
            exact ⟨rfl, by rw [HE.out]; exact HNO.out⟩
          | true =>
            by_cases g1 : t.head < 0
            · have e : G = false := by rw [← HGD.out]; simp; omega
              subst e
              have HE := Lib.hid (HFD.out.trans (if_neg (by decide)))
              clear HX2
              go_wp2_with (first | (with_reducible refine wpList_load_midg 66 rfl (by kernel_rfl) 53 (.tmp 65) rfl g 3 rfl MT _ QR.out Tryd.underlying53 rfl HMI.out ?_) | (go_at_call 45; refine KRk.out.mono ?_; rintro e w3 ⟨rfl, h3⟩; obtain ⟨_, _, q2, _⟩ := HQS.out _ _ h3 (List.mem_cons_of_mem _ (List.mem_cons_self ..)); obtain ⟨_, _, _, _, _, _, _, _, _, _, p46⟩ := dc_cells ok h3 (List.mem_cons_self ..); have f46 := dc_frozen h3 (List.mem_cons_self ..) 46; have hno := St.set (A := []) h3 46 (.int .i64 192); rw [Dc.s46 ok] at hno; have HNO := Lib.hid (St.mid (A := [_]) (B := [_]) hno); clear h3 hno))
              refine bodyPost_ret (results_none rfl _ _ _) rfl ?_
              exact ⟨rfl, by rw [HE.out]; exact HNO.out⟩
            · have g1b : decide (t.head < 0) = false := decide_eq_false g1
              by_cases g2 : 2304 < t.head
              · have e : G = false := by rw [← HGD.out]; simp; omega
                subst e
                have HE := Lib.hid (HFD.out.trans (if_neg (by decide)))
                clear HX2
                go_wp2_with (first | (with_reducible refine wpList_load_midg 66 rfl (by kernel_rfl) 53 (.tmp 65) rfl g 3 rfl MT _ QR.out Tryd.underlying53 rfl HMI.out ?_) | (go_at_call 45; refine KRk.out.mono ?_; rintro e w3 ⟨rfl, h3⟩; obtain ⟨_, _, q2, _⟩ := HQS.out _ _ h3 (List.mem_cons_of_mem _ (List.mem_cons_self ..)); obtain ⟨_, _, _, _, _, _, _, _, _, _, p46⟩ := dc_cells ok h3 (List.mem_cons_self ..); have f46 := dc_frozen h3 (List.mem_cons_self ..) 46; have hno := St.set (A := []) h3 46 (.int .i64 192); rw [Dc.s46 ok] at hno; have HNO := Lib.hid (St.mid (A := [_]) (B := [_]) hno); clear h3 hno))
                refine bodyPost_ret (results_none rfl _ _ _) rfl ?_
                exact ⟨rfl, by rw [HE.out]; exact HNO.out⟩
              · have g2b : decide (2304 < t.head) = false := decide_eq_false g2
                have e : G = true := by rw [← HGD.out]; simp [k2, hk]; omega
                subst e
                have HE := Lib.hid (HFD.out.trans (if_pos rfl))
                clear HFD HX2
                go_wp2_with (with_reducible refine wpList_load_midg 66 rfl (by kernel_rfl) 53 (.tmp 65) rfl g 3 rfl MT _ QR.out Tryd.underlying53 rfl HMI.out ?_)
                refine KRk.out.mono ?_
                rintro e w3 ⟨rfl, h2⟩
                obtain ⟨_, _, q2, _⟩ := HQS.out _ _ h2 (List.mem_cons_of_mem _ (List.mem_cons_self ..))
                obtain ⟨_, _, _, _, _, _, p6, p7, _, p45, _⟩ := dc_cells ok h2 (List.mem_cons_self ..)
                have f6 := dc_frozen h2 (List.mem_cons_self ..) 6
                have h3 := St.set (A := []) h2 6 (.bool true)
                rw [Dc.s6] at h3
                obtain ⟨_, _, _, qr3⟩ := HQS.out _ _ h3 (List.mem_cons_of_mem _ (List.mem_cons_self ..))
                rw [HMT.out] at qr3
                have hfit : 8 + MT.size ≤ ({ d with known := true } : Dc).cells.size := by rw [Dc.size (by exact ok), ← HMT.out, Man.cells_size tok]; omega
                have hsm := Dc.sm (d := { d with known := true }) (by exact ok) t.m tok
                rw [HMT.out] at hsm
                have hone := Man.one t.m
                rw [HMT.out] at hone
                have H3 := Lib.hid h3; have QR3 := Lib.hid qr3; have HFIT := Lib.hid hfit; have HSM := Lib.hid hsm; have HONE := Lib.hid hone
                clear h2 h3 qr3 hfit hsm hone hld QR KRk f46 f7 f45
                go_wp2_with (first | (with_reducible refine wpList_load_mid rfl 53 (.tmp 87) rfl g 3 rfl MT.toList _ QR3.out Tryd.underlying53 rfl (by rw [Array.length_toList]; exact HMI.out) ?_) | (with_reducible refine wpList_store_st rfl 53 (.tmp 90) (.tmp 88) rfl (g := b) (off := 8) MT rfl rfl H3.out HFIT.out HMI.out HONE.out ?_; intro w9 h9; refine Hid.out ?_))
                refine Lib.hid ?_
                rw [HSM.out] at h9
                clear q2 p6 p7 p45 f6
                obtain ⟨_, _, q2, _⟩ := HQS.out _ _ h9 (List.mem_cons_of_mem _ (List.mem_cons_self ..))
                obtain ⟨_, _, _, _, _, _, _, p7, _, p45, _⟩ := dc_cells (by exact tok) h9 (List.mem_cons_self ..)
                have f7 := dc_frozen h9 (List.mem_cons_self ..) 7
                have f45 := dc_frozen h9 (List.mem_cons_self ..) 45
                have h10 := St.set (A := []) h9 7 (.int .i64 t.head)
                rw [Dc.s7] at h10
                have h11 := St.set (A := []) h10 45 (.int .i64 0)
                rw [Dc.s45 (by exact tok)] at h11
                have HX := Lib.hid (St.mid (A := [_]) (B := [_]) h11)
                clear h9 h10 h11 H3
                go_wp2_with fail
                go_end0
                exact ⟨rfl, by rw [HE.out]; exact HX.out⟩
      · have b1 : (t.kind != 2) = true := by simpa using k2
        have e : G = false := by rw [← HGD.out]; simp [k2]
        subst e
        have HE := Lib.hid (HFD.out.trans (if_neg (by decide)))
        clear HX2
        go_wp2_with (first | (with_reducible refine wpList_load_midg 66 rfl (by kernel_rfl) 53 (.tmp 65) rfl g 3 rfl MT _ QR.out Tryd.underlying53 rfl HMI.out ?_) | (go_at_call 45; refine KRk.out.mono ?_; rintro e w3 ⟨rfl, h3⟩; obtain ⟨_, _, q2, _⟩ := HQS.out _ _ h3 (List.mem_cons_of_mem _ (List.mem_cons_self ..)); obtain ⟨_, _, _, _, _, _, _, _, _, _, p46⟩ := dc_cells ok h3 (List.mem_cons_self ..); have f46 := dc_frozen h3 (List.mem_cons_self ..) 46; have hno := St.set (A := []) h3 46 (.int .i64 192); rw [Dc.s46 ok] at hno; have HNO := Lib.hid (St.mid (A := [_]) (B := [_]) hno); clear h3 hno))
        refine bodyPost_ret (results_none rfl _ _ _) rfl ?_
        exact ⟨rfl, by rw [HE.out]; exact HNO.out⟩
end
end
end Go.Proofs.YtnhlpiomfljlcaaDoor
