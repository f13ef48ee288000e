/- call: a desk, in plain Lean: what is pending, cell by cell. call: a desk: New, client, Pending, Waiting: walk. -/
import Derived.Test.YtjcekmmieihllaaDoorCallA
import Derived.Test.YtjcekmmieihllaaDoorSlX
import Derived.Laws.MakeOwn
namespace Go.Proofs.YtjcekmmieihllaaDoor
section
set_option linter.unusedVariables false
set_option linter.unusedSimpArgs false
set_option linter.unnecessarySimpa false
open Go.RowKit Go.Lib

/-- A reply. -/
structure Rp where
  err : Int
  job : Int
  state : Int
  slot : Int
  fault : Int
  s0 : Slt
  s1 : Slt
  act : Int
  boo : Int
  flo : Int
def zR : Rp := ⟨0, 0, 0, 0, 0, zS, zS, 0, 0, 0⟩
structure Rp.Ok (r : Rp) : Prop where
  e0 : -9223372036854775808 ≤ r.err
  e1 : r.err ≤ 9223372036854775807
  j0 : -9223372036854775808 ≤ r.job
  j1 : r.job ≤ 9223372036854775807
  t0 : -9223372036854775808 ≤ r.state
  t1 : r.state ≤ 9223372036854775807
  l0 : -9223372036854775808 ≤ r.slot
  l1 : r.slot ≤ 9223372036854775807
  f0 : -9223372036854775808 ≤ r.fault
  f1 : r.fault ≤ 9223372036854775807
  s0 : r.s0.Ok
  s1 : r.s1.Ok
  a0 : -9223372036854775808 ≤ r.act
  a1 : r.act ≤ 9223372036854775807
  b0 : -9223372036854775808 ≤ r.boo
  b1 : r.boo ≤ 9223372036854775807
  o0 : 0 ≤ r.flo
  o1 : r.flo ≤ 18446744073709551615
theorem zR_ok : zR.Ok := ⟨by decide, by decide, by decide, by decide, by decide, by decide, by decide, by decide, by decide, by decide, zS_ok, zS_ok, by decide, by decide, by decide, by decide, by decide, by decide⟩
def Rp.list (r : Rp) : List Value := [Value.int .i64 r.err, .int .i64 r.job, .int .i64 r.state, .int .i64 r.slot, .int .i64 r.fault] ++ (r.s0.cells.toList ++ (r.s1.cells.toList ++ [.int .i64 r.act, .int .i64 r.boo, .int .u64 r.flo]))
def Rp.cells (r : Rp) : Array Value := r.list.toArray
theorem Rp.len (r : Rp) (ok : r.Ok) : r.list.length = 80 := by
  have h0 := Slt.size ok.s0.dig
  have h1 := Slt.size ok.s1.dig
  unfold Rp.list
  simp only [List.length_append, List.length_cons, List.length_nil, Array.length_toList]
  omega
theorem Rp.size (r : Rp) (ok : r.Ok) : r.cells.size = 80 := by unfold Rp.cells; rw [List.size_toArray]; exact r.len ok
theorem Rp.at0 (r : Rp) : r.cells[0]? = some (.int .i64 r.err) := rfl
theorem Rp.one (r : Rp) : r.cells.all (·.oneCell') = true := by
  unfold Rp.cells Rp.list
  rw [List.all_toArray, List.all_append, List.all_append, List.all_append]
  have h0 := Slt.one r.s0
  have h1 := Slt.one r.s1
  rw [← Array.all_toList] at h0 h1
  rw [h0, h1]
  rfl
/-- What is pending of a client. -/
structure Pn where
  call : Cl
  serial : Int
  stage : Int
  rep : Rp
def zP : Pn := ⟨zC, 0, 0, zR⟩
structure Pn.Ok (p : Pn) : Prop where
  c : p.call.Ok
  r : p.rep.Ok
  n : p.call.name.size ≤ 1000000
theorem zC_ok : zC.Ok := ⟨by decide, by decide, by decide, by decide, by decide, by decide, by decide, by decide, by decide⟩
theorem zP_ok : zP.Ok := ⟨zC_ok, zR_ok, by decide⟩
def Pn.list (p : Pn) : List Value := [Value.int .i64 p.call.client, .int .i64 p.call.kind, .int .i64 p.call.slot, .int .i64 p.call.job, .string p.call.name, .int .i64 p.serial, .int .i64 p.stage] ++ p.rep.list
def Pn.cells (p : Pn) : Array Value := p.list.toArray
theorem Pn.len (p : Pn) (ok : p.Ok) : p.list.length = 87 := by
  unfold Pn.list
  rw [List.length_append, p.rep.len ok.r]
  rfl
theorem Pn.size (p : Pn) (ok : p.Ok) : p.cells.size = 87 := by unfold Pn.cells; rw [List.size_toArray]; exact p.len ok
theorem Pn.one (p : Pn) : p.cells.all (·.oneCell') = true := by
  have h := p.rep.one
  unfold Rp.cells at h
  unfold Pn.cells Pn.list
  rw [List.all_toArray] at h ⊢
  rw [List.all_append, h]
  rfl
/-- The cells of rows of the same length. -/
theorem flat_len {α : Type} (m : Nat) : ∀ (l : List (List α)), (∀ x ∈ l, x.length = m) → l.flatten.length = l.length * m
  | [], _ => by simp
  | x :: l, h => by
    rw [List.flatten_cons, List.length_append, flat_len m l (fun y hy => h y (List.mem_cons_of_mem _ hy)), h x (List.mem_cons_self ..), List.length_cons, Nat.succ_mul]
    omega
theorem flat_get {α : Type} (m : Nat) : ∀ (l : List (List α)), (∀ x ∈ l, x.length = m) → ∀ (i j : Nat), j < m → (l.flatten)[i * m + j]? = (l[i]?).bind (·[j]?)
  | [], _, i, j, _ => by simp
  | x :: l, h, 0, j, hj => by
    rw [Nat.zero_mul, Nat.zero_add, List.flatten_cons, List.getElem?_append_left (by rw [h x (List.mem_cons_self ..)]; exact hj)]
    rfl
  | x :: l, h, i + 1, j, hj => by
    have hx := h x (List.mem_cons_self ..)
    rw [List.flatten_cons, List.getElem?_append_right (by rw [hx, Nat.succ_mul]; omega), hx, show (i + 1) * m + j - m = i * m + j by rw [Nat.succ_mul]; omega, flat_get m l (fun y hy => h y (List.mem_cons_of_mem _ hy)) i j hj]
    rfl
theorem flat_set {α : Type} (m : Nat) : ∀ (l : List (List α)), (∀ x ∈ l, x.length = m) → ∀ (i j : Nat) (x : List α) (v : α), l[i]? = some x → j < m → l.flatten.set (i * m + j) v = (l.set i (x.set j v)).flatten
  | [], _, i, j, x, v, hx, _ => by simp at hx
  | y :: l, h, 0, j, x, v, hx, hj => by
    simp only [List.getElem?_cons_zero, Option.some.injEq] at hx
    subst hx
    rw [Nat.zero_mul, Nat.zero_add, List.flatten_cons, List.set_append_left _ _ (by rw [h y (List.mem_cons_self ..)]; exact hj)]
    rfl
  | y :: l, h, i + 1, j, x, v, hx, hj => by
    have hy := h y (List.mem_cons_self ..)
    simp only [List.getElem?_cons_succ] at hx
    rw [List.flatten_cons, List.set_append_right _ _ (by rw [hy, Nat.succ_mul]; omega), hy, show (i + 1) * m + j - m = i * m + j by rw [Nat.succ_mul]; omega, flat_set m l (fun z hz => h z (List.mem_cons_of_mem _ hz)) i j x v hx hj]
    rfl
/-- A desk's cells. -/
def dcells (ps : List Pn) : Array Value := ((ps.map Pn.list).flatten).toArray
def AllOk (ps : List Pn) : Prop := ∀ p ∈ ps, p.Ok
theorem rows_len {ps : List Pn} (h : AllOk ps) : ∀ x ∈ ps.map Pn.list, x.length = 87 := fun x hx => by
  obtain ⟨p, hp, rfl⟩ := List.mem_map.1 hx
  exact p.len (h p hp)
theorem dcells_size {ps : List Pn} (h : AllOk ps) : (dcells ps).size = ps.length * 87 := by
  unfold dcells
  rw [List.size_toArray, flat_len 87 _ (rows_len h), List.length_map]
theorem dcells_get {ps : List Pn} (h : AllOk ps) {i : Nat} {p : Pn} (hi : ps[i]? = some p) (j : Nat) (hj : j < 87) : (dcells ps)[i * 87 + j]? = p.cells[j]? := by
  unfold dcells Pn.cells
  rw [List.getElem?_toArray, flat_get 87 _ (rows_len h) i j hj, List.getElem?_map, hi, List.getElem?_toArray]
  rfl
theorem dcells_set {ps : List Pn} (h : AllOk ps) {i : Nat} {p : Pn} (hi : ps[i]? = some p) (j : Nat) (hj : j < 87) (v : Value) (q : Pn) (hq : p.list.set j v = q.list) : (dcells ps).setIfInBounds (i * 87 + j) v = dcells (ps.set i q) := by
  unfold dcells
  apply Array.toList_inj.1
  rw [Array.toList_setIfInBounds, List.map_set, ← hq]
  show (ps.map Pn.list).flatten.set (i * 87 + j) v = _
  rw [flat_set 87 _ (rows_len h) i j p.list v (by rw [List.getElem?_map, hi]; rfl) hj]
theorem AllOk.set {ps : List Pn} (h : AllOk ps) (i : Nat) {q : Pn} (hq : q.Ok) : AllOk (ps.set i q) := fun p hp => by
  rcases List.mem_or_eq_of_mem_set hp with hp | rfl
  · exact h p hp
  · exact hq
/-- A whole row is stored. -/
theorem dcells_row {ps : List Pn} (h : AllOk ps) {i : Nat} (hi : i < ps.length) (q : Pn) (hq : q.Ok) : setMany (dcells ps) (i * 87) q.cells.toList = dcells (ps.set i q) := by
  have hs := dcells_size h
  have hs2 := dcells_size (h.set i hq)
  have hl : q.cells.toList.length = 87 := by rw [Array.length_toList]; exact q.size hq
  have hfit : i * 87 + q.cells.toList.length ≤ (dcells ps).size := by
    rw [hl, hs]
    have : (i + 1) * 87 ≤ ps.length * 87 := Nat.mul_le_mul_right _ hi
    omega
  rw [List.length_set] at hs2
  apply Array.ext_getElem?
  intro k
  rw [setMany_get _ _ _ _ hfit, hl]
  by_cases hk : k < ps.length * 87
  · have e : k = (k / 87) * 87 + k % 87 := by omega
    have hm : k % 87 < 87 := Nat.mod_lt _ (by omega)
    obtain ⟨p, hp⟩ : ∃ p, ps[k / 87]? = some p := ⟨_, List.getElem?_eq_getElem (by omega)⟩
    by_cases hki : k / 87 = i
    · have hp2 : (ps.set i q)[k / 87]? = some q := by rw [hki, List.getElem?_set_self hi]
      have e2 := dcells_get (h.set i hq) hp2 (k % 87) hm
      rw [← e] at e2
      rw [e2, if_pos (by omega), ← Array.getElem?_toList]
      congr 1
      omega
    · have hp2 : (ps.set i q)[k / 87]? = some p := by rw [List.getElem?_set_ne (by omega), hp]
      have e2 := dcells_get (h.set i hq) hp2 (k % 87) hm
      have e3 := dcells_get h hp (k % 87) hm
      rw [← e] at e2 e3
      rw [e2, if_neg (by omega), e3]
  · rw [if_neg (by omega), Array.getElem?_eq_none (by omega), Array.getElem?_eq_none (by omega)]
theorem pn_at (p : Pn) : p.cells[0]? = some (.int .i64 p.call.client) ∧ p.cells[1]? = some (.int .i64 p.call.kind) ∧ p.cells[2]? = some (.int .i64 p.call.slot) ∧ p.cells[3]? = some (.int .i64 p.call.job) ∧ p.cells[4]? = some (.string p.call.name) ∧ p.cells[5]? = some (.int .i64 p.serial) ∧ p.cells[6]? = some (.int .i64 p.stage) := ⟨rfl, rfl, rfl, rfl, rfl, rfl, rfl⟩
theorem pn_rep (p : Pn) (j : Nat) : p.cells[7 + j]? = p.rep.cells[j]? := by
  unfold Pn.cells Pn.list Rp.cells
  rw [List.getElem?_toArray, List.getElem?_append_right (by simp), List.getElem?_toArray]
  congr 1
  simp
/-- How many wait. -/
def waitD (ps : List Pn) : Nat := (ps.filter fun p => p.stage == 1).length
def dropN (ps : List Pn) : Nat := (ps.filter fun p => p.stage != 0).length
/-- A client's place; none: there is none such. -/
def askD (ps : List Pn) (last : Int) (c : Cl) : (List Pn × Int) × (Int × Int) :=
  if rightC c = true then
    (match ps[c.client.toNat]? with
     | none => ((ps, last), (0, 242))
     | some p => if p.stage = 0 then ((ps.set c.client.toNat ⟨c, last + 1, 1, zR⟩, last + 1), (last + 1, 0)) else ((ps, last), (0, 242)))
  else ((ps, last), (0, 241))
/-- The k-th of those that wait is taken up. -/
def pickD : List Pn → Nat → List Pn × (Int × Cl)
  | [], _ => ([], (0, zC))
  | p :: ps, k => if p.stage = 1 then (match k with
      | 0 => ({ p with stage := 2 } :: ps, (p.serial, p.call))
      | k + 1 => (p :: (pickD ps k).1, (pickD ps k).2))
    else (p :: (pickD ps k).1, (pickD ps k).2)
def nextD (ps : List Pn) (pick : Int) : List Pn × (Int × Cl × Bool) :=
  if waitD ps = 0 then (ps, (0, zC, false)) else ((pickD ps ((max pick 0).toNat % waitD ps)).1, ((pickD ps ((max pick 0).toNat % waitD ps)).2.1, (pickD ps ((max pick 0).toNat % waitD ps)).2.2, true))
def ansD : List Pn → Int → Rp → List Pn × Bool
  | [], _, _ => ([], false)
  | p :: ps, n, r => if p.stage = 2 ∧ p.serial = n then ({ p with stage := 3, rep := r } :: ps, true) else (p :: (ansD ps n r).1, (ansD ps n r).2)
def atD (ps : List Pn) (i : Int) : Option Pn := if 0 ≤ i then ps[i.toNat]? else none
def takeD (ps : List Pn) (i : Int) : List Pn × (Int × Rp × Bool) :=
  match atD ps i with
  | none => (ps, (0, zR, false))
  | some p => if p.stage = 3 then (ps.set i.toNat zP, (p.serial, p.rep, true)) else (ps, (0, zR, false))
def pendD (ps : List Pn) (i : Int) : Int := match atD ps i with | none => 0 | some p => p.serial
end

section
set_option linter.unusedVariables false
set_option linter.unusedSimpArgs false
set_option linter.unnecessarySimpa false
open Go.RowKit Go.Lib

section
variable {W w : World} {I : Nat → Option Obj} {F : List (Nat × Obj)} {gd gc : Nat} {ps : List Pn} {last : Int}
theorem made_flat (m : Nat) (hm : 0 < m) (l : List Value) (hl : l.length = m) (k : Nat) : madeCells l.toArray (k * m) = ((List.replicate k l).flatten).toArray := by
  have hlen : ((List.replicate k l).flatten).length = k * m := by
    rw [flat_len m _ (fun x hx => by rw [List.eq_of_mem_replicate hx]; exact hl), List.length_replicate]
  apply Array.ext_getElem?
  intro j
  by_cases hj : j < k * m
  · have e : j = (j / m) * m + j % m := (Nat.div_add_mod' j m).symm
    have hq : j / m < k := Nat.div_lt_of_lt_mul (by rwa [Nat.mul_comm])
    have hr : j % m < m := Nat.mod_lt _ hm
    have e1 : (madeCells l.toArray (k * m))[j]? = some (l.toArray[j % m]!) := by
      unfold madeCells
      rw [Array.getElem?_map, Array.getElem?_range, if_pos hj]
      simp [hl]
    have e2 := flat_get m (List.replicate k l) (fun x hx => by rw [List.eq_of_mem_replicate hx]; exact hl) (j / m) (j % m) hr
    rw [← e] at e2
    rw [e1, List.getElem?_toArray, e2, List.getElem?_replicate, if_pos hq]
    simp [hl, hr]
  · rw [Array.getElem?_eq_none (by rw [size_madeCells]; omega), Array.getElem?_eq_none (by rw [List.size_toArray, hlen]; omega)]
theorem run_mkdesk (k : Nat) (h1 : 1 ≤ k) (h8 : k ≤ 8) (w : World) : (Instr.makeSlice 84 (.int .i64 (k : Int)) (.int .i64 (k : Int))).run Tryd.prog w = .ok (.slice (some ⟨w.heap.size, 0, none⟩) k k) (w.alloc (.cells (dcells (List.replicate k zP)) 90)) := by
  have hi : (Tryd.prog.info? 90).map (fun i => (i.zero, i.size, decide (i.bytes ≤ 100000))) = some (some (.agg zP.cells), 87, true) := by kernel_rfl
  obtain ⟨i, hi0, he⟩ := Option.map_eq_some_iff.1 hi
  simp only [Prod.mk.injEq, decide_eq_true_eq] at he
  obtain ⟨hz, hs, hb⟩ := he
  have hb2 : (i.bytes : Int) * (k : Int) ≤ 100000 * 8 := Int.mul_le_mul (by omega) (by omega) (by omega) (by omega)
  have hr := run_make (P := Tryd.prog) w 84 90 i _ Tryd.underlying84 hi0 hz .i64 .i64 k k (by omega) (by omega) (by omega) (by omega)
  rw [hr, hs]
  simp only [Int.toNat_natCast]
  show Result.ok _ (w.alloc (.cells (madeCells zP.cells (k * 87)) _)) = _
  rw [show madeCells zP.cells (k * 87) = dcells (List.replicate k zP) from by unfold dcells Pn.cells; rw [List.map_replicate]; exact made_flat 87 (by omega) _ (zP.len zP_ok) k]
set_option maxHeartbeats 2000000 in
theorem desk_new (n : Int) (k : Nat) (hk : max 1 (min n 8) = (k : Int)) (h : St W w I F) :
    Calls Tryd.prog 15 #[.int .i64 n] w fun e w' => ∃ gd gc, e = .returned (.pointer (some ⟨gd, 0, none⟩)) ∧
      St W w' I ((gd, .cells #[.slice (some ⟨gc, 0, none⟩) k k, .int .i64 0] 86 (0, 0)) :: (gc, .cells (dcells (List.replicate k zP)) 90 (0, 0)) :: F) := by
  have hmk := run_mkdesk k (by omega) (by omega)
  have h1 := (h.alloc (.cells (dcells (List.replicate k zP)) 90)).alloc (.cells #[.slice (some ⟨w.heap.size, 0, none⟩) k k, .int .i64 0] 86)
  rw [World.size_alloc] at h1
  have H1 := Lib.hid h1
  clear h h1
  generalize dcells (List.replicate k zP) = D at *
  go_enter Tryd.func15, Tryd.ntmps15
  go_wp2_with fail
  go_ret
  exact ⟨_, _, rfl, H1.out⟩
set_option maxHeartbeats 2000000 in
theorem desk_client_no {n : Nat} (hn : n ≤ 8) (i : Int) (hi : i < 0 ∨ (n : Int) ≤ i) {D : Array Value} (h : St W w I ((gd, .cells #[.slice (some ⟨gc, 0, none⟩) n n, .int .i64 last] 86 (0, 0)) :: (gc, .cells D 90 (0, 0)) :: F)) :
    Calls Tryd.prog 42 #[.pointer (some ⟨gd, 0, none⟩), .int .i64 i] w fun e w' => e = .returned (.pointer none) ∧
      St W w' I ((gd, .cells #[.slice (some ⟨gc, 0, none⟩) n n, .int .i64 last] 86 (0, 0)) :: (gc, .cells D 90 (0, 0)) :: F) := by
  have c0 := h.cell (g := gd) (cs := #[.slice (some ⟨gc, 0, none⟩) n n, .int .i64 last]) (t := 86) (fr := (0, 0)) (by simp) 0
  simp at c0
  have H := Lib.hid h
  clear h
  by_cases h0 : i < 0
  · clear hi
    go_enter Tryd.func42, Tryd.ntmps42
    go_wp2_with fail
    go_ret
    exact ⟨rfl, H.out⟩
  · have hge : (n : Int) ≤ i := by omega
    clear hi
    go_enter Tryd.func42, Tryd.ntmps42
    go_wp2_with fail
    go_ret
    exact ⟨rfl, H.out⟩
set_option maxHeartbeats 2000000 in
theorem desk_client {n : Nat} (hn : n ≤ 8) (k : Nat) (hk : k < n) {D : Array Value} (h : St W w I ((gd, .cells #[.slice (some ⟨gc, 0, none⟩) n n, .int .i64 last] 86 (0, 0)) :: (gc, .cells D 90 (0, 0)) :: F)) :
    Calls Tryd.prog 42 #[.pointer (some ⟨gd, 0, none⟩), .int .i64 (k : Int)] w fun e w' => e = .returned (.pointer (some ⟨gc, k * 87, none⟩)) ∧
      St W w' I ((gd, .cells #[.slice (some ⟨gc, 0, none⟩) n n, .int .i64 last] 86 (0, 0)) :: (gc, .cells D 90 (0, 0)) :: F) := by
  have c0 := h.cell (g := gd) (cs := #[.slice (some ⟨gc, 0, none⟩) n n, .int .i64 last]) (t := 86) (fr := (0, 0)) (by simp) 0
  simp at c0
  have H := Lib.hid h
  have k0 : ¬ (k : Int) < 0 := by omega
  have k1 : ¬ (n : Int) ≤ (k : Int) := by omega
  clear h
  go_enter Tryd.func42, Tryd.ntmps42
  go_wp2_with fail
  go_ret
  exact ⟨by simp, H.out⟩
theorem AllOk.stage {ps : List Pn} (h : AllOk ps) {k : Nat} {p : Pn} (hp : ps[k]? = some p) (hst : St W w I ((gd, .cells #[.slice (some ⟨gc, 0, none⟩) ps.length ps.length, .int .i64 last] 86 (0, 0)) :: (gc, .cells (dcells ps) 90 (0, 0)) :: F)) (j : Nat) (hj : j < 87) :
    w.cell? ⟨gc, k * 87 + j, none⟩ = p.cells[j]? := by
  rw [hst.cell (g := gc) (cs := dcells ps) (t := 90) (fr := (0, 0)) (by simp), dcells_get h hp j hj]
set_option maxHeartbeats 2000000 in
theorem desk_pending (ok : AllOk ps) (hn : ps.length ≤ 8) (i : Int) (h : St W w I ((gd, .cells #[.slice (some ⟨gc, 0, none⟩) ps.length ps.length, .int .i64 last] 86 (0, 0)) :: (gc, .cells (dcells ps) 90 (0, 0)) :: F)) :
    Calls Tryd.prog 16 #[.pointer (some ⟨gd, 0, none⟩), .int .i64 i] w fun e w' => e = .returned (.int .i64 (pendD ps i)) ∧
      St W w' I ((gd, .cells #[.slice (some ⟨gc, 0, none⟩) ps.length ps.length, .int .i64 last] 86 (0, 0)) :: (gc, .cells (dcells ps) 90 (0, 0)) :: F) := by
  by_cases hi : i < 0 ∨ (ps.length : Int) ≤ i
  · have hv : pendD ps i = 0 := by
      unfold pendD atD
      by_cases h0 : 0 ≤ i
      · rw [if_pos h0, List.getElem?_eq_none (by omega)]
      · rw [if_neg h0]
    rw [hv]
    have H := Lib.hid h
    clear h hv
    go_enter Tryd.func16, Tryd.ntmps16
    go_wp2_with fail
    refine (desk_client_no hn i hi H.out).mono ?_
    rintro e w1 ⟨rfl, h1⟩
    have H1 := Lib.hid h1
    clear h1 H hi
    go_wp2_with fail
    go_ret
    exact ⟨rfl, H1.out⟩
  · obtain ⟨k, rfl⟩ : ∃ k : Nat, i = (k : Int) := ⟨i.toNat, by omega⟩
    obtain ⟨p, hp⟩ : ∃ p, ps[k]? = some p := ⟨_, List.getElem?_eq_getElem (by omega)⟩
    have hv : pendD ps (k : Int) = p.serial := by
      unfold pendD atD
      rw [if_pos (by omega), Int.toNat_natCast, hp]
    rw [hv]
    have hk : k < ps.length := by omega
    have HP := Lib.hid hp
    have H := Lib.hid h
    clear h hv hi hp
    go_enter Tryd.func16, Tryd.ntmps16
    go_wp2_with fail
    refine (desk_client hn k hk H.out).mono ?_
    rintro e w1 ⟨rfl, h1⟩
    have c5 := ok.stage HP.out h1 5 (by omega)
    rw [(pn_at p).2.2.2.2.2.1] at c5
    have H1 := Lib.hid h1
    clear h1 H
    go_wp2_with fail
    go_ret
    exact ⟨rfl, H1.out⟩
theorem waitD_take (ps : List Pn) {k : Nat} {p : Pn} (hp : ps[k]? = some p) : waitD (ps.take (k + 1)) = waitD (ps.take k) + (if p.stage = 1 then 1 else 0) := by
  unfold waitD
  rw [List.take_add_one, hp, List.filter_append, List.length_append]
  by_cases h : p.stage = 1 <;> simp [h]
theorem waitD_le (ps : List Pn) : waitD ps ≤ ps.length := List.length_filter_le _ _
theorem pn_info (p : Pn) (ok : p.Ok) : (Tryd.prog.info? 90).map (·.size) = some p.cells.size := by rw [p.size ok]; kernel_rfl
set_option maxRecDepth 100000 in
set_option maxHeartbeats 4000000 in
theorem desk_waiting (ok : AllOk ps) (hn : ps.length ≤ 8) (h : St W w I ((gd, .cells #[.slice (some ⟨gc, 0, none⟩) ps.length ps.length, .int .i64 last] 86 (0, 0)) :: (gc, .cells (dcells ps) 90 (0, 0)) :: F)) :
    Calls Tryd.prog 18 #[.pointer (some ⟨gd, 0, none⟩)] w fun e w' => e = .returned (.int .i64 (waitD ps : Nat)) ∧
      St W w' I ((gd, .cells #[.slice (some ⟨gc, 0, none⟩) ps.length ps.length, .int .i64 last] 86 (0, 0)) :: (gc, .cells (dcells ps) 90 (0, 0)) :: F) := by
  have c0 := h.cell (g := gd) (cs := #[.slice (some ⟨gc, 0, none⟩) ps.length ps.length, .int .i64 last]) (t := 86) (fr := (0, 0)) (by simp) 0
  simp at c0
  obtain ⟨n, hnl⟩ : ∃ n, ps.length = n := ⟨_, rfl⟩
  rw [hnl] at hn c0 ⊢
  have H := Lib.hid h
  clear h
  have HN := Lib.hid hnl
  clear hnl
  go_enter Tryd.func18, Tryd.ntmps18
  go_wp2_with fail
  go_loopw [3, 11] (fun o i wr => ∃ k : Nat, i = .int .i64 k ∧ k ≤ n ∧ o = .int .i64 (waitD (ps.take k) : Nat) ∧ St W wr I ((gd, .cells #[.slice (some ⟨gc, 0, none⟩) ps.length ps.length, .int .i64 last] 86 (0, 0)) :: (gc, .cells (dcells ps) 90 (0, 0)) :: F)) (fun _ i _ => n - (intOf i).toNat)
  case atStart => exact ⟨0, rfl, by omega, by simp [waitD], H.out⟩
  case round =>
    obtain ⟨k, rfl, hk, rfl, hst⟩ := hrel
    clear H c0
    by_cases hlt : k < n
    · obtain ⟨p, hp⟩ : ∃ p, ps[k]? = some p := ⟨_, List.getElem?_eq_getElem (by rw [HN.out]; exact hlt)⟩
      have hpok := ok p (List.mem_of_getElem? hp)
      have h2 := hst.alloc (.cells Tryd.zeroCells90 90)
      have hw := waitD_take ps hp
      have hwl := waitD_le (ps.take k)
      rw [List.length_take] at hwl
      have hwl2 : waitD (ps.take k) ≤ 8 := by omega
      have h6 := (pn_at p).2.2.2.2.2.2
      have H1 := Lib.hid hst
      have HZ := Lib.hid h2
      have HW := Lib.hid hw
      have hys : ∀ j, j < p.cells.size → (dcells ps)[k * 87 + j]? = p.cells[j]? := fun j hj => dcells_get ok hp j (by rw [p.size hpok] at hj; exact hj)
      have HY := Lib.hid hys
      have HI := Lib.hid (pn_info p hpok)
      have HO := Lib.hid p.one
      have HF := Lib.hid (show 0 + p.cells.size ≤ (Tryd.zeroCells90).size from by rw [p.size hpok]; decide)
      have HM := Lib.hid (show setMany Tryd.zeroCells90 0 p.cells.toList = p.cells from setMany_whole _ _ (by rw [Array.length_toList, p.size hpok]; rfl))
      have H6 := Lib.hid h6
      clear hst h2 hw hwl hp hys h6
      generalize waitD (ps.take k) = w0 at *
      generalize p.cells = C at *
      generalize p.stage = sg at *
      by_cases hs : sg = 1
      · subst hs
        go_wp2_with (first | (with_reducible refine wpList_load_st rfl 90 (.tmp 13) rfl (g := gc) (off := k * 87) rfl H1.out (cs := dcells ps) (t := 90) (fr := (0, 0)) (by simp) C HY.out _ Tryd.underlying90 rfl HI.out ?_) | (with_reducible refine wpList_store_st rfl 90 (.tmp 5) (.tmp 14) rfl (off := 0) C rfl rfl HZ.out HF.out HI.out HO.out ?_; intro w3 h3; rw [HM.out] at h3; have q6 := (h3.cell (g := wr.heap.size) (cs := C) (t := 90) (fr := (0, 0)) (by simp) 6).trans H6.out; have H4 := Lib.hid h3; clear h3))
        exact ⟨⟨k + 1, rfl, by omega, by rw [HW.out]; rfl, St.weaken (A := [_]) H4.out⟩, by simp [intOf]; omega⟩
      · have hne : (sg == 1) = false := beq_eq_false_iff_ne.2 hs
        go_wp2_with (first | (with_reducible refine wpList_load_st rfl 90 (.tmp 13) rfl (g := gc) (off := k * 87) rfl H1.out (cs := dcells ps) (t := 90) (fr := (0, 0)) (by simp) C HY.out _ Tryd.underlying90 rfl HI.out ?_) | (with_reducible refine wpList_store_st rfl 90 (.tmp 5) (.tmp 14) rfl (off := 0) C rfl rfl HZ.out HF.out HI.out HO.out ?_; intro w3 h3; rw [HM.out] at h3; have q6 := (h3.cell (g := wr.heap.size) (cs := C) (t := 90) (fr := (0, 0)) (by simp) 6).trans H6.out; have H4 := Lib.hid h3; clear h3))
        exact ⟨⟨k + 1, rfl, by omega, by rw [HW.out, if_neg hs]; rfl, St.weaken (A := [_]) H4.out⟩, by simp [intOf]; omega⟩
    · have hkn : k = n := by omega
      subst hkn
      have H1 := Lib.hid hst
      clear hst
      have hT : ps.take k = ps := by rw [← HN.out, List.take_length]
      rw [hT]
      go_wp2_with fail
      go_ret
      exact ⟨rfl, by have h9 := H1.out; rwa [HN.out] at h9⟩
end
end
end Go.Proofs.YtjcekmmieihllaaDoor
