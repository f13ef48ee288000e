/- The loader in memory, and its small functions. The loader: what it wants behind what it wanted; what type a note has. -/
import Derived.Test.YtnhlpiomfljlcaaDoorRgA
import Derived.Test.YtnhlpiomfljlcaaDoorRgB
import Derived.Test.YtnhlpiomfljlcaaDoorMnA
import Derived.Test.YtnhlpiomfljlcaaDoorNtE
import Derived.Recover
import Derived.Laws.Pointers
namespace Go.Proofs.YtnhlpiomfljlcaaDoor
section
set_option linter.unusedVariables false
set_option linter.unusedSimpArgs false
open Go.RowKit Go.Lib

/-- What a loader knows: where it lies; how many bytes its head has; the manifest. -/
structure Kn where
  b : Nat
  head : Int
  m : Man
def gcells (head : Int) (m : Man) : Array Value := (Value.int .i64 head :: m.cells.toList).toArray
structure Kn.In (k : Kn) (J : Nat → Option Obj) : Prop where
  at_ : J k.b = some (.cells (gcells k.head k.m) 62 (0, 0))
  ok : k.m.Ok
  name : k.m.prod.size ≤ 1000000
  right : rightM k.m = true
  h0 : 0 ≤ k.head
  h1 : k.head ≤ 2304
structure Lder where
  gn : Nat
  name : ByteArray
  left : Nat
  ro : Nat
  ri : Nat
  known : Option Kn
  wants : Int
  err : Int
def knV : Option Kn → Option Addr
  | none => none
  | some k => some ⟨k.b, 0, none⟩
def Lder.cells (l : Lder) : Array Value := #[.pointer (some ⟨l.gn, 0, none⟩), .string l.name, .int .i64 l.left, .pointer (some ⟨l.ro, 0, none⟩), .pointer (some ⟨l.ri, 0, none⟩), .pointer (knV l.known), .int .i64 l.wants, .int .i64 l.err]
structure Lder.Ok (l : Lder) (J : Nat → Option Obj) : Prop where
  left : l.left ≤ 100
  known : ∀ k, l.known = some k → k.In J
  wants : l.wants = -2 ∨ (l.known = none ∧ l.wants = -1) ∨ (∃ k, l.known = some k ∧ 0 ≤ l.wants ∧ l.wants < k.m.n)

theorem gcells_size {head : Int} {m : Man} (h : m.Ok) : (gcells head m).size = 38 := by simp [gcells, Man.cells_size h]
theorem gcells_0 (head : Int) (m : Man) : (gcells head m)[0]? = some (.int .i64 head) := by simp [gcells]
theorem gcells_37 (head : Int) {m : Man} (h : m.Ok) : (gcells head m)[37]? = some (.slice m.A m.n m.c) := by
  have := Man.g36 h
  simp [gcells]
  simpa using this
theorem gcells_m (head : Int) (m : Man) (i : Nat) : (gcells head m)[i + 1]? = m.cells[i]? := by simp [gcells]

section
variable {W w : World} {J : Nat → Option Obj} {F : List (Nat × Obj)} {g : Nat} {l : Lder}
theorem ld_cells (h : St W w J ((g, .cells l.cells 98 (0, 0)) :: F)) :
    w.cell? ⟨g, 0, none⟩ = some (.pointer (some ⟨l.gn, 0, none⟩)) ∧ w.cell? ⟨g, 1, none⟩ = some (.string l.name) ∧ w.cell? ⟨g, 2, none⟩ = some (.int .i64 l.left) ∧ w.cell? ⟨g, 3, none⟩ = some (.pointer (some ⟨l.ro, 0, none⟩)) ∧
    w.cell? ⟨g, 4, none⟩ = some (.pointer (some ⟨l.ri, 0, none⟩)) ∧ w.cell? ⟨g, 5, none⟩ = some (.pointer (knV l.known)) ∧ w.cell? ⟨g, 6, none⟩ = some (.int .i64 l.wants) ∧ w.cell? ⟨g, 7, none⟩ = some (.int .i64 l.err) := by
  have hc := fun i => h.cell (g := g) (cs := l.cells) (t := 98) (fr := (0, 0)) (List.mem_cons_self ..) i
  exact ⟨hc 0, hc 1, hc 2, hc 3, hc 4, hc 5, hc 6, hc 7⟩
theorem ld_frozen (h : St W w J ((g, .cells l.cells 98 (0, 0)) :: F)) (i : Nat) : w.frozen? ⟨g, i, none⟩ = false := h.frozen (g := g) (cs := l.cells) (t := 98) (List.mem_cons_self ..) i
theorem ld_set (h : St W w J ((g, .cells l.cells 98 (0, 0)) :: F)) (i : Nat) (v : Value) {l' : Lder} (e : l.cells.setIfInBounds i v = l'.cells) : St W (w.setCell ⟨g, i, none⟩ v) J ((g, .cells l'.cells 98 (0, 0)) :: F) := by
  rw [← e]; exact St.set (A := []) h i v
theorem imm_cell {b : Nat} {cs : Array Value} {t : TypeId} {fr : Nat × Nat} {L : List (Nat × Obj)} (h : St W w J L) (hb : J b = some (.cells cs t fr)) (i : Nat) : w.cell? ⟨b, i, none⟩ = cs[i]? :=
  cell_of_row w b i cs t fr (h.imm _ _ hb)

theorem ld_err (h : St W w J ((g, .cells l.cells 98 (0, 0)) :: F)) : Calls Tryd.prog 14 #[.pointer (some ⟨g, 0, none⟩)] w fun e w' => e = .returned (.int .i64 l.err) ∧ w = w' := by
  obtain ⟨_, _, _, _, _, _, _, c7⟩ := ld_cells h
  go_enter Tryd.func14, Tryd.ntmps14
  go_wp2_with fail
  go_ret
  exact ⟨rfl, rfl⟩
theorem ld_left (h : St W w J ((g, .cells l.cells 98 (0, 0)) :: F)) : Calls Tryd.prog 15 #[.pointer (some ⟨g, 0, none⟩)] w fun e w' => e = .returned (.int .i64 l.left) ∧ w = w' := by
  obtain ⟨_, _, c2, _, _, _, _, _⟩ := ld_cells h
  go_enter Tryd.func15, Tryd.ntmps15
  go_wp2_with fail
  go_ret
  exact ⟨rfl, rfl⟩
theorem ld_wants (h : St W w J ((g, .cells l.cells 98 (0, 0)) :: F)) : Calls Tryd.prog 18 #[.pointer (some ⟨g, 0, none⟩)] w fun e w' => e = .returned (.int .i64 l.wants) ∧ w = w' := by
  obtain ⟨_, _, _, _, _, _, c6, _⟩ := ld_cells h
  go_enter Tryd.func18, Tryd.ntmps18
  go_wp2_with fail
  go_ret
  exact ⟨rfl, rfl⟩

/-- One fewer is left. -/
def Lder.tryL (l : Lder) : Lder := if l.left = 0 then { l with err := 191 } else { l with left := l.left - 1 }
theorem ld_try (hl : l.left ≤ 100) (h : St W w J ((g, .cells l.cells 98 (0, 0)) :: F)) :
    Calls Tryd.prog 42 #[.pointer (some ⟨g, 0, none⟩)] w fun e w' => e = .returned (.bool (decide (l.left ≠ 0))) ∧ St W w' J ((g, .cells l.tryL.cells 98 (0, 0)) :: F) := by
  obtain ⟨_, _, c2, _, _, _, _, c7⟩ := ld_cells h
  have f2 := ld_frozen h 2
  have f7 := ld_frozen h 7
  by_cases h0 : l.left = 0
  · have hs := ld_set h 7 (.int .i64 191) (l' := { l with err := 191 }) rfl
    rw [h0] at c2
    have e : l.tryL = { l with err := 191 } := if_pos h0
    rw [e, decide_eq_false (by omega)]
    have Hs := Lib.hid hs; clear hs e
    go_enter Tryd.func42, Tryd.ntmps42
    go_wp2_with fail
    go_ret
    exact ⟨rfl, Hs.out⟩
  · have hs := ld_set h 2 (.int .i64 ((l.left - 1 : Nat) : Int)) (l' := { l with left := l.left - 1 }) rfl
    have e : l.tryL = { l with left := l.left - 1 } := if_neg h0
    rw [e, decide_eq_true h0]
    have hz : (((l.left : Nat) : Int) == 0) = false := by simp; omega
    have hm : (((l.left - 1 : Nat)) : Int) = (l.left : Int) - 1 := by omega
    rw [hm] at hs
    have Hs := Lib.hid hs; clear hs e hm
    go_enter Tryd.func42, Tryd.ntmps42
    go_wp2_with fail
    go_ret
    exact ⟨rfl, Hs.out⟩

/-- May it be told to fetch that again? -/
def Lder.canB (l : Lder) (a : Int) : Bool := match l.known with
  | none => decide (a = -1)
  | some k => decide (0 ≤ a) && decide (a < k.m.n)
theorem ld_can (ok : l.Ok J) (a : Int) (h : St W w J ((g, .cells l.cells 98 (0, 0)) :: F)) :
    Calls Tryd.prog 63 #[.pointer (some ⟨g, 0, none⟩), .int .i64 a] w fun e w' => e = .returned (.bool (l.canB a)) ∧ w = w' := by
  obtain ⟨_, _, _, _, _, c5, _, _⟩ := ld_cells h
  cases hk : l.known with
  | none =>
    have e : l.canB a = decide (a = -1) := by rw [Lder.canB, hk]
    rw [hk] at c5
    simp only [knV] at c5
    rw [e]
    clear e
    have HK := Lib.hid hk; clear hk
    have eb : (a == -1) = decide (a = -1) := rfl
    go_enter Tryd.func63, Tryd.ntmps63
    go_wp2_with fail
    go_ret
    exact ⟨rfl, rfl⟩
  | some k =>
    have e : l.canB a = (decide (0 ≤ a) && decide (a < k.m.n)) := by rw [Lder.canB, hk]
    rw [hk] at c5
    simp only [knV] at c5
    rw [e]
    clear e
    have hin := ok.known k hk
    have cn := (imm_cell h hin.at_ 37).trans (gcells_37 _ hin.ok)
    have HK := Lib.hid hk; clear hk
    by_cases h0 : 0 ≤ a
    · have d0 : decide (0 ≤ a) = true := decide_eq_true h0
      rw [d0, Bool.true_and]
      go_enter Tryd.func63, Tryd.ntmps63
      go_wp2_with fail
      go_ret
      exact ⟨rfl, rfl⟩
    · have d0 : decide (0 ≤ a) = false := decide_eq_false h0
      rw [d0, Bool.false_and]
      go_enter Tryd.func63, Tryd.ntmps63
      go_wp2_with fail
      go_ret
      exact ⟨rfl, rfl⟩
end
end

section
set_option linter.unusedVariables false
set_option linter.unusedSimpArgs false
open Go.RowKit Go.Lib

section
variable {W w : World} {J : Nat → Option Obj} {F : List (Nat × Obj)} {g : Nat} {l : Lder}
def nextW (known : Option Kn) (wants : Int) : Int := match known with
  | none => -2
  | some k => if wants + 1 = k.m.n then -2 else wants + 1
def Lder.onL (l : Lder) : Lder := { l with wants := nextW l.known l.wants }

theorem rightM_n {m : Man} (h : rightM m = true) : 1 ≤ m.n ∧ m.n ≤ 64 := by
  obtain ⟨_, _, _, h1, _, h2, _, _, h3, h4⟩ := (rightM_iff m).1 h
  have := cntM_span m.size m.chunk h1 (by omega)
  omega
set_option maxHeartbeats 1000000 in
theorem ld_on (ok : l.Ok J) (hw : l.wants ≠ -2) (h : St W w J ((g, .cells l.cells 98 (0, 0)) :: F)) :
    Calls Tryd.prog 41 #[.pointer (some ⟨g, 0, none⟩)] w fun e w' => e = .returned (.tuple #[]) ∧ St W w' J ((g, .cells l.onL.cells 98 (0, 0)) :: F) := by
  obtain ⟨_, _, _, _, _, c5, c6, _⟩ := ld_cells h
  have f6 := ld_frozen h 6
  have hwb : -1 ≤ l.wants ∧ l.wants ≤ 64 := by
    rcases ok.wants with hw' | ⟨_, hw'⟩ | ⟨k, hk, h0, h1⟩
    · exact absurd hw' hw
    · omega
    · have := rightM_n (ok.known k hk).right; omega
  obtain ⟨hb0, hb1⟩ := hwb
  have hs1 := ld_set h 6 (.int .i64 (l.wants + 1)) (l' := { l with wants := l.wants + 1 }) rfl
  have hs2 : ∀ m, St W (((w.setCell ⟨g, 6, none⟩ (.int .i64 (l.wants + 1))).drewN m).setCell ⟨g, 6, none⟩ (.int .i64 (-2))) J ((g, .cells ({ l with wants := -2 } : Lder).cells 98 (0, 0)) :: F) :=
    fun m => ld_set (hs1.drew m) 6 (.int .i64 (-2)) (l' := { l with wants := -2 }) rfl
  cases hk : l.known with
  | none =>
    have e : l.onL = { l with wants := -2 } := by rw [Lder.onL, hk]; rfl
    rw [hk] at c5
    simp only [knV] at c5
    rw [e]
    clear e
    have Hs1 := Lib.hid hs1; have Hs2 := Lib.hid hs2; clear hs1 hs2
    have HK := Lib.hid hk; clear hk
    go_enter Tryd.func41, Tryd.ntmps41
    go_wp2_with fail
    go_quiet (fail)
    go_wp2_with fail
    go_end0
    exact ⟨rfl, Hs2.out _⟩
  | some k =>
    have hin := ok.known k hk
    have cn := (imm_cell h hin.at_ 37).trans (gcells_37 _ hin.ok)
    have hn64 := rightM_n hin.right
    rw [hk] at c5
    simp only [knV] at c5
    by_cases hn : l.wants + 1 = k.m.n
    · have e : l.onL = { l with wants := -2 } := by rw [Lder.onL, hk]; simp only [nextW, if_pos hn]
      rw [e]
      clear e
      have eb : (l.wants + 1 == (k.m.n : Int)) = true := by rw [hn]; exact beq_self_eq_true _
      have Hs1 := Lib.hid hs1; have Hs2 := Lib.hid hs2; clear hs1 hs2
      have HK := Lib.hid hk; clear hk; clear hn
      go_enter Tryd.func41, Tryd.ntmps41
      go_wp2_with fail
      go_quiet (fail)
      go_wp2_with fail
      go_end0
      exact ⟨rfl, Hs2.out _⟩
    · have e : l.onL = { l with wants := l.wants + 1 } := by rw [Lder.onL, hk]; simp only [nextW, if_neg hn]
      rw [e]
      clear e
      have eb : (l.wants + 1 == (k.m.n : Int)) = false := by simpa using hn
      have Hs1 := Lib.hid hs1; have Hs2 := Lib.hid hs2; clear hs1 hs2
      have HK := Lib.hid hk; clear hk; clear hn
      go_enter Tryd.func41, Tryd.ntmps41
      go_wp2_with fail
      go_quiet (fail)
      go_wp2_with fail
      go_end0
      exact ⟨rfl, Hs1.out.as rfl rfl rfl rfl⟩

theorem as_again_yes (v : Value) (w : World) : (Instr.typeAssert (.iface 31 v) 34 31 true).run Tryd.prog w = .ok (.tuple #[v, .bool true]) w := by kernel_rfl
theorem as_again_go (v : Value) (w : World) : (Instr.typeAssert (.iface 62 v) 34 31 true).run Tryd.prog w = .ok (.tuple #[.agg #[.int .i64 0], .bool false]) w := by kernel_rfl
theorem as_again_body (v : Value) (w : World) : (Instr.typeAssert (.iface 29 v) 34 31 true).run Tryd.prog w = .ok (.tuple #[.agg #[.int .i64 0], .bool false]) w := by kernel_rfl
theorem as_again_end (v : Value) (w : World) : (Instr.typeAssert (.iface 26 v) 34 31 true).run Tryd.prog w = .ok (.tuple #[.agg #[.int .i64 0], .bool false]) w := by kernel_rfl
theorem as_go_yes (v : Value) (w : World) : (Instr.typeAssert (.iface 62 v) 34 62 false).run Tryd.prog w = .ok v w := by kernel_rfl
def HT (n t : Nat) : Value := .pointer (some ⟨n, t, none⟩)
theorem as_go_body (v : Value) (w : World) : (Instr.typeAssert (.iface 29 v) 34 62 false).run Tryd.prog w = .halt (.panic (.iface 15 (.pointer (some ⟨w.heap.size, 0, none⟩)))) (w.alloc (.cells #[HT Tryd.prog.globals.size 34, HT Tryd.prog.globals.size 29, HT Tryd.prog.globals.size 62, strVal ""] 195)) := by kernel_rfl
theorem as_go_end (v : Value) (w : World) : (Instr.typeAssert (.iface 26 v) 34 62 false).run Tryd.prog w = .halt (.panic (.iface 15 (.pointer (some ⟨w.heap.size, 0, none⟩)))) (w.alloc (.cells #[HT Tryd.prog.globals.size 34, HT Tryd.prog.globals.size 26, HT Tryd.prog.globals.size 62, strVal ""] 195)) := by kernel_rfl
end
end
end Go.Proofs.YtnhlpiomfljlcaaDoor
