/- The loader: what a note says. The loader: a note that says go. -/
import Derived.Test.YtnhlpiomfljlcaaDoorLdAB
import Derived.Test.YtnhlpiomfljlcaaDoorMkPure
namespace Go.Proofs.YtnhlpiomfljlcaaDoor
section
set_option linter.unusedVariables false
set_option linter.unusedSimpArgs false
open Go.RowKit Go.Lib

section
variable {W w : World} {J : Nat → Option Obj} {F : List (Nat × Obj)} {g : Nat} {l : Lder}
theorem clo_panicking (b : Nat) (x : Int) (u : TypeId) (pv : Value) (older : List PanicEntry) (w : World) (hb : w.cell? ⟨b, 0, none⟩ = some (.pointer (some ⟨g, 0, none⟩))) (hc : w.cell? ⟨g, 7, none⟩ = some (.int .i64 x)) (hz : w.frozen? ⟨g, 7, none⟩ = false) :
    CallsD Tryd.prog 62 #[.pointer (some ⟨b, 0, none⟩)] (.panicking ({ v := .iface u pv, recovered := false } :: older)) w fun e u' w' =>
      e = .returned (.tuple #[]) ∧ u' = .panicking ({ v := .iface u pv, recovered := true } :: older) ∧ w' = w.setCell ⟨g, 7, none⟩ (.int .i64 192) := by
  refine callsD_of_wpS Tryd.func62 rfl fun c₀ cs hu => ?_
  apply wpS_seq
  apply wpS_region
  simp [wpOpsS, go_sem, recoverD, hu, Tryd.ntmps62, Exit.thenS]
  refine wpS_cond (t := true) (by simp [Act.eval, Array.replicate]) ?_
  simp only [if_true]
  apply wpS_region
  simp [wpOpsS, go_sem, hb, hc, hz, bodyPostS, results, Tryd.results62]

theorem clo_idle (b : Nat) (w : World) :
    CallsD Tryd.prog 62 #[.pointer (some ⟨b, 0, none⟩)] .returning w fun e u' w' => e = .returned (.tuple #[]) ∧ u' = .returning ∧ w' = w := by
  refine callsD_of_wpS Tryd.func62 rfl fun c₀ cs hu => ?_
  apply wpS_seq
  apply wpS_region
  simp [wpOpsS, go_sem, recoverD, hu, Tryd.ntmps62, Exit.thenS]
  refine wpS_cond (t := false) (by simp [Act.eval, Array.replicate]) ?_
  simp only [Bool.false_eq_true, if_false]
  refine wpS_of_wp (wp_skip ?_)
  cases c₀
  simp_all [bodyPostS, results, Tryd.results62]

/-- A note as it is told. -/
inductive Nt where
  | again (a : Int)
  | go (head : Int) (m : Man)
  | body (v : Value)
  | fin (v : Value)
def Nt.T : Nt → TypeId
  | .again _ => 31
  | .go _ _ => 62
  | .body _ => 29
  | .fin _ => 26
def Nt.d : Nt → Value
  | .again a => .agg #[.int .i64 a]
  | .go h m => .agg (gcells h m)
  | .body v => v
  | .fin v => v
def Nt.v (t : Nt) : Value := .iface t.T t.d
def Nt.Ok : Nt → Prop
  | .go _ m => m.Ok ∧ m.prod.size ≤ 1000000
  | _ => True
/-- What a note makes of the loader; where what it knows would lie. -/
def Lder.followL (l : Lder) (t : Nt) (b : Nat) : Lder := match t with
  | .again a => if l.canB a = true then (if l.left = 0 then { l with err := 191 } else { l with left := l.left - 1, wants := a }) else { l with err := 192 }
  | .go h m => if l.known = none ∧ rightM m = true ∧ 0 ≤ h ∧ h ≤ 2304 then { l with known := some ⟨b, h, m⟩, wants := 0 } else { l with err := 192 }
  | _ => { l with err := 192 }
def FolPost (W : World) (J : Nat → Option Obj) (g : Nat) (l : Lder) (t : Nt) (F : List (Nat × Obj)) (e : Ending) (w' : World) : Prop :=
  e = .returned (.tuple #[]) ∧ ∃ J' b, Le J J' ∧ (l.followL t b).Ok J' ∧ St W w' J' ((g, .cells (l.followL t b).cells 98 (0, 0)) :: F)

theorem Lder.Ok.err (h : l.Ok J) (x : Int) : ({ l with err := x } : Lder).Ok J := ⟨h.left, h.known, h.wants⟩

set_option maxHeartbeats 1000000 in
theorem follow_other (ok : l.Ok J) (t : Nt) (ht : (∃ v, t = .body v) ∨ (∃ v, t = .fin v)) (h : St W w J ((g, .cells l.cells 98 (0, 0)) :: F)) :
    Calls Tryd.prog 37 #[.pointer (some ⟨g, 0, none⟩), t.v] w (FolPost W J g l t F) := by
  have hmf : ∀ (fn : Fn) (first cap : Array Value) (w : World), (Instr.makeFunc fn first cap).run Tryd.prog w = .ok (.func fn first cap) w := fun _ _ _ _ => rfl
  have hl : g < w.heap.size := h.lt (p := (g, _)) (List.mem_cons_self ..)
  obtain ⟨_, _, _, _, _, _, _, c7⟩ := ld_cells h
  have f7 := ld_frozen h 7
  have e : ∃ T d, t.v = .iface T d ∧ l.followL t 0 = { l with err := 192 } ∧ (∀ v : World, (Instr.typeAssert (.iface T d) 34 31 true).run Tryd.prog v = .ok (.tuple #[.agg #[.int .i64 0], .bool false]) v) ∧
      (∃ c, ∀ v : World, (Instr.typeAssert (.iface T d) 34 62 false).run Tryd.prog v = .halt (.panic (.iface 15 (.pointer (some ⟨v.heap.size, 0, none⟩)))) (v.alloc (.cells c 195))) := by
    rcases ht with ⟨v, rfl⟩ | ⟨v, rfl⟩
    · exact ⟨_, _, rfl, rfl, fun w => as_again_body _ w, _, fun w => as_go_body _ w⟩
    · exact ⟨_, _, rfl, rfl, fun w => as_again_end _ w, _, fun w => as_go_end _ w⟩
  obtain ⟨T, d, e1, e2, a1, c, a2⟩ := e
  rw [e1]
  have hfin : ∀ o1 o2 o3, FolPost W J g l t F (.returned (.tuple #[])) ((((w.alloc o1).alloc o2).alloc o3).setCell ⟨g, 7, none⟩ (.int .i64 192)) := by
    intro o1 o2 o3
    refine ⟨rfl, J, 0, Le.refl _, by rw [e2]; exact ok.err 192, ?_⟩
    rw [e2]
    exact ld_set (((h.alloc_ o1).alloc_ o2).alloc_ o3) 7 _ rfl
  have hfr : ∀ o1 o2 o3, (((w.alloc o1).alloc o2).alloc o3).frozen? ⟨g, 7, none⟩ = false := fun o1 o2 o3 => ld_frozen (((h.alloc_ o1).alloc_ o2).alloc_ o3) 7
  have Hfin := Lib.hid hfin; have Hfr := Lib.hid hfr; clear hfin hfr e1 e2 h
  go_enter_defers Tryd.func37, Tryd.ntmps37
  go_wp2_with fail
  refine leaves_cons (f := 62) (args := #[.pointer (some ⟨w.heap.size, 0, none⟩)]) (by simp) (by simp [go_sem]) ?_
  refine (clo_panicking (g := g) w.heap.size l.err _ _ [] _ ?_ ?_ ?_).mono ?_
  · simp [go_sem]
  · exact cell_old (cell_old (cell_old c7))
  · exact Hfr.out _ _ _
  rintro e u' w'' ⟨rfl, rfl, rfl⟩
  have H := Hfin.out (.cells #[.pointer (some ⟨g, 0, none⟩)] 40) (.cells #[.int .i64 0] 31) (.cells c 195)
  simp [Leaves, settle, results, Tryd.results37, go_sem]
  exact H

set_option maxHeartbeats 1000000 in
theorem follow_again (ok : l.Ok J) (a : Int) (h : St W w J ((g, .cells l.cells 98 (0, 0)) :: F)) :
    Calls Tryd.prog 37 #[.pointer (some ⟨g, 0, none⟩), (Nt.again a).v] w (FolPost W J g l (.again a) F) := by
  have hmf : ∀ (fn : Fn) (first cap : Array Value) (w : World), (Instr.makeFunc fn first cap).run Tryd.prog w = .ok (.func fn first cap) w := fun _ _ _ _ => rfl
  have hl : g < w.heap.size := h.lt (p := (g, _)) (List.mem_cons_self ..)
  have a1 := fun v : World => as_again_yes (.agg #[.int .i64 a]) v
  have e1 : (Nt.again a).v = .iface 31 (.agg #[.int .i64 a]) := rfl
  rw [e1]
  have hst : ∀ o1 o2, St W ((w.alloc o1).alloc o2) J ((g, .cells l.cells 98 (0, 0)) :: F) := fun o1 o2 => (h.alloc_ o1).alloc_ o2
  obtain ⟨_, _, _, _, _, _, c6, c7⟩ := ld_cells h
  have hfr : ∀ o1 o2 i, ((w.alloc o1).alloc o2).frozen? ⟨g, i, none⟩ = false := fun o1 o2 i => ld_frozen (hst o1 o2) i
  have f1 := hfr (.cells #[.pointer (some ⟨g, 0, none⟩)] 40) (.cells #[.int .i64 a] 31)
  have f7 := f1 7
  clear hfr f1
  cases hc : l.canB a with
  | false =>
    have e2 : l.followL (.again a) 0 = { l with err := 192 } := by rw [Lder.followL]; simp only [hc, Bool.false_eq_true, if_false]
    have hfin : ∀ o1 o2, FolPost W J g l (.again a) F (.returned (.tuple #[])) (((w.setCell ⟨g, 7, none⟩ (.int .i64 192)).alloc o1).alloc o2) := by
      intro o1 o2
      refine ⟨rfl, J, 0, Le.refl _, by rw [e2]; exact ok.err 192, ?_⟩
      rw [e2]
      exact ((ld_set (l' := { l with err := 192 }) h 7 _ rfl).alloc_ o1).alloc_ o2
    have Hfin := Lib.hid hfin; have Hst := Lib.hid hst; have HC := Lib.hid hc; clear hfin e2 hst hc
    go_enter_defers Tryd.func37, Tryd.ntmps37
    go_wp2_with ((go_at_call 63; refine (ld_can ok a (Hst.out _ _)).mono ?_; rintro e w' ⟨rfl, rfl⟩; rw [HC.out]))
    refine leaves_cons (f := 62) (args := #[.pointer (some ⟨w.heap.size, 0, none⟩)]) (by simp) (by simp [go_sem]) ?_
    refine (clo_idle w.heap.size _).mono ?_
    rintro e u' w'' ⟨rfl, rfl, rfl⟩
    have H := Hfin.out (.cells #[.pointer (some ⟨g, 0, none⟩)] 40) (.cells #[.int .i64 a] 31)
    simp [Leaves, settle, results, Tryd.results37, go_sem]
    exact H
  | true =>
    by_cases h0 : l.left = 0
    · have e2 : l.followL (.again a) 0 = { l with err := 191 } := by rw [Lder.followL]; simp only [hc, if_true, if_pos h0]
      have e3 : l.tryL = { l with err := 191 } := if_pos h0
      have e4 : decide (l.left ≠ 0) = false := decide_eq_false (by omega)
      have hfin : ∀ w', St W w' J ((g, .cells l.tryL.cells 98 (0, 0)) :: F) → FolPost W J g l (.again a) F (.returned (.tuple #[])) w' := by
        intro w' hw
        refine ⟨rfl, J, 0, Le.refl _, by rw [e2]; exact ok.err 191, ?_⟩
        rw [e2, ← e3]
        exact hw
      have Hfin := Lib.hid hfin; have Hst := Lib.hid hst; have HC := Lib.hid hc; have E4 := Lib.hid e4; clear hfin e2 hst hc e3 e4 h0
      go_enter_defers Tryd.func37, Tryd.ntmps37
      go_wp2_with (first | (go_at_call 63; refine (ld_can ok a (Hst.out _ _)).mono ?_; rintro e w' ⟨rfl, rfl⟩; rw [HC.out]) | (go_at_call 42; refine (ld_try ok.left (Hst.out _ _)).mono ?_; rintro e w' ⟨rfl, hw⟩; rw [E4.out]; have HW := Lib.hid hw; clear hw))
      refine leaves_cons (f := 62) (args := #[.pointer (some ⟨w.heap.size, 0, none⟩)]) (by simp) (by simp [go_sem]) ?_
      refine (clo_idle w.heap.size _).mono ?_
      rintro e u' w'' ⟨rfl, rfl, rfl⟩
      have H := Hfin.out _ HW.out
      simp [Leaves, settle, results, Tryd.results37, go_sem]
      exact H
    · have e2 : l.followL (.again a) 0 = { l with left := l.left - 1, wants := a } := by rw [Lder.followL]; simp only [hc, if_true, if_neg h0]
      have e3 : l.tryL = { l with left := l.left - 1 } := if_neg h0
      have e4 : decide (l.left ≠ 0) = true := decide_eq_true h0
      have hst3 : ∀ o1 o2, St W ((w.alloc o1).alloc o2) J ((g, .cells l.cells 98 (0, 0)) :: ((w.heap.size, o1) :: (w.heap.size + 1, o2) :: F)) := by
        intro o1 o2
        have h2 := (h.alloc o1).alloc o2
        rw [show (w.alloc o1).heap.size = w.heap.size + 1 by simp] at h2
        exact h2.perm (List.Perm.trans (List.Perm.swap _ _ _) (List.Perm.trans (List.Perm.cons _ (List.Perm.swap _ _ _)) (List.Perm.swap _ _ _)))
      have hfin : ∀ w' o1 o2, St W w' J ((g, .cells l.tryL.cells 98 (0, 0)) :: ((w.heap.size, o1) :: (w.heap.size + 1, o2) :: F)) → FolPost W J g l (.again a) F (.returned (.tuple #[])) (w'.setCell ⟨g, 6, none⟩ (.int .i64 a)) := by
        intro w' o1 o2 hw
        refine ⟨rfl, J, 0, Le.refl _, ?_, ?_⟩
        · rw [e2]
          refine ⟨by show l.left - 1 ≤ 100; have := ok.left; omega, ok.known, ?_⟩
          show a = -2 ∨ (l.known = none ∧ a = -1) ∨ (∃ k, l.known = some k ∧ 0 ≤ a ∧ a < k.m.n)
          unfold Lder.canB at hc
          cases hk : l.known with
          | none => rw [hk] at hc; exact .inr (.inl ⟨rfl, by simpa using hc⟩)
          | some k => rw [hk] at hc; simp at hc; exact .inr (.inr ⟨k, rfl, hc⟩)
        · rw [e2]
          rw [e3] at hw
          exact St.mid (A := [_]) (B := [_, _]) (ld_set hw 6 _ rfl)
      have hcl : ∀ w' b, St W w' J ((g, .cells l.tryL.cells 98 (0, 0)) :: ((w.heap.size, .cells #[.pointer (some ⟨g, 0, none⟩)] b (0, 0)) :: (w.heap.size + 1, .cells #[.int .i64 a] 31 (0, 0)) :: F)) →
          w'.cell? ⟨g, 6, none⟩ = some (.int .i64 l.wants) ∧ w'.frozen? ⟨g, 6, none⟩ = false ∧ w'.cell? ⟨w.heap.size, 0, none⟩ = some (.pointer (some ⟨g, 0, none⟩)) ∧ w'.cell? ⟨w.heap.size + 1, 0, none⟩ = some (.int .i64 a) := by
        intro w' b hw
        have c1 := hw.cell (g := w.heap.size) (cs := #[.pointer (some ⟨g, 0, none⟩)]) (t := b) (fr := (0, 0)) (by simp) 0
        have c2 := hw.cell (g := w.heap.size + 1) (cs := #[.int .i64 a]) (t := 31) (fr := (0, 0)) (by simp) 0
        rw [e3] at hw
        exact ⟨(ld_cells hw).2.2.2.2.2.2.1, ld_frozen hw 6, c1, c2⟩
      have Hfin := Lib.hid hfin; have Hst := Lib.hid hst3; have HC := Lib.hid hc; have E4 := Lib.hid e4; have HCL := Lib.hid hcl; clear hfin e2 hst hst3 hc e3 e4 h0 hcl
      go_enter_defers Tryd.func37, Tryd.ntmps37
      go_wp2_with (first | (go_at_call 63; refine (ld_can ok a (Hst.out _ _)).mono ?_; rintro e w' ⟨rfl, rfl⟩; rw [HC.out]) | (go_at_call 42; refine (ld_try ok.left (Hst.out _ _)).mono ?_; rintro e w' ⟨rfl, hw⟩; rw [E4.out]; obtain ⟨q6, z6, q0, q1⟩ := HCL.out _ _ hw; have HW := Lib.hid hw; clear hw))
      refine leaves_cons (f := 62) (args := #[.pointer (some ⟨w.heap.size, 0, none⟩)]) (by simp) (by simp [go_sem]) ?_
      refine (clo_idle w.heap.size _).mono ?_
      rintro e u' w'' ⟨rfl, rfl, rfl⟩
      have H := Hfin.out _ _ _ HW.out
      simp [Leaves, settle, results, Tryd.results37, go_sem]
      exact H
end
end

section
set_option linter.unusedVariables false
set_option linter.unusedSimpArgs false
open Go.RowKit Go.Lib

section
variable {W w : World} {J : Nat → Option Obj} {F : List (Nat × Obj)} {g : Nat} {l : Lder}
theorem gz_lit : gcells 0 zman = (Value.int .i64 0 :: Value.string ⟨#[]⟩ :: .int .u64 0 :: .int .i64 0 :: .int .i64 0 :: .int .u8 0 :: .int .u8 0 :: .int .u8 0 :: .int .u8 0 :: .int .u8 0 :: .int .u8 0 :: .int .u8 0 :: .int .u8 0 :: .int .u8 0 :: .int .u8 0 :: .int .u8 0 :: .int .u8 0 :: .int .u8 0 :: .int .u8 0 :: .int .u8 0 :: .int .u8 0 :: .int .u8 0 :: .int .u8 0 :: .int .u8 0 :: .int .u8 0 :: .int .u8 0 :: .int .u8 0 :: .int .u8 0 :: .int .u8 0 :: .int .u8 0 :: .int .u8 0 :: .int .u8 0 :: .int .u8 0 :: .int .u8 0 :: .int .u8 0 :: .int .u8 0 :: .int .u8 0 :: .slice none 0 0 :: []).toArray := by kernel_rfl
theorem gcells_one (h : Int) (m : Man) : (gcells h m).all (·.oneCell') = true := by
  have := Man.one m
  unfold gcells
  apply all_oneCell_toArray
  intro v hv
  rcases List.mem_cons.1 hv with rfl | hv
  · rfl
  · exact Array.all_eq_true_iff_forall_mem.1 this v (Array.mem_toList_iff.1 hv)
theorem gcells_info (h : Int) {m : Man} (ok : m.Ok) : (Tryd.prog.info? 62).map (·.size) = some (gcells h m).size := by rw [gcells_size ok]; kernel_rfl
theorem man_info {m : Man} (ok : m.Ok) : (Tryd.prog.info? 53).map (·.size) = some m.cells.size := by rw [Man.cells_size ok]; kernel_rfl

set_option maxRecDepth 100000 in
set_option maxHeartbeats 2000000 in
theorem follow_go (t : TB W J) (ok : l.Ok J) (hd : Int) (m : Man) (mok : m.Ok) (hs : m.prod.size ≤ 1000000) (h : St W w J ((g, .cells l.cells 98 (0, 0)) :: F)) :
    Calls Tryd.prog 37 #[.pointer (some ⟨g, 0, none⟩), (Nt.go hd m).v] w (FolPost W J g l (.go hd m) F) := by
  have hmf : ∀ (fn : Fn) (first cap : Array Value) (w : World), (Instr.makeFunc fn first cap).run Tryd.prog w = .ok (.func fn first cap) w := fun _ _ _ _ => rfl
  have hl : g < w.heap.size := h.lt (p := (g, _)) (List.mem_cons_self ..)
  have a1 := fun v : World => as_again_go (.agg (gcells hd m)) v
  have a2 := fun v : World => as_go_yes (.agg (gcells hd m)) v
  have e1 : (Nt.go hd m).v = .iface 62 (.agg (gcells hd m)) := rfl
  rw [e1]
  have hst3 := ((h.alloc (.cells #[.pointer (some ⟨g, 0, none⟩)] 40)).alloc (.cells #[.int .i64 0] 31)).alloc (.cells (gcells 0 zman) 62)
  rw [show ((w.alloc (.cells #[.pointer (some ⟨g, 0, none⟩)] 40)).alloc (.cells #[.int .i64 0] 31)).heap.size = w.heap.size + 1 + 1 by simp, show (w.alloc (.cells #[.pointer (some ⟨g, 0, none⟩)] 40)).heap.size = w.heap.size + 1 by simp] at hst3
  have hmany : setMany (gcells 0 zman) 0 (gcells hd m).toList = gcells hd m := by
    rw [setMany_whole _ _ (by rw [Array.length_toList, gcells_size mok]; kernel_rfl), Array.toArray_toList]
  have hfit : 0 + (gcells hd m).size ≤ (gcells 0 zman).size := by rw [gcells_size mok]; exact Nat.le_of_eq (by kernel_rfl)
  have hinf := gcells_info hd mok
  have hone := gcells_one hd m
  have hmi := man_info mok
  rw [gz_lit] at hst3 hmany hfit
  -- the state behind the store
  have hfa : ∀ v, St W v J ((w.heap.size + 1 + 1, .cells (gcells hd m) 62 (0, 0)) :: (w.heap.size + 1, .cells #[.int .i64 0] 31 (0, 0)) :: (w.heap.size, .cells #[.pointer (some ⟨g, 0, none⟩)] 40 (0, 0)) :: (g, .cells l.cells 98 (0, 0)) :: F) →
      v.cell? ⟨w.heap.size, 0, none⟩ = some (.pointer (some ⟨g, 0, none⟩)) ∧ v.cell? ⟨w.heap.size + 1 + 1, 0, none⟩ = some (.int .i64 hd) ∧ v.cell? ⟨g, 5, none⟩ = some (.pointer (knV l.known)) ∧ v.cell? ⟨g, 6, none⟩ = some (.int .i64 l.wants) ∧ v.cell? ⟨g, 7, none⟩ = some (.int .i64 l.err) ∧
      v.frozen? ⟨g, 5, none⟩ = false ∧ v.frozen? ⟨g, 6, none⟩ = false ∧ v.frozen? ⟨g, 7, none⟩ = false := by
    intro v hv
    have c1 := hv.cell (g := w.heap.size) (cs := #[.pointer (some ⟨g, 0, none⟩)]) (t := 40) (fr := (0, 0)) (by simp) 0
    have c2 := (hv.cell (g := w.heap.size + 1 + 1) (cs := gcells hd m) (t := 62) (fr := (0, 0)) (by simp) 0).trans (gcells_0 hd m)
    have hg := hv.weaken (A := [_, _, _])
    obtain ⟨_, _, _, _, _, c5, c6, c7⟩ := ld_cells hg
    exact ⟨c1, c2, c5, c6, c7, ld_frozen hg 5, ld_frozen hg 6, ld_frozen hg 7⟩
  have hbad : ∀ v, ¬ (l.known = none ∧ rightM m = true ∧ 0 ≤ hd ∧ hd ≤ 2304) → St W v J ((w.heap.size + 1 + 1, .cells (gcells hd m) 62 (0, 0)) :: (w.heap.size + 1, .cells #[.int .i64 0] 31 (0, 0)) :: (w.heap.size, .cells #[.pointer (some ⟨g, 0, none⟩)] 40 (0, 0)) :: (g, .cells l.cells 98 (0, 0)) :: F) →
      FolPost W J g l (.go hd m) F (.returned (.tuple #[])) (v.setCell ⟨g, 7, none⟩ (.int .i64 192)) := by
    intro v hno hv
    have e2 : l.followL (.go hd m) 0 = { l with err := 192 } := if_neg hno
    refine ⟨rfl, J, 0, Le.refl _, by rw [e2]; exact ok.err 192, ?_⟩
    rw [e2]
    exact ld_set (hv.weaken (A := [_, _, _])) 7 _ rfl
  have hgood : ∀ v n, (l.known = none ∧ rightM m = true ∧ 0 ≤ hd ∧ hd ≤ 2304) → St W v J ((w.heap.size + 1 + 1, .cells (gcells hd m) 62 (0, 0)) :: (w.heap.size + 1, .cells #[.int .i64 0] 31 (0, 0)) :: (w.heap.size, .cells #[.pointer (some ⟨g, 0, none⟩)] 40 (0, 0)) :: (g, .cells l.cells 98 (0, 0)) :: F) →
      FolPost W J g l (.go hd m) F (.returned (.tuple #[])) (((v.drewN n).setCell ⟨g, 5, none⟩ (.pointer (some ⟨w.heap.size + 1 + 1, 0, none⟩))).setCell ⟨g, 6, none⟩ (.int .i64 0)) := by
    intro v n hyes hv
    have e2 : l.followL (.go hd m) (w.heap.size + 1 + 1) = { l with known := some ⟨w.heap.size + 1 + 1, hd, m⟩, wants := 0 } := if_pos hyes
    obtain ⟨J', hle, hJ, h2⟩ := St.freeze (hv.drew n)
    have h3 := h2.weaken (A := [_, _])
    have h4 := ld_set (l' := { l with known := some ⟨w.heap.size + 1 + 1, hd, m⟩ }) h3 5 (.pointer (some ⟨w.heap.size + 1 + 1, 0, none⟩)) rfl
    have h5 := ld_set (l' := { l with known := some ⟨w.heap.size + 1 + 1, hd, m⟩, wants := 0 }) h4 6 (.int .i64 0) rfl
    have hn := rightM_n hyes.2.1
    refine ⟨rfl, J', w.heap.size + 1 + 1, hle, ?_, ?_⟩
    · rw [e2]
      refine ⟨ok.left, ?_, ?_⟩
      · intro k hk
        injection hk with hk
        subst hk
        exact ⟨hJ, mok, hs, hyes.2.1, hyes.2.2.1, hyes.2.2.2⟩
      · exact .inr (.inr ⟨_, rfl, Int.le_refl _, by show (0 : Int) < (m.n : Int); omega⟩)
    · rw [e2]
      exact h5
  have hR : ∀ v, St W v J ((w.heap.size + 1 + 1, .cells (gcells hd m) 62 (0, 0)) :: (w.heap.size + 1, .cells #[.int .i64 0] 31 (0, 0)) :: (w.heap.size, .cells #[.pointer (some ⟨g, 0, none⟩)] 40 (0, 0)) :: (g, .cells l.cells 98 (0, 0)) :: F) →
      Calls Tryd.prog 64 #[.agg m.cells] v fun e w' => e = .returned (.bool (rightM m)) ∧ St W w' J ((w.heap.size + 1 + 1, .cells (gcells hd m) 62 (0, 0)) :: (w.heap.size + 1, .cells #[.int .i64 0] 31 (0, 0)) :: (w.heap.size, .cells #[.pointer (some ⟨g, 0, none⟩)] 40 (0, 0)) :: (g, .cells l.cells 98 (0, 0)) :: F) :=
    fun v hv => right_own t m mok (by omega) hv
  have HA := Lib.hid hst3; have HMANY := Lib.hid hmany; have HFIT := Lib.hid hfit; have HINF := Lib.hid hinf; have HONE := Lib.hid hone; have HMI := Lib.hid hmi; have FA := Lib.hid hfa; have BAD := Lib.hid hbad; have GOOD := Lib.hid hgood; have HRT := Lib.hid hR
  clear hst3 hmany hfit hinf hone hmi hfa hbad hgood hR e1 h
  obtain ⟨R, hRm⟩ : ∃ R, rightM m = R := ⟨_, rfl⟩
  have HRM := Lib.hid hRm
  obtain ⟨kn, hkn⟩ : ∃ kn, l.known = kn := ⟨_, rfl⟩
  obtain ⟨X, hX⟩ : ∃ X, gcells hd m = X := ⟨_, rfl⟩
  have hload : ∀ v, St W v J ((w.heap.size + 1 + 1, .cells X 62 (0, 0)) :: (w.heap.size + 1, .cells #[.int .i64 0] 31 (0, 0)) :: (w.heap.size, .cells #[.pointer (some ⟨g, 0, none⟩)] 40 (0, 0)) :: (g, .cells l.cells 98 (0, 0)) :: F) → ∀ j, j < m.cells.size → X[1 + j]? = m.cells[j]? := by
    intro v hv j hj
    rw [← hX, Nat.add_comm]
    exact gcells_m hd m j
  have HLD := Lib.hid hload; clear hload
  rw [hX] at HMANY HFIT HINF HONE FA BAD GOOD HRT a1 a2 ⊢
  have HX := Lib.hid hX; clear hX
  have HKN := Lib.hid hkn; clear hkn
  clear hRm
  go_enter_defers Tryd.func37, Tryd.ntmps37
  go_wp2_with (with_reducible refine wpList_store_st rfl 62 (.tmp 6) (.tmp 30) rfl (g := w.heap.size + 1 + 1) (off := 0) X rfl rfl HA.out HFIT.out HINF.out HONE.out ?_; intro w3 h3; refine Hid.out ?_)
  refine Lib.hid ?_
  rw [HMANY.out] at h3
  obtain ⟨q0, qh, q5, q6, q7, z5, z6, z7⟩ := FA.out _ h3
  have H3 := Lib.hid h3
  clear h3 HA HMANY HFIT HINF HONE a1 a2
  cases kn with
  | some k =>
    rw [HKN.out] at q5
    simp only [knV] at q5
    go_wp2_with fail
    refine leaves_cons (f := 62) (args := #[.pointer (some ⟨w.heap.size, 0, none⟩)]) (by simp) (by simp [go_sem]) ?_
    refine (clo_idle w.heap.size _).mono ?_
    rintro e u' w'' ⟨rfl, rfl, rfl⟩
    have H := BAD.out _ (by rw [HKN.out]; simp) H3.out
    simp [Leaves, settle, results, Tryd.results37, go_sem]
    exact H
  | none =>
    rw [HKN.out] at q5
    simp only [knV] at q5
    cases R with
    | false =>
      go_wp2_with (first | (refine wpList_load_g (by rfl) 53 (.tmp 37) rfl (g := w.heap.size + 1 + 1) (off := 1) rfl H3.out (cs := X) (t := 62) (fr := (0, 0)) (List.mem_cons_self ..) m.cells (HLD.out _ H3.out) _ Tryd.underlying53 rfl HMI.out ?_) | (go_at_call 64; refine (HRT.out _ H3.out).mono ?_; rintro e w4 ⟨rfl, h4⟩; rw [HRM.out]; obtain ⟨q0, qh, q5, q6, q7, z5, z6, z7⟩ := FA.out _ h4; have H4 := Lib.hid h4; clear h4))
      refine leaves_cons (f := 62) (args := #[.pointer (some ⟨w.heap.size, 0, none⟩)]) (by simp) (by simp [go_sem]) ?_
      refine (clo_idle w.heap.size _).mono ?_
      rintro e u' w'' ⟨rfl, rfl, rfl⟩
      have H := BAD.out _ (by rw [HRM.out]; simp) H4.out
      simp [Leaves, settle, results, Tryd.results37, go_sem]
      exact H
    | true =>
      by_cases c0 : hd < 0
      · go_wp2_with (first | (refine wpList_load_g (by rfl) 53 (.tmp 37) rfl (g := w.heap.size + 1 + 1) (off := 1) rfl H3.out (cs := X) (t := 62) (fr := (0, 0)) (List.mem_cons_self ..) m.cells (HLD.out _ H3.out) _ Tryd.underlying53 rfl HMI.out ?_) | (go_at_call 64; refine (HRT.out _ H3.out).mono ?_; rintro e w4 ⟨rfl, h4⟩; rw [HRM.out]; obtain ⟨q0, qh, q5, q6, q7, z5, z6, z7⟩ := FA.out _ h4; have H4 := Lib.hid h4; clear h4))
        refine leaves_cons (f := 62) (args := #[.pointer (some ⟨w.heap.size, 0, none⟩)]) (by simp) (by simp [go_sem]) ?_
        refine (clo_idle w.heap.size _).mono ?_
        rintro e u' w'' ⟨rfl, rfl, rfl⟩
        have H := BAD.out _ (by omega) H4.out
        simp [Leaves, settle, results, Tryd.results37, go_sem]
        exact H
      · by_cases c1 : 2304 < hd
        · go_wp2_with (first | (refine wpList_load_g (by rfl) 53 (.tmp 37) rfl (g := w.heap.size + 1 + 1) (off := 1) rfl H3.out (cs := X) (t := 62) (fr := (0, 0)) (List.mem_cons_self ..) m.cells (HLD.out _ H3.out) _ Tryd.underlying53 rfl HMI.out ?_) | (go_at_call 64; refine (HRT.out _ H3.out).mono ?_; rintro e w4 ⟨rfl, h4⟩; rw [HRM.out]; obtain ⟨q0, qh, q5, q6, q7, z5, z6, z7⟩ := FA.out _ h4; have H4 := Lib.hid h4; clear h4))
          refine leaves_cons (f := 62) (args := #[.pointer (some ⟨w.heap.size, 0, none⟩)]) (by simp) (by simp [go_sem]) ?_
          refine (clo_idle w.heap.size _).mono ?_
          rintro e u' w'' ⟨rfl, rfl, rfl⟩
          have H := BAD.out _ (by omega) H4.out
          simp [Leaves, settle, results, Tryd.results37, go_sem]
          exact H
        · go_wp2_with (first | (refine wpList_load_g (by rfl) 53 (.tmp 37) rfl (g := w.heap.size + 1 + 1) (off := 1) rfl H3.out (cs := X) (t := 62) (fr := (0, 0)) (List.mem_cons_self ..) m.cells (HLD.out _ H3.out) _ Tryd.underlying53 rfl HMI.out ?_) | (go_at_call 64; refine (HRT.out _ H3.out).mono ?_; rintro e w4 ⟨rfl, h4⟩; rw [HRM.out]; obtain ⟨q0, qh, q5, q6, q7, z5, z6, z7⟩ := FA.out _ h4; have H4 := Lib.hid h4; clear h4))
          have hne : w.heap.size ≠ g := by omega
          clear FA BAD HRT HLD H3
          go_region_held3 (fun w' => w'.cell? ⟨w.heap.size, 0, none⟩ = some (.pointer (some ⟨g, 0, none⟩))) (simp [*, World.cell?_setCell_far, Ne.symm hne]) (fail)
          go_wp2_with fail
          refine leaves_cons (f := 62) (args := #[.pointer (some ⟨w.heap.size, 0, none⟩)]) (by simp) (by simp [go_sem]) ?_
          refine (clo_idle w.heap.size _).mono ?_
          rintro e u' w'' ⟨rfl, rfl, rfl⟩
          simp [Leaves, settle, results, Tryd.results37, go_sem]
          
          exact GOOD.out _ 1 (by rw [HRM.out, HKN.out]; exact ⟨rfl, rfl, by omega, by omega⟩) H4.out
end
end
end Go.Proofs.YtnhlpiomfljlcaaDoor
