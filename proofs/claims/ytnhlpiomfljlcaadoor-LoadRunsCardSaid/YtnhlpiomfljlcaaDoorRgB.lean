/- What a ring of Pieces is in memory: each piece has two cells. A region that draws its order, whose last operation waits for all the others: the others under one condition on the world, then the last one. The walks of a ring of Pieces: each function does what Qing.send, Qing.recv .. say. -/
import Derived.Test.YtnhlpiomfljlcaaDoorRgA
import Derived.Test.YtnhlpiomfljlcaaDoorBase
import Derived.StillTail
import Derived.Deep.RegionWith
import Derived.Deep.RegionHeld3
import Derived.Test.YtnhlpiomfljlcaaDoorBld
namespace Go.Proofs.YtnhlpiomfljlcaaDoor
section
set_option linter.unusedVariables false
set_option linter.unusedSimpArgs false
open Go.RowKit

/-- A piece: its place, and where its bytes lie. -/
structure Pc where
  at_ : Int
  A : Option Addr
  m : Nat
  c : Nat
def Pc.va (p : Pc) : Value := .int .i64 p.at_
def Pc.vb (p : Pc) : Value := .slice p.A p.m p.c
def Pc.v (p : Pc) : Value := .agg #[.int .i64 p.at_, .slice p.A p.m p.c]
def Pc.zero : Pc := ⟨0, none, 0, 0⟩

structure Qing where
  r : Nat
  ab : Nat
  n : Nat
  first : Nat
  arr : Array Value
  xs : List Pc

structure Qing.Ok (ρ : Qing) : Prop where
  n1 : 1 ≤ ρ.n
  n16 : ρ.n ≤ 16
  f : ρ.first < ρ.n
  size : ρ.arr.size = ρ.n * 2
  many : ρ.xs.length ≤ ρ.n
  at_ : ∀ k p, ρ.xs[k]? = some p → ρ.arr[((ρ.first + k) % ρ.n) * 2]? = some p.va ∧ ρ.arr[((ρ.first + k) % ρ.n) * 2 + 1]? = some p.vb

def Qing.L (T E : TypeId) (ρ : Qing) : List (Nat × Obj) :=
  [(ρ.r, .cells #[.slice (some ⟨ρ.ab, 0, none⟩) ρ.n ρ.n, .int .i64 ρ.first, .int .i64 ρ.xs.length, .bool false] T (0, 0)), (ρ.ab, .cells ρ.arr E (0, 0))]
def Qing.room (ρ : Qing) : Nat := ρ.n - ρ.xs.length
def set2 (arr : Array Value) (i : Nat) (p : Pc) : Array Value := (arr.setIfInBounds (i * 2) p.va).setIfInBounds (i * 2 + 1) p.vb
def Qing.send (ρ : Qing) (p : Pc) : Qing := { ρ with arr := set2 ρ.arr ((ρ.first + ρ.xs.length) % ρ.n) p, xs := ρ.xs ++ [p] }
def Qing.recv (ρ : Qing) : Qing := if ρ.xs = [] then ρ else { ρ with arr := set2 ρ.arr ρ.first Pc.zero, first := (ρ.first + 1) % ρ.n, xs := ρ.xs.tail }
def Qing.front (ρ : Qing) : Pc := ρ.xs.headD Pc.zero
def Qing.any (ρ : Qing) : Bool := !ρ.xs.isEmpty

theorem set2_size (arr : Array Value) (i : Nat) (p : Pc) : (set2 arr i p).size = arr.size := by simp [set2]
theorem set2_same {arr : Array Value} {i : Nat} {p : Pc} (h : i * 2 + 1 < arr.size) : (set2 arr i p)[i * 2]? = some p.va ∧ (set2 arr i p)[i * 2 + 1]? = some p.vb := by
  constructor
  · rw [set2, Array.getElem?_setIfInBounds_ne (by omega), Array.getElem?_setIfInBounds_self_of_lt (by omega)]
  · rw [set2, Array.getElem?_setIfInBounds_self_of_lt (by simpa using h)]
theorem set2_ne {arr : Array Value} {i j : Nat} {p : Pc} (h : i ≠ j) : (set2 arr i p)[j * 2]? = arr[j * 2]? ∧ (set2 arr i p)[j * 2 + 1]? = arr[j * 2 + 1]? := by
  constructor
  · rw [set2, Array.getElem?_setIfInBounds_ne (by omega), Array.getElem?_setIfInBounds_ne (by omega)]
  · rw [set2, Array.getElem?_setIfInBounds_ne (by omega), Array.getElem?_setIfInBounds_ne (by omega)]

theorem Qing.send_ok {ρ : Qing} (ok : ρ.Ok) (v : Pc) (h : ρ.xs.length < ρ.n) : (ρ.send v).Ok := by
  refine ⟨ok.n1, ok.n16, ok.f, by simp [Qing.send, set2_size, ok.size], by simp [Qing.send]; omega, ?_⟩
  intro k u hk
  simp only [Qing.send] at hk ⊢
  by_cases hlt : k < ρ.xs.length
  · rw [List.getElem?_append_left hlt] at hk
    have := mod_ne ok.f (a := ρ.xs.length) (b := k) h (by omega) (by omega)
    rw [(set2_ne this).1, (set2_ne this).2]
    exact ok.at_ k u hk
  · have hke : k = ρ.xs.length := by
      have := (List.getElem?_eq_some_iff.1 hk).1
      simp at this
      omega
    subst hke
    simp at hk
    subst hk
    have : (ρ.first + ρ.xs.length) % ρ.n < ρ.n := Nat.mod_lt _ (by have := ok.n1; omega)
    exact set2_same (by rw [ok.size]; omega)

theorem Qing.recv_ok {ρ : Qing} (ok : ρ.Ok) : ρ.recv.Ok := by
  unfold Qing.recv
  split
  · exact ok
  · rename_i hne
    have h1 := ok.n1
    have hl : 0 < ρ.xs.length := by cases h : ρ.xs with | nil => exact absurd h hne | cons _ _ => simp
    have hm := ok.many
    refine ⟨h1, ok.n16, Nat.mod_lt _ h1, by simp [set2_size, ok.size], by simp; omega, ?_⟩
    intro k u hk
    simp only at hk ⊢
    rw [List.getElem?_tail] at hk
    have hk1 := (List.getElem?_eq_some_iff.1 hk).1
    have e : ((ρ.first + 1) % ρ.n + k) % ρ.n = (ρ.first + (k + 1)) % ρ.n := by
      rw [Nat.mod_add_mod]
      congr 1
      omega
    rw [e]
    have hne' := mod_ne ok.f (a := 0) (b := k + 1) (by omega) (by omega) (by omega)
    rw [Nat.add_zero, Nat.mod_eq_of_lt ok.f] at hne'
    rw [(set2_ne hne').1, (set2_ne hne').2]
    exact ok.at_ _ u hk

def zeros2 (n : Nat) : Array Value := madeCells #[.int .i64 0, .slice none 0 0] (n * 2)
theorem zeros2_size (n : Nat) : (zeros2 n).size = n * 2 := by rw [zeros2, size_madeCells]
def Qing.fresh (r ab n : Nat) : Qing := ⟨r, ab, n, 0, zeros2 n, []⟩
theorem Qing.fresh_ok (r ab : Nat) (room : Int) : (Qing.fresh r ab (roomOf room)).Ok := by
  have h : 1 ≤ roomOf room ∧ roomOf room ≤ 16 := by unfold roomOf; omega
  exact ⟨h.1, h.2, by simp [Qing.fresh]; omega, by simp [Qing.fresh, zeros2_size], by simp [Qing.fresh], by simp [Qing.fresh]⟩

structure Qing.New (ρ : Qing) (n : Nat) : Prop where
  ok : ρ.Ok
  n : ρ.n = n
  xs : ρ.xs = []
theorem Qing.fresh_new (r ab : Nat) (room : Int) : (Qing.fresh r ab (roomOf room)).New (roomOf room) := ⟨Qing.fresh_ok r ab room, rfl, rfl⟩
theorem Qing.recv_n (ρ : Qing) : ρ.recv.n = ρ.n := by unfold Qing.recv; split <;> rfl
theorem Qing.recv_r (ρ : Qing) : ρ.recv.r = ρ.r := by unfold Qing.recv; split <;> rfl
theorem Qing.recv_xs (ρ : Qing) : ρ.recv.xs = ρ.xs.tail := by
  unfold Qing.recv
  split
  · rename_i h; rw [h]; rfl
  · rfl

section
variable {W w : World} {I : Nat → Option Obj} {F : List (Nat × Obj)} {T E : TypeId} {ρ : Qing}
theorem Qing.c0 (h : St W w I (ρ.L T E ++ F)) : w.cell? ⟨ρ.r, 0, none⟩ = some (.slice (some ⟨ρ.ab, 0, none⟩) ρ.n ρ.n) := h.cell (cs := #[.slice (some ⟨ρ.ab, 0, none⟩) ρ.n ρ.n, .int .i64 ρ.first, .int .i64 ρ.xs.length, .bool false]) (by simp [Qing.L]; left; exact ⟨rfl, rfl⟩) 0
theorem Qing.c1 (h : St W w I (ρ.L T E ++ F)) : w.cell? ⟨ρ.r, 1, none⟩ = some (.int .i64 ρ.first) := h.cell (cs := #[.slice (some ⟨ρ.ab, 0, none⟩) ρ.n ρ.n, .int .i64 ρ.first, .int .i64 ρ.xs.length, .bool false]) (by simp [Qing.L]; left; exact ⟨rfl, rfl⟩) 1
theorem Qing.c2 (h : St W w I (ρ.L T E ++ F)) : w.cell? ⟨ρ.r, 2, none⟩ = some (.int .i64 ρ.xs.length) := h.cell (cs := #[.slice (some ⟨ρ.ab, 0, none⟩) ρ.n ρ.n, .int .i64 ρ.first, .int .i64 ρ.xs.length, .bool false]) (by simp [Qing.L]; left; exact ⟨rfl, rfl⟩) 2
theorem Qing.c3 (h : St W w I (ρ.L T E ++ F)) : w.cell? ⟨ρ.r, 3, none⟩ = some (.bool false) := h.cell (cs := #[.slice (some ⟨ρ.ab, 0, none⟩) ρ.n ρ.n, .int .i64 ρ.first, .int .i64 ρ.xs.length, .bool false]) (by simp [Qing.L]; left; exact ⟨rfl, rfl⟩) 3
theorem Qing.ca (h : St W w I (ρ.L T E ++ F)) (i : Nat) : w.cell? ⟨ρ.ab, i, none⟩ = ρ.arr[i]? := h.cell (cs := ρ.arr) (t := E) (fr := (0, 0)) (by simp [Qing.L]) i
theorem Qing.ne (h : St W w I (ρ.L T E ++ F)) : ρ.r ≠ ρ.ab := by
  have := h.nodup
  simp [Qing.L] at this
  exact this.1.1
theorem Qing.fr (h : St W w I (ρ.L T E ++ F)) (i : Nat) : w.frozen? ⟨ρ.r, i, none⟩ = false := h.frozen (t := T) (by simp [Qing.L]; left; rfl) i
theorem Qing.fa (h : St W w I (ρ.L T E ++ F)) (i : Nat) : w.frozen? ⟨ρ.ab, i, none⟩ = false := h.frozen (t := E) (cs := ρ.arr) (by simp [Qing.L]) i
end
end

section
set_option linter.unusedVariables false
set_option linter.unusedSimpArgs false
open Go.RowKit

section
variable {P : Program} {ops ops' : Array Oper} {md : Region.Mode} {Q : Exit → Act → World → Prop} {N : Act → World → Prop} {n : Nat}
/-- What is asked behind the others. -/
def SinkQ (Q : Exit → Act → World → Prop) (N : Act → World → Prop) : Exit → Act → World → Prop := fun e a w => match e with
  | .normal => N a w
  | e => Q e a w
theorem upon_sink {o : Oper} {a : Act} {K : Act → World → Prop} {r : Result Next} (h : o.upon P a K (SinkQ Q N) r) : o.upon P a K Q r := by
  cases r with
  | ok x w' =>
    cases x <;> simp only [Oper.upon] at h ⊢ <;> first | exact h | exact Calls.mono h (fun e w'' he => by cases e <;> exact he)
  | halt x w' => cases x <;> simp only [Oper.upon] at h ⊢ <;> exact h
def Region.sinkOK (md : Region.Mode) (ops : Array Oper) (n : Nat) : Bool :=
  decide (ops.size = n + 1) && Region.sinkB md ops n && ((List.range (n + 1)).all fun i => match ops[i]? with
    | none => false
    | some o => (o.after.all fun e => decide (e.on < i)) && (match o.guard with | none => true | some (g, _) => decide (g < i)))
structure SinkFits (md : Region.Mode) (ops ops' : Array Oper) (n : Nat) : Prop where
  size : ops.size = n + 1
  size' : ops'.size = n
  same : ∀ i, i < n → ops'[i]? = ops[i]?
  sink : Region.sinkB md ops n = true
  after : ∀ (i : Nat) (o : Oper), ops[i]? = some o → ∀ e ∈ o.after, e.on < i
  guard : ∀ (i : Nat) (o : Oper) (g : Nat) (b : Bool), ops[i]? = some o → o.guard = some (g, b) → g < i
theorem SinkFits.of {l : List Oper} (h : Region.sinkOK md l.toArray n = true) : SinkFits md l.toArray (l.take n).toArray n := by
  unfold Region.sinkOK at h
  simp only [Bool.and_eq_true, decide_eq_true_eq] at h
  obtain ⟨⟨h1, h2⟩, h3⟩ := h
  have hl : l.length = n + 1 := by simpa using h1
  have key : ∀ (i : Nat) (o : Oper), l.toArray[i]? = some o → (∀ e ∈ o.after, e.on < i) ∧ (∀ g b, o.guard = some (g, b) → g < i) := fun i o ho => by
    have hi : i < n + 1 := by have := (Array.getElem?_eq_some_iff.1 ho).1; omega
    have := List.all_eq_true.1 h3 i (List.mem_range.2 hi)
    rw [ho] at this
    simp only [Bool.and_eq_true] at this
    refine ⟨fun e he => by simpa using Array.all_eq_true_iff_forall_mem.1 this.1 e he, fun g b hg => ?_⟩
    have h5 := this.2
    rw [hg] at h5
    simpa using h5
  refine ⟨h1, by simp; omega, fun i hi => ?_, h2, fun i o ho => (key i o ho).1, fun i o g b ho hg => (key i o ho).2 g b hg⟩
  simp [hi]
theorem SinkFits.ready (F : SinkFits md ops ops' n) {listed listed' : Array Bool} (hs : listed.size = n + 1) (hs' : listed'.size = n) (hl : ∀ i, i < n → listed'[i]? = listed[i]?) {i : Nat} (hi : i < n) :
    i ∈ Region.ready md ops' listed' ↔ i ∈ Region.ready md ops listed := by
  have hg : ∀ j d, j < n → listed'.getD j d = listed.getD j d := fun j d hj => by
    have := hl j hj
    rw [Array.getD_eq_getD_getElem?, Array.getD_eq_getD_getElem?, this]
  rw [mem_ready, mem_ready, hg i true hi, F.same i hi]
  constructor
  · rintro ⟨h1, o, ho, h2⟩
    exact ⟨h1, o, ho, fun e he hb => by rw [← hg e.on false (by have := F.after i o ho e he; omega)]; exact h2 e he hb⟩
  · rintro ⟨h1, o, ho, h2⟩
    exact ⟨h1, o, ho, fun e he hb => by rw [hg e.on false (by have := F.after i o ho e he; omega)]; exact h2 e he hb⟩
theorem SinkFits.all (F : SinkFits md ops ops' n) {listed : Array Bool} (hs : listed.size = n + 1) (h : ∀ i, i < n → i ∉ Region.ready md ops listed) : ∀ i, i < n → listed.getD i false = true := by
  intro i
  induction i using Nat.strongRecOn with
  | _ i ih =>
    intro hi
    cases hc : listed.getD i false with
    | true => rfl
    | false =>
      refine absurd (mem_ready.2 ⟨getD_in (by omega) hc, ops[i]'(by rw [F.size]; omega), Array.getElem?_eq_getElem _, fun e he hb => ?_⟩) (h i hi)
      have := F.after i _ (Array.getElem?_eq_getElem (by rw [F.size]; omega)) e he
      exact ih e.on this (by omega)
theorem SinkFits.last (F : SinkFits md ops ops' n) {listed : Array Bool} (hs : listed.size = n + 1) (hn : listed.getD n false = false) (h : ∀ i, i < n → listed.getD i false = true) : n ∈ Region.ready md ops listed :=
  mem_ready.2 ⟨getD_in (by omega) hn, ops[n]'(by rw [F.size]; omega), Array.getElem?_eq_getElem _, fun e he hb => h e.on (F.after n _ (Array.getElem?_eq_getElem (by rw [F.size]; omega)) e he)⟩
theorem SinkFits.none (F : SinkFits md ops ops' n) {listed : Array Bool} (h : ∀ i, i < n + 1 → listed.getD i false = true) : Region.ready md ops listed = [] := by
  rw [List.eq_nil_iff_forall_not_mem]
  intro i hi
  obtain ⟨h1, o, ho, _⟩ := mem_ready.1 hi
  have hlt := (Array.getElem?_eq_some_iff.1 ho).1
  have := h i (by rw [F.size] at hlt; exact hlt)
  rw [getD_both h1] at this
  cases this
theorem wpAny_over {listed : Array Bool} {a : Act} {w : World} (h0 : Region.ready md ops listed = []) (h : Q .normal a w) : ∀ f, wpAny P md ops Q f listed a w
  | 0 => ⟨h0, h⟩
  | f + 1 => ⟨fun _ => h, fun i hi => by rw [h0] at hi; cases hi⟩
theorem wpOp_sink (F : SinkFits md ops ops' n) {i : Nat} (hi : i < n) {K : Act → World → Prop} {a : Act} {w : World} (h : wpOp P ops' (SinkQ Q N) i K a w) : wpOp P ops Q i K a w := by
  unfold wpOp at *
  rw [F.same i hi] at h
  cases ho : ops[i]? with
  | none => rw [ho] at h; exact h
  | some o =>
    rw [ho] at h
    dsimp only at h ⊢
    have hw : Region.wanted o (yielded ops' a.tmps) = Region.wanted o (yielded ops a.tmps) := by
      unfold Region.wanted
      cases hg : o.guard with
      | none => rfl
      | some p =>
        obtain ⟨g, b⟩ := p
        have := F.guard i o g b ho hg
        dsimp only
        unfold yielded
        rw [F.same g (by omega)]
    rw [hw] at h
    split
    · rename_i hc
      rw [if_pos hc] at h
      exact h.imp upon_sink id
    · rename_i hc
      rw [if_neg hc] at h
      exact h
theorem wpAny_sink (F : SinkFits md ops ops' n) {o : Oper} (ho : ops[n]? = some o) : ∀ (f : Nat) (listed listed' : Array Bool) (a : Act) (w : World), HeadInv md ops n listed → listed'.size = n → (∀ i, i < n → listed'[i]? = listed[i]?) →
    wpAny P md ops' (SinkQ Q (wpList P ops Q [o])) f listed' a w → wpAny P md ops Q (f + 1) listed a w := by
  intro f
  have hc : Region.chainB md ops n = true := List.all_eq_true.2 fun t ht => by
    have := List.mem_range.1 ht
    rw [F.size] at this
    simp
    exact .inl (by omega)
  have step : ∀ (g : Nat) (listed listed' : Array Bool) (a : Act) (w : World), HeadInv md ops n listed → listed'.size = n → (∀ i, i < n → listed'[i]? = listed[i]?) →
      (Region.ready md ops' listed' = [] → wpList P ops Q [o] a w) → (∀ i, i < n → i ∈ Region.ready md ops listed → wpOp P ops Q i (wpAny P md ops Q g (listed.setIfInBounds i true)) a w) → wpAny P md ops Q (g + 1) listed a w := by
    intro g listed listed' a w inv hs' hl h0 h1
    have hs : listed.size = n + 1 := by rw [inv.size, F.size]
    have hn : listed.getD n false = false := getD_both (inv.tail n (Nat.le_refl _) (by rw [F.size]; omega))
    have hready : ∀ i, i ∈ Region.ready md ops listed → i < n + 1 := fun i hi => by
      obtain ⟨_, x, hx, _⟩ := mem_ready.1 hi
      have := (Array.getElem?_eq_some_iff.1 hx).1
      rw [F.size] at this
      exact this
    refine ⟨fun h2 => ?_, fun i hi => ?_⟩
    · have hall := F.all hs (fun i _ hi => by rw [h2] at hi; cases hi)
      have := F.last hs hn hall
      rw [h2] at this
      cases this
    · have hin := hready i hi
      by_cases hlt : i < n
      · exact h1 i hlt hi
      · have e : i = n := by omega
        subst e
        have hno : ∀ j, j < i → j ∉ Region.ready md ops listed := fun j hj hr => by
          obtain ⟨hun, _⟩ := mem_ready.1 hr
          exact tail_waits F.sink hc (by rw [F.size]; omega) inv _ j rfl hj hun i (Nat.le_refl _) hi
        have hall := F.all hs hno
        have h2 : Region.ready md ops' listed' = [] := by
          rw [List.eq_nil_iff_forall_not_mem]
          intro j hj
          obtain ⟨_, x, hx, _⟩ := mem_ready.1 hj
          have hj2 : j < i := by have := (Array.getElem?_eq_some_iff.1 hx).1; rw [F.size'] at this; exact this
          exact hno j hj2 ((F.ready hs hs' hl hj2).1 hj)
        have h3 := h0 h2
        have hw : wpOp P ops Q i (Q .normal) a w := by unfold wpOp; simp only [ho]; exact h3
        refine wpOp_mono (fun a' w' h' => wpAny_over (F.none fun j hj => ?_) h' g) hw
        by_cases hji : j = i
        · subst hji
          rw [Array.getD_eq_getD_getElem?, Array.getElem?_setIfInBounds_self_of_lt (by omega)]
          rfl
        · rw [getD_set_ne false (Ne.symm hji)]
          exact hall j (by omega)
  induction f with
  | zero =>
    intro listed listed' a w inv hs' hl h
    have hs : listed.size = n + 1 := by rw [inv.size, F.size]
    exact step 0 listed listed' a w inv hs' hl (fun _ => h.2) (fun i hi hr => by
      have := (F.ready hs hs' hl hi).2 hr
      rw [h.1] at this
      cases this)
  | succ f ih =>
    intro listed listed' a w inv hs' hl h
    have hs : listed.size = n + 1 := by rw [inv.size, F.size]
    refine step (f + 1) listed listed' a w inv hs' hl h.1 (fun i hi hr => ?_)
    have hr' := (F.ready hs hs' hl hi).2 hr
    refine wpOp_mono (fun a' w' h' => ih (listed.setIfInBounds i true) (listed'.setIfInBounds i true) a' w' (inv.set hr hi) (by simp [hs']) (fun j hj => ?_) h') (wpOp_sink F hi (h.2 i hr'))
    by_cases hji : i = j
    · subst hji
      rw [Array.getElem?_setIfInBounds_self_of_lt (by omega), Array.getElem?_setIfInBounds_self_of_lt (by omega)]
    · rw [Array.getElem?_setIfInBounds_ne hji, Array.getElem?_setIfInBounds_ne hji]
      exact hl j hj
/-- THE REGION: its operations but the last one under S; behind them the last one. -/
theorem wp_region_sink {S : World → Prop} {id : Nat} {a : Act} {w : World} {l : List Oper} {o : Oper} (n : Nat) (hm : P.follows .mixedOrders = true) (hB : Region.sinkOK .any l.toArray n = true) (ho : l.toArray[n]? = some o) (hS : S w.drew)
    (h : S w.drew → wpAnyH P .any (l.take n).toArray (SinkQ Q (wpList P l.toArray Q [o])) S n (Array.replicate n false) a w.drew) : (Code.region id l.toArray true).wp P Q a w := by
  have F := SinkFits.of hB
  refine wp_region_any hm ?_
  have hsz : l.toArray.size = n + 1 := F.size
  rw [hsz]
  exact wpAny_sink F ho n (Array.replicate (n + 1) false) (Array.replicate n false) a _
    ⟨by rw [Array.size_replicate, F.size], fun j oj _ hl => (by rw [getD_replicate_false] at hl; cases hl), fun t _ ht => getD_in (by rw [Array.size_replicate]; rw [F.size] at ht; exact ht) (getD_replicate_false _ _)⟩
    (Array.size_replicate ..) (fun i hi => by rw [Array.getElem?_replicate, Array.getElem?_replicate, if_pos hi, if_pos (by omega)]) (wpAny_of_held n _ a _ (h hS))
end
end

section
set_option linter.unusedVariables false
set_option linter.unusedSimpArgs false
open Go.RowKit

set_option maxHeartbeats 400000 in
theorem place_pc (w : World) (r ab n first k idx : Nat) (hn : 0 < n) (hn16 : n ≤ 16) (hf : first < 16) (hk : k ≤ 16) (hi : Hid ((first + k) % n = idx))
   (h0 : w.cell? ⟨r, 0, none⟩ = some (.slice (some ⟨ab, 0, none⟩) n n)) (h1 : w.cell? ⟨r, 1, none⟩ = some (.int .i64 first)) :
    Calls Tryd.prog 47 #[.pointer (some ⟨r, 0, none⟩), .int .i64 k] w fun e w' => e = .returned (.int .i64 (idx : Int)) ∧ ∃ m, w' = w.drewN m := by
  go_enter Tryd.func47, Tryd.ntmps47
  go_wp2_with fail
  go_quiet (fail)
  go_wp2_with fail
  go_ret
  exact ⟨by rw [← hi.out]; rfl, _, rfl⟩

set_option maxHeartbeats 400000 in
theorem room_pc (ρ : Qing) (ok : ρ.Ok) {W w : World} {I : Nat → Option Obj} {F : List (Nat × Obj)} (h : St W w I (ρ.L 93 37 ++ F)) :
    Calls Tryd.prog 38 #[.pointer (some ⟨ρ.r, 0, none⟩)] w fun e w' => e = .returned (.int .i64 (ρ.room : Int)) ∧ ∃ m, w' = w.drewN m := by
  have h0 := Qing.c0 h
  have h2 := Qing.c2 h
  have h3 := Qing.c3 h
  have b1 := ok.n16
  have b2 := ok.many
  go_enter Tryd.func38, Tryd.ntmps38
  go_wp2_with fail
  go_quiet (fail)
  go_wp2_with fail
  go_ret
  refine ⟨?_, _, rfl⟩
  simp [Qing.room]; omega

set_option maxHeartbeats 400000 in
theorem len_pc (ρ : Qing) {W w : World} {I : Nat → Option Obj} {F : List (Nat × Obj)} (h : St W w I (ρ.L 93 37 ++ F)) :
    Calls Tryd.prog 19 #[.pointer (some ⟨ρ.r, 0, none⟩)] w fun e w' => e = .returned (.int .i64 (ρ.xs.length : Int)) ∧ w = w' := by
  have h2 := Qing.c2 h
  go_enter Tryd.func19, Tryd.ntmps19
  go_wp2_with fail
  go_ret
  exact ⟨rfl, rfl⟩

theorem results_pc {P : Program} {fn : Func} {p q : Tmp} {ty : TypeId} (h : fn.results = #[.cell p ty, .tmp q]) (tmps : Array Value) (w : World) (g : Nat) (t : TypeId) (cs : Array Value) (fr : Nat × Nat) (d : TypeDesc) (v : Value)
    (hp : tmps.getD p undef = .pointer (some ⟨g, 0, none⟩)) (hq : tmps.getD q undef = v) (hg : w.heap[g]? = some (.cells cs t fr))
    (hu : P.underlying ty = some d) (hd : (match d with | .struct _ | .array _ _ => true | _ => false) = true) (hi : (P.info? ty).map (·.size) = some cs.size) :
    (results fn tmps).run P w = .ok (.tuple #[.agg cs, v]) w := by
  have hp' : tmps[p]?.getD undef = .pointer (some ⟨g, 0, none⟩) := by simpa using hp
  have hq' : tmps[q]?.getD undef = v := by simpa using hq
  simp [results, h, hp', hq', asAddr, run_loadVar_row w g t ty cs fr d hg hu hd hi]

def Z2 : Array Value := #[.int .i64 0, .slice none 0 0]
/-- What a Peek leaves behind. -/
def PeekPost (W : World) (I : Nat → Option Obj) (L : List (Nat × Obj)) (p : Pc) (b : Bool) (e : Ending) (w' : World) : Prop := e = .returned (.tuple #[p.v, .bool b]) ∧ St W w' I L

set_option maxHeartbeats 1000000 in
theorem peek_pc (ρ : Qing) (ok : ρ.Ok) {W w : World} {I : Nat → Option Obj} {F : List (Nat × Obj)} (h : St W w I (ρ.L 93 37 ++ F)) :
    Calls Tryd.prog 46 #[.pointer (some ⟨ρ.r, 0, none⟩)] w (PeekPost W I (ρ.L 93 37 ++ F) ρ.front ρ.any) := by
  have h0 := Qing.c0 h
  have h1 := Qing.c1 h
  have h2 := Qing.c2 h
  have ha := Qing.ca h
  have b1 := ok.n16
  have b2 := ok.many
  have b3 := ok.f
  have l1 : ρ.r < w.heap.size := h.lt (p := (ρ.r, _)) (by simp [Qing.L]; left; rfl)
  have l2 : ρ.ab < w.heap.size := h.lt (p := (ρ.ab, _)) (by simp [Qing.L]; right; left; rfl)
  have hst := (h.alloc (.cells #[.int .i64 0, .slice none 0 0] 37)).alloc (.cells #[.int .i64 0, .slice none 0 0] 37)
  have hx : ∃ l, ρ.xs = l := ⟨_, rfl⟩
  cases hx : ρ.xs with
  | nil =>
    rw [hx] at h2
    simp at h2
    have Hst := Lib.hid hst; clear hst
    have H := Lib.hid hx; clear hx
    go_enter Tryd.func46, Tryd.ntmps46
    go_wp2_with fail
    refine bodyPost_ret (results_pc rfl _ _ w.heap.size 37 #[.int .i64 0, .slice none 0 0] (0, 0) _ (.bool false) rfl rfl (Hst.out.own (w.heap.size, .cells _ 37 (0, 0)) (List.mem_cons_of_mem _ (List.mem_cons_self ..))) Tryd.underlying37 (by kernel_rfl) (by kernel_rfl)) rfl ?_
    exact ⟨by rw [Qing.front, Qing.any, H.out]; rfl, St.weaken (A := [_, _]) Hst.out⟩
  | cons x l =>
    have hl : 0 < ρ.xs.length := by rw [hx]; simp
    have h4 := ok.at_ 0 x (by rw [hx]; rfl)
    rw [Nat.add_zero, Nat.mod_eq_of_lt b3] at h4
    have h5 := (ha (ρ.first * 2)).trans h4.1
    have h6 := (ha (ρ.first * 2 + 1)).trans h4.2
    simp only [Pc.va, Pc.vb] at h5 h6
    clear ha h4
    have H := Lib.hid hx; clear hx
    have Hst := Lib.hid hst; clear hst
    have Q0 := Lib.hid (Qing.c0 (T := 93) (E := 37) (F := F) (Hst.out.weaken (A := [_, _])))
    have Q1 := Lib.hid (Qing.c1 (T := 93) (E := 37) (F := F) (Hst.out.weaken (A := [_, _])))
    have Q2 := Lib.hid ((Qing.ca (T := 93) (E := 37) (F := F) (Hst.out.weaken (A := [_, _])) (ρ.first * 2)).trans ((Qing.ca h (ρ.first * 2)).symm.trans h5))
    have Q3 := Lib.hid ((Qing.ca (T := 93) (E := 37) (F := F) (Hst.out.weaken (A := [_, _])) (ρ.first * 2 + 1)).trans ((Qing.ca h (ρ.first * 2 + 1)).symm.trans h6))
    have Q4 := Lib.hid (Hst.out.frozen (g := w.heap.size) (t := 37) (cs := #[.int .i64 0, .slice none 0 0]) (List.mem_cons_of_mem _ (List.mem_cons_self ..)))
    have Q5 := Lib.hid (Hst.out.cell (g := w.heap.size) (t := 37) (fr := (0, 0)) (cs := #[.int .i64 0, .slice none 0 0]) (List.mem_cons_of_mem _ (List.mem_cons_self ..)))
    go_enter Tryd.func46, Tryd.ntmps46
    go_wp2_with fail
    clear h0 h1 h2 h5 h6
    have n1 : ρ.r ≠ w.heap.size := by omega
    have n2 : ρ.ab ≠ w.heap.size := by omega
    generalize hgg : w.heap.size = g at *
    have HG := Lib.hid hgg; clear hgg
    generalize (w.alloc (.cells #[.int .i64 0, .slice none 0 0] 37)).alloc (.cells #[.int .i64 0, .slice none 0 0] 37) = w2 at *
    have q0 := Q0.out; have q1 := Q1.out; have q2 := Q2.out; have q3 := Q3.out; have q4 := Q4.out
    have q50 := Q5.out 0; have q51 := Q5.out 1
    simp only [show (#[Value.int .i64 0, Value.slice none 0 0] : Array Value)[0]? = some (.int .i64 0) from rfl, show (#[Value.int .i64 0, Value.slice none 0 0] : Array Value)[1]? = some (.slice none 0 0) from rfl] at q50 q51
    have q40 := q4 0; have q41 := q4 1
    clear q4 Q0 Q1 Q2 Q3 Q4 Q5
    go_region_held3 (fun w' => w'.cell? ⟨ρ.r, 0, none⟩ = some (.slice (some ⟨ρ.ab, 0, none⟩) ρ.n ρ.n) ∧ w'.cell? ⟨ρ.r, 1, none⟩ = some (.int .i64 ρ.first) ∧ w'.cell? ⟨ρ.ab, ρ.first * 2, none⟩ = some (.int .i64 x.at_) ∧ w'.cell? ⟨ρ.ab, ρ.first * 2 + 1, none⟩ = some (.slice x.A x.m x.c)) (simp [*, World.cell?_setCell_far, Ne.symm n1, Ne.symm n2]) (fail)
    have S1 := St.set (A := [_]) Hst.out 0 (.int .i64 x.at_)
    have S2 := (St.set (A := [_]) S1 1 (.slice x.A x.m x.c)).drew1
    clear S1
    have HS2 := Lib.hid S2; clear S2
    go_wp2_with fail
    refine bodyPost_ret (results_pc rfl _ _ g 37 #[.int .i64 x.at_, .slice x.A x.m x.c] (0, 0) _ (.bool true) rfl rfl (HS2.out.own (g, .cells _ 37 (0, 0)) (List.mem_cons_of_mem _ (List.mem_cons_self ..))) Tryd.underlying37 (by kernel_rfl) (by kernel_rfl)) rfl ?_
    exact ⟨by rw [Qing.front, Qing.any, H.out]; rfl, (HS2.out.weaken (A := [_, _])).as rfl rfl rfl rfl⟩

set_option maxHeartbeats 2000000 in
theorem send_pc (ρ : Qing) (ok : ρ.Ok) (p : Pc) {W w : World} {I : Nat → Option Obj} {F : List (Nat × Obj)} (h : St W w I (ρ.L 93 37 ++ F)) (hr : 0 < ρ.room) :
    Calls Tryd.prog 40 #[.pointer (some ⟨ρ.r, 0, none⟩), .agg #[.int .i64 p.at_, .slice p.A p.m p.c]] w fun e w' => e = .returned (.bool true) ∧ St W w' I ((ρ.send p).L 93 37 ++ F) := by
  have b1 := ok.n16
  have b2 := ok.many
  have b3 := ok.f
  have b4 : 0 < ρ.n := ok.n1
  have b5 : ρ.n ≤ 16 := ok.n16
  have b6 : ρ.first < 16 := by omega
  have b7 : ρ.xs.length ≤ 16 := by omega
  have hst0 := h.alloc (.cells #[.int .i64 p.at_, .slice p.A p.m p.c] 37)
  have l1 : ρ.r < w.heap.size := h.lt (p := (ρ.r, _)) (by simp [Qing.L]; left; rfl)
  have l2 : ρ.ab < w.heap.size := h.lt (p := (ρ.ab, _)) (by simp [Qing.L]; right; left; rfl)
  have n1 : ρ.r ≠ w.heap.size := by omega
  have n2 : ρ.ab ≠ w.heap.size := by omega
  have hrr : (((ρ.room : Nat) : Int) == 0) = false := by simp; omega
  have hlt : (ρ.first + ρ.xs.length) % ρ.n < ρ.n := Nat.mod_lt _ b4
  have hsend : (ρ.send p).arr = set2 ρ.arr ((ρ.first + ρ.xs.length) % ρ.n) p := rfl
  have hsz := ok.size
  obtain ⟨idx, hidx⟩ : ∃ i, (ρ.first + ρ.xs.length) % ρ.n = i := ⟨_, rfl⟩
  rw [hidx] at hlt hsend
  have b8 : ((idx : Nat) : Int) < (ρ.n : Int) := by omega
  have b9 : (0 : Int) ≤ ((idx : Nat) : Int) := by omega
  have hc : ∀ w', St W w' I ((w.heap.size, .cells #[.int .i64 p.at_, .slice p.A p.m p.c] 37 (0, 0)) :: (ρ.L 93 37 ++ F)) → ∃ u v, w'.cell? ⟨ρ.ab, idx * 2, none⟩ = some u ∧ w'.cell? ⟨ρ.ab, idx * 2 + 1, none⟩ = some v := by
    intro w' hw
    have ha := Qing.ca (T := 93) (E := 37) (F := F) (hw.weaken (A := [_]))
    exact ⟨_, _, (ha _).trans (Array.getElem?_eq_getElem (by omega)), (ha _).trans (Array.getElem?_eq_getElem (by omega))⟩
  have hfin : ∀ w', St W w' I ((w.heap.size, .cells #[.int .i64 p.at_, .slice p.A p.m p.c] 37 (0, 0)) :: (ρ.L 93 37 ++ F)) →
      St W (((w'.setCell ⟨ρ.ab, idx * 2, none⟩ (.int .i64 p.at_)).setCell ⟨ρ.ab, idx * 2 + 1, none⟩ (.slice p.A p.m p.c)).setCell ⟨ρ.r, 2, none⟩ (.int .i64 ((ρ.xs.length : Int) + 1))) I ((ρ.send p).L 93 37 ++ F) := by
    intro w' hw
    have s1 := St.set (A := [_, (ρ.r, _)]) (B := F) hw (idx * 2) (.int .i64 p.at_)
    have s2 := St.set (A := [_, (ρ.r, _)]) (B := F) s1 (idx * 2 + 1) (.slice p.A p.m p.c)
    have s3 := (St.set (A := [_]) s2 2 (.int .i64 ((ρ.xs.length : Int) + 1))).weaken (A := [_])
    have e : (((ρ.send p).xs.length : Nat) : Int) = (ρ.xs.length : Int) + 1 := by simp [Qing.send]
    rw [Qing.L, hsend, e]
    exact s3
  have Hfin := Lib.hid hfin; clear hfin
  have Hc := Lib.hid hc; clear hc
  have Hst := Lib.hid hst0; clear hst0
  have HH := Lib.hid h
  have Hidx := Lib.hid hidx; clear hidx
  clear hsend hsz
  go_enter Tryd.func40, Tryd.ntmps40
  go_wp2_with ((go_at_call 38; refine (room_pc ρ ok (F := F) (Hst.out.weaken (A := [_]))).mono ?_; rintro e w' ⟨rfl, m, rfl⟩))
  have hsd := Hst.out.drew m
  clear Hst
  have r0 := Qing.c0 (T := 93) (E := 37) (F := F) (hsd.weaken (A := [_]))
  have r1 := Qing.c1 (T := 93) (E := 37) (F := F) (hsd.weaken (A := [_]))
  have r2 := Qing.c2 (T := 93) (E := 37) (F := F) (hsd.weaken (A := [_]))
  have fr := Qing.fr (T := 93) (E := 37) (F := F) (hsd.weaken (A := [_])) 2
  have fa0 := Qing.fa (T := 93) (E := 37) (F := F) (hsd.weaken (A := [_])) (idx * 2)
  have fa1 := Qing.fa (T := 93) (E := 37) (F := F) (hsd.weaken (A := [_])) (idx * 2 + 1)
  have hne := Qing.ne (T := 93) (E := 37) (F := F) (hsd.weaken (A := [_]))
  obtain ⟨u, v, c0, c1⟩ := Hc.out _ hsd
  have x0 := hsd.cell (g := w.heap.size) (t := 37) (fr := (0, 0)) (cs := #[.int .i64 p.at_, .slice p.A p.m p.c]) (List.mem_cons_self ..) 0
  have x1 := hsd.cell (g := w.heap.size) (t := 37) (fr := (0, 0)) (cs := #[.int .i64 p.at_, .slice p.A p.m p.c]) (List.mem_cons_self ..) 1
  simp only [show (#[Value.int .i64 p.at_, Value.slice p.A p.m p.c] : Array Value)[0]? = some (.int .i64 p.at_) from rfl, show (#[Value.int .i64 p.at_, Value.slice p.A p.m p.c] : Array Value)[1]? = some (.slice p.A p.m p.c) from rfl] at x0 x1
  have HSD := Lib.hid (Hfin.out _ hsd); clear Hfin hsd Hc h HH
  generalize hgg : w.heap.size = g at *
  have HG := Lib.hid hgg; clear hgg
  generalize (w.alloc (.cells #[.int .i64 p.at_, .slice p.A p.m p.c] 37)).drewN m = w2 at *
  go_region_held3 (fun w' => w'.cell? ⟨ρ.r, 0, none⟩ = some (.slice (some ⟨ρ.ab, 0, none⟩) ρ.n ρ.n) ∧ w'.cell? ⟨ρ.r, 1, none⟩ = some (.int .i64 ρ.first) ∧ w'.cell? ⟨ρ.r, 2, none⟩ = some (.int .i64 ρ.xs.length) ∧ w'.cell? ⟨g, 0, none⟩ = some (.int .i64 p.at_) ∧ w'.cell? ⟨g, 1, none⟩ = some (.slice p.A p.m p.c)) (simp [*, World.cell?_setCell_far, Ne.symm hne, Ne.symm n1, Ne.symm n2, n1, n2])
    (first | (go_at_call 47; refine (place_pc _ ρ.r ρ.ab ρ.n ρ.first ρ.xs.length idx b4 b5 b6 b7 Hidx (by first | exact r0 | simp [*]) (by first | exact r1 | simp [*])).mono ?_; rintro e w' ⟨rfl, m, rfl⟩))
  go_wp2_with fail
  go_ret
  exact ⟨rfl, HSD.out.as rfl rfl rfl rfl⟩

theorem recv_facts {W w1 : World} {I : Nat → Option Obj} {F : List (Nat × Obj)} {ρ : Qing} {g : Nat} (h : St W w1 I (ρ.L 93 37 ++ ((g, .cells #[.int .i64 0, .slice none 0 0] 37 (0, 0)) :: F))) :
    w1.cell? ⟨g, 0, none⟩ = some (.int .i64 0) ∧ w1.cell? ⟨g, 1, none⟩ = some (.slice none 0 0) ∧ w1.frozen? ⟨g, 0, none⟩ = false ∧ w1.frozen? ⟨g, 1, none⟩ = false ∧ g < w1.heap.size := by
  have hm : (g, Obj.cells #[.int .i64 0, .slice none 0 0] 37 (0, 0)) ∈ (ρ.L 93 37 ++ ((g, .cells #[.int .i64 0, .slice none 0 0] 37 (0, 0)) :: F)) := List.mem_append.2 (.inr (List.mem_cons_self ..))
  exact ⟨h.cell hm 0, h.cell hm 1, h.frozen hm 0, h.frozen hm 1, h.lt hm⟩

set_option maxHeartbeats 2000000 in
theorem recv_pc (ρ : Qing) (ok : ρ.Ok) {W w : World} {I : Nat → Option Obj} {F : List (Nat × Obj)} (h : St W w I (ρ.L 93 37 ++ F)) :
    Calls Tryd.prog 17 #[.pointer (some ⟨ρ.r, 0, none⟩)] w (PeekPost W I (ρ.recv.L 93 37 ++ F) ρ.front ρ.any) := by
  have hst0 := h.alloc (.cells #[.int .i64 0, .slice none 0 0] 37)
  have Hst := Lib.hid hst0; clear hst0
  have hp : ∀ w', St W w' I ((w.heap.size, .cells #[.int .i64 0, .slice none 0 0] 37 (0, 0)) :: (ρ.L 93 37 ++ F)) → Calls Tryd.prog 46 #[.pointer (some ⟨ρ.r, 0, none⟩)] w' (PeekPost W I (ρ.L 93 37 ++ ((w.heap.size, .cells #[.int .i64 0, .slice none 0 0] 37 (0, 0)) :: F)) ρ.front ρ.any) :=
    fun w' hw => peek_pc ρ ok (St.swap (A := [_]) hw)
  have Hp := Lib.hid hp; clear hp
  cases hx : ρ.xs with
  | nil =>
    have e1 : ρ.front = ⟨0, none, 0, 0⟩ := by rw [Qing.front, hx]; rfl
    have e2 : ρ.any = false := by rw [Qing.any, hx]; rfl
    have e3 : ρ.recv = ρ := by rw [Qing.recv, if_pos hx]
    rw [e1, e2] at Hp
    rw [e1, e2, e3]
    have E1 := Lib.hid e1; have E2 := Lib.hid e2; have HX := Lib.hid hx; clear e1 e2 e3 hx
    go_enter Tryd.func17, Tryd.ntmps17
    go_wp2_with ((go_at_call 46; refine (Hp.out _ Hst.out).mono ?_; rintro e w1 ⟨rfl, hs1⟩; have ⟨y0, y1, y2, y3, y4⟩ := recv_facts hs1; have HS1 := Lib.hid hs1; clear hs1; dsimp only [Pc.v]))
    have S0 : St W w1 I ([] ++ (w.heap.size, .cells #[.int .i64 0, .slice none 0 0] 37 (0, 0)) :: (ρ.L 93 37 ++ F)) := St.swap (A := ρ.L 93 37) (B := [_]) HS1.out
    have S1 := St.set (A := []) S0 0 (.int .i64 0)
    have S2 := St.set (A := []) S1 1 (.slice none 0 0)
    have S3 := St.alloc S2 (.cells #[.int .i64 0, .slice none 0 0] 37)
    have HS3 := Lib.hid S3; clear S1 S2 S3
    refine bodyPost_ret (results_pc rfl _ _ w.heap.size 37 #[.int .i64 0, .slice none 0 0] (0, 0) _ (.bool false) rfl rfl (HS3.out.own (w.heap.size, .cells _ 37 (0, 0)) (List.mem_cons_of_mem _ (List.mem_cons_self ..))) Tryd.underlying37 (by kernel_rfl) (by kernel_rfl)) rfl ?_
    exact ⟨rfl, HS3.out.weaken (A := [_, _])⟩
  | cons x l =>
    have e1 : ρ.front = x := by rw [Qing.front, hx]; rfl
    have e2 : ρ.any = true := by rw [Qing.any, hx]; rfl
    have hl : 0 < ρ.xs.length := by rw [hx]; simp
    have b1 := ok.n16
    have b2 := ok.many
    have b3 := ok.f
    have b4 : 0 < ρ.n := ok.n1
    have b5 : ρ.n ≤ 16 := ok.n16
    have b6 : ρ.first < 16 := by omega
    have hsz := ok.size
    have bi : (ρ.first : Int) < (ρ.n : Int) := by omega
    have et : ((ρ.xs.tail.length : Nat) : Int) = (ρ.xs.length : Int) - 1 := by rw [List.length_tail]; omega
    have e3 : ρ.recv = { ρ with arr := set2 ρ.arr ρ.first Pc.zero, first := (ρ.first + 1) % ρ.n, xs := ρ.xs.tail } := by rw [Qing.recv, if_neg (by rw [hx]; simp)]
    rw [e1, e2] at Hp
    rw [e1, e2, e3]
    obtain ⟨idx, hidx⟩ : ∃ i, (ρ.first + 1) % ρ.n = i := ⟨_, rfl⟩
    have hf : ∀ w' F, St W w' I (ρ.L 93 37 ++ F) → ∃ u v, w'.cell? ⟨ρ.ab, ρ.first * 2, none⟩ = some u ∧ w'.cell? ⟨ρ.ab, ρ.first * 2 + 1, none⟩ = some v := by
      intro w' F hw
      have ha := Qing.ca (T := 93) (E := 37) (F := F) hw
      exact ⟨_, _, (ha _).trans (Array.getElem?_eq_getElem (by omega)), (ha _).trans (Array.getElem?_eq_getElem (by omega))⟩
    have hfin : ∀ w' G, St W w' I (ρ.L 93 37 ++ G) →
        St W ((((w'.setCell ⟨ρ.ab, ρ.first * 2, none⟩ (.int .i64 0)).setCell ⟨ρ.ab, ρ.first * 2 + 1, none⟩ (.slice none 0 0)).setCell ⟨ρ.r, 1, none⟩ (.int .i64 idx)).setCell ⟨ρ.r, 2, none⟩ (.int .i64 ((ρ.xs.length : Int) - 1))) I
          (Qing.L 93 37 { ρ with arr := set2 ρ.arr ρ.first Pc.zero, first := (ρ.first + 1) % ρ.n, xs := ρ.xs.tail } ++ G) := by
      intro w' G hw
      have s1 := St.set (A := [(ρ.r, _)]) (B := G) hw (ρ.first * 2) (.int .i64 0)
      have s2 := St.set (A := [(ρ.r, _)]) (B := G) s1 (ρ.first * 2 + 1) (.slice none 0 0)
      have s3 := St.set (A := []) s2 1 (.int .i64 idx)
      have s4 := St.set (A := []) s3 2 (.int .i64 ((ρ.xs.length : Int) - 1))
      rw [Qing.L]
      simp only [et, hidx]
      exact s4
    have Hfin := Lib.hid hfin; have Hf := Lib.hid hf; have HX := Lib.hid hx; have E1 := Lib.hid e1; have E2 := Lib.hid e2; have E3 := Lib.hid e3; have ET := Lib.hid et; have Hidx := Lib.hid hidx
    clear hfin hf hx e1 e2 e3 et hidx hsz
    go_enter Tryd.func17, Tryd.ntmps17
    go_wp2_with ((go_at_call 46; refine (Hp.out _ Hst.out).mono ?_; rintro e w1 ⟨rfl, hs1⟩; have ⟨y0, y1, y2, y3, y4⟩ := recv_facts hs1; have HS1 := Lib.hid hs1; clear hs1; dsimp only [Pc.v]))
    have hs2 := (HS1.out.alloc (.cells #[.int .i64 x.at_, .slice x.A x.m x.c] 37)).alloc (.cells #[.int .i64 0, .slice none 0 0] 37)
    rw [show (w1.alloc (.cells #[.int .i64 x.at_, .slice x.A x.m x.c] 37)).heap.size = w1.heap.size + 1 by simp] at hs2
    have HS2 := Lib.hid hs2; clear hs2 HS1 Hst Hp y0 y1 y2 y3 y4
    generalize (w1.alloc (.cells #[.int .i64 x.at_, .slice x.A x.m x.c] 37)).alloc (.cells #[.int .i64 0, .slice none 0 0] 37) = w2 at *
    generalize w1.heap.size + 1 = g6 at *
    generalize w1.heap.size = g4 at *
    generalize w.heap.size = g at *
    have hr := St.weaken (A := [_, _]) HS2.out
    have r0 := Qing.c0 hr
    have r1 := Qing.c1 hr
    have r2 := Qing.c2 hr
    have fr1 := Qing.fr hr 1
    have fr2 := Qing.fr hr 2
    have fa0 := Qing.fa hr (ρ.first * 2)
    have fa1 := Qing.fa hr (ρ.first * 2 + 1)
    obtain ⟨u, v, c0, c1⟩ := Hf.out _ _ hr
    have nd := HS2.out.nodup
    simp only [Qing.L, List.map_append, List.map_cons, List.map_nil, List.cons_append, List.nil_append, List.nodup_cons, List.mem_cons, not_or] at nd
    obtain ⟨⟨n64, n6r, n6a, n6g, -⟩, ⟨n4r, n4a, n4g, -⟩, ⟨nra, nrg, -⟩, ⟨nag, -⟩, -⟩ := nd
    have m6 : (g6, Obj.cells #[.int .i64 0, .slice none 0 0] 37 (0, 0)) ∈ (g6, Obj.cells #[.int .i64 0, .slice none 0 0] 37 (0, 0)) :: (g4, Obj.cells #[.int .i64 x.at_, .slice x.A x.m x.c] 37 (0, 0)) :: (ρ.L 93 37 ++ ((g, .cells #[.int .i64 0, .slice none 0 0] 37 (0, 0)) :: F)) := by simp
    have m4 : (g4, Obj.cells #[.int .i64 x.at_, .slice x.A x.m x.c] 37 (0, 0)) ∈ (g6, Obj.cells #[.int .i64 0, .slice none 0 0] 37 (0, 0)) :: (g4, Obj.cells #[.int .i64 x.at_, .slice x.A x.m x.c] 37 (0, 0)) :: (ρ.L 93 37 ++ ((g, .cells #[.int .i64 0, .slice none 0 0] 37 (0, 0)) :: F)) := by simp
    have mg : (g, Obj.cells #[.int .i64 0, .slice none 0 0] 37 (0, 0)) ∈ (g6, Obj.cells #[.int .i64 0, .slice none 0 0] 37 (0, 0)) :: (g4, Obj.cells #[.int .i64 x.at_, .slice x.A x.m x.c] 37 (0, 0)) :: (ρ.L 93 37 ++ ((g, .cells #[.int .i64 0, .slice none 0 0] 37 (0, 0)) :: F)) := by simp
    have z60 : w2.cell? ⟨g6, 0, none⟩ = some (.int .i64 0) := HS2.out.cell m6 0
    have z61 : w2.cell? ⟨g6, 1, none⟩ = some (.slice none 0 0) := HS2.out.cell m6 1
    have z40 : w2.cell? ⟨g4, 0, none⟩ = some (.int .i64 x.at_) := HS2.out.cell m4 0
    have z41 : w2.cell? ⟨g4, 1, none⟩ = some (.slice x.A x.m x.c) := HS2.out.cell m4 1
    have zg0 : w2.cell? ⟨g, 0, none⟩ = some (.int .i64 0) := HS2.out.cell mg 0
    have zg1 : w2.cell? ⟨g, 1, none⟩ = some (.slice none 0 0) := HS2.out.cell mg 1
    have fg0 := HS2.out.frozen mg 0
    have fg1 := HS2.out.frozen mg 1
    clear hr m6 m4 mg
    have HFin := Lib.hid (Hfin.out w2 _ (St.weaken (A := [_, _]) HS2.out)); clear Hfin HS2 Hf
    go_region_held3 (fun w' => w'.cell? ⟨ρ.r, 0, none⟩ = some (.slice (some ⟨ρ.ab, 0, none⟩) ρ.n ρ.n) ∧ w'.cell? ⟨ρ.r, 1, none⟩ = some (.int .i64 ρ.first) ∧ w'.cell? ⟨g6, 0, none⟩ = some (.int .i64 0) ∧ w'.cell? ⟨g6, 1, none⟩ = some (.slice none 0 0)) (simp [*, World.cell?_setCell_far, n64, n6r, n6a, n6g, n4r, n4a, n4g, nra, nrg, nag, Ne.symm n64, Ne.symm n6r, Ne.symm n6a, Ne.symm n6g, Ne.symm n4r, Ne.symm n4a, Ne.symm n4g, Ne.symm nra, Ne.symm nrg, Ne.symm nag]) (fail)
    go_wp2_with ((go_at_call 47; refine (place_pc _ ρ.r ρ.ab ρ.n ρ.first 1 idx b4 b5 b6 (by omega) Hidx (by simp [*, World.cell?_setCell_far, Ne.symm nra]) (by simp [*, World.cell?_setCell_far, Ne.symm nra])).mono ?_; rintro e w' ⟨rfl, m, rfl⟩))
    have T0 := (HFin.out.as (w' := ((((w2.setCell ⟨ρ.ab, ρ.first * 2, none⟩ (.int .i64 0)).setCell ⟨ρ.ab, ρ.first * 2 + 1, none⟩ (.slice none 0 0)).drewN (1 + m)).setCell ⟨ρ.r, 1, none⟩ (.int .i64 idx)).setCell ⟨ρ.r, 2, none⟩ (.int .i64 ((ρ.xs.length : Int) - 1))) rfl rfl rfl rfl).swap (B := [(g, _)])
    have T1 := St.set (A := []) T0 0 (.int .i64 x.at_)
    have T2 := St.set (A := []) T1 1 (.slice x.A x.m x.c)
    have HT := Lib.hid T2; clear T0 T1 T2
    refine bodyPost_ret (results_pc rfl _ _ g 37 #[.int .i64 x.at_, .slice x.A x.m x.c] (0, 0) _ (.bool true) rfl rfl (HT.out.own (g, .cells _ 37 (0, 0)) (List.mem_cons_self ..)) Tryd.underlying37 (by kernel_rfl) (by kernel_rfl)) rfl ?_
    exact ⟨rfl, HT.out.weaken (A := [_])⟩

set_option maxHeartbeats 400000 in
theorem new_pc (room : Int) {W w : World} {I : Nat → Option Obj} {F : List (Nat × Obj)} (h : St W w I F) :
    Calls Tryd.prog 8 #[.int .i64 room] w fun e w' => e = .returned (.pointer (some ⟨w.heap.size + 1, 0, none⟩)) ∧ St W w' I ((Qing.fresh (w.heap.size + 1) w.heap.size (roomOf room)).L 93 37 ++ F) := by
  have hn : roomOf room ≤ 16 := by unfold roomOf; omega
  have he : (max 1 (min room 16) : Int) = (roomOf room : Int) := by unfold roomOf; omega
  have hmk : ∀ v : World, (Instr.makeSlice 85 (.int .i64 (roomOf room : Int)) (.int .i64 (roomOf room : Int))).run Tryd.prog v = .ok (.slice (some ⟨v.heap.size, 0, none⟩) (roomOf room) (roomOf room)) (v.alloc (.cells (zeros2 (roomOf room)) 37)) := by
    intro v
    obtain ⟨i, hi0, hz, h1, h2⟩ := info_parts (P := Tryd.prog) (e := 37) (z := .agg #[.int .i64 0, .slice none 0 0]) (size := 2) (bytes := 32) (by kernel_rfl)
    have hb' : (i.bytes : Int) * (roomOf room : Int) ≤ 281474976710656 := by rw [h2]; omega
    have hr := run_make (P := Tryd.prog) v 85 37 i _ Tryd.underlying85 hi0 hz .i64 .i64 (roomOf room : Int) (roomOf room : Int) (by omega) (by omega) hb' (by omega)
    rw [h1, Int.toNat_natCast] at hr
    exact hr
  have hst : St W ((w.alloc (.cells (zeros2 (roomOf room)) 37)).alloc (.cells #[.slice (some ⟨w.heap.size, 0, none⟩) (roomOf room) (roomOf room), .int .i64 0, .int .i64 0, .bool false] 93)) I ((Qing.fresh (w.heap.size + 1) w.heap.size (roomOf room)).L 93 37 ++ F) := by
    have := (h.alloc (.cells (zeros2 (roomOf room)) 37)).alloc (.cells #[.slice (some ⟨w.heap.size, 0, none⟩) (roomOf room) (roomOf room), .int .i64 0, .int .i64 0, .bool false] 93)
    simpa [Qing.L, Qing.fresh] using this
  have Hst := Lib.hid hst; clear hst
  generalize roomOf room = n at *
  go_enter Tryd.func8, Tryd.ntmps8
  go_wp2_with fail
  go_ret
  exact ⟨rfl, Hst.out⟩

theorem new_pc' (room : Int) {W w : World} {I : Nat → Option Obj} {F : List (Nat × Obj)} (h : St W w I F) :
    Calls Tryd.prog 8 #[.int .i64 room] w fun e w' => ∃ ρ : Qing, ρ.New (roomOf room) ∧ e = .returned (.pointer (some ⟨ρ.r, 0, none⟩)) ∧ St W w' I (ρ.L 93 37 ++ F) :=
  (new_pc room h).mono fun _ _ ⟨he, hs⟩ => ⟨_, Qing.fresh_new _ _ room, he, hs⟩
end
end Go.Proofs.YtnhlpiomfljlcaaDoor
