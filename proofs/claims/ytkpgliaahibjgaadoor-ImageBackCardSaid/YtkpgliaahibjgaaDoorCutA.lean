/- A region that draws its order, in a round. -/
import Derived.Test.YtkpgliaahibjgaaDoorMarg
namespace Go.Proofs.YtkpgliaahibjgaaDoor
set_option linter.unusedVariables false
set_option linter.unusedSimpArgs false
open Go.RowKit Go.Lib Go.Shelf

section
variable {P : Program} {K : Act → World → Prop} {Q : Exit → Act → World → Prop} {a : Act} {w : World} {l n : Nat}
/-- An operation that is no defer and calls no row goes in a round as anywhere. -/
theorem wpIn_of_wp {o : Oper} (hnd : ∀ c, o.op ≠ .defer c) (h : o.wp P a w K Q) : o.wpIn (Fence.wide.inRound l) n P a w K Q := by
  unfold Oper.wpIn
  refine ⟨fun f _ => trivial, ?_⟩
  rw [Oper.semAt_plain _ _ _ hnd]
  unfold Oper.wp at h
  have hd : ¬ (Fence.wide.inRound l).depth.isSome = true := by simp [Fence.wide]
  generalize (execOp a.eval o).run P w = r at *
  cases r with
  | ok v w' =>
    cases v
    case enter f args => exact ⟨fun h => absurd h hd, CallsIn.inRound l (callsIn_wide.2 h)⟩
    case row row args =>
      refine ⟨fun h => absurd h hd, fun c cs _ => ?_⟩
      obtain ⟨v, w'', r, s⟩ := h c cs
      exact ⟨v, w'', r, stepsIn_wide.2 s⟩
    all_goals first | exact h | exact (h : False).elim
  | halt x w' => cases x <;> first | exact h | exact (h : False).elim
theorem wpOpIn_of_wpOp {ops : Array Oper} (hL : ¬ LetsOut Q) (hnd : ∀ (j : Nat) (o : Oper) c, ops[j]? = some o → o.op ≠ .defer c) {i : Nat} {K' : Act → World → Prop} (hK : ∀ a w, K a w → K' a w) (h : wpOp P ops Q i K a w) : wpOpIn (Fence.wide.inRound l) n P ops Q i K' a w := by
  unfold wpOp at h
  unfold wpOpIn
  cases ho : ops[i]? with
  | none =>
    simp only [ho] at h ⊢
    exact hK _ _ h
  | some o =>
    simp only [ho] at h ⊢
    by_cases hw : Region.wanted o (yielded ops a.tmps) = true
    · rw [if_pos hw] at h ⊢
      rcases h with h | h
      · exact Oper.wpIn_mono hK (wpIn_of_wp (fun c => hnd i o c ho) h)
      · exact absurd h.2 hL
    · rw [if_neg hw] at h ⊢
      exact ⟨fun f _ => trivial, hK _ _ h⟩
theorem wpAnyIn_of_wpAny {ops : Array Oper} {md : Region.Mode} (hL : ¬ LetsOut Q) (hnd : ∀ (j : Nat) (o : Oper) c, ops[j]? = some o → o.op ≠ .defer c) : ∀ (fuel : Nat) (listed : Array Bool) (a : Act) (w : World), wpAny P md ops Q fuel listed a w → wpAnyIn (Fence.wide.inRound l) n P md ops Q fuel listed a w
  | 0, listed, a, w, h => h
  | fuel + 1, listed, a, w, h => ⟨h.1, fun i hi => wpOpIn_of_wpOp hL hnd (fun a w h => wpAnyIn_of_wpAny hL hnd fuel _ a w h) (h.2 i hi)⟩
/-- Its way out is the plain one. -/
def OutPlain (Q : Exit → Act → World → Prop) : Exit → Act → World → Prop := fun e a w => e = .normal ∧ Q .normal a w
def noDefer (l : List Oper) : Bool := l.all fun o => match o.op with | .defer _ => false | _ => true
theorem noDefer_spec {ops : List Oper} (h : noDefer ops = true) (j : Nat) (o : Oper) (c) (hj : ops.toArray[j]? = some o) : o.op ≠ .defer c := by
  intro hc
  have h1 := List.all_eq_true.1 h o (List.mem_of_getElem? (by simpa using hj))
  rw [hc] at h1
  cases h1
theorem wpIn_region_held {id : Nat} {S : World → Prop} {ops : List Oper} (hm : P.follows .mixedOrders = true) (hd : noDefer ops = true) (hS : S w.drew)
    (h : S w.drew → wpAnyH P .any ops.toArray (OutPlain Q) S ops.toArray.size (Array.replicate ops.toArray.size false) a w.drew) : (Code.region id ops.toArray true).wpIn (Fence.wide.inRound l) n P Q a w := by
  have hL : ¬ LetsOut (OutPlain Q) := by
    rintro ⟨_, _, h, _⟩
    cases h
  refine wpIn_mono (Q := OutPlain Q) (wpIn_region_any hm (wpAnyIn_of_wpAny hL (noDefer_spec hd) _ _ _ _ (wpAny_of_held _ _ _ _ (h hS)))) ?_
  rintro e a w ⟨rfl, h⟩
  exact h
end

/-! ### The chunks' places -/
attribute [local go_sem] Oper.semAt_some
/-- What a round keeps. -/
def Ksp (n0 b : Nat) (A B : World) : Prop := Below n0 A B ∧ B.heap[b]? = A.heap[b]?
theorem Ksp_t {n0 b : Nat} {A B C : World} (h : Ksp n0 b A B) (k : Ksp n0 b B C) : Ksp n0 b A C := ⟨h.1.trans k.1, k.2.trans h.2⟩
theorem Ksp_b {n0 b N : Nat} (h0 : n0 ≤ N) (h1 : b < N) (W : World) (l : Nat) (o o' : Obj) (hl : N ≤ l) (h : W.heap[l]? = some o) (_h : o.isCells = false) (_h2 : o.isWalk = false) : Ksp n0 b W (W.putObj l o') :=
  ⟨belowK_b (w := { W with heap := Array.replicate N (.cells #[] 0) }) (by simp; omega) W l o o' (by simpa using hl) h _h _h2, World.putObj_heap_other (by omega)⟩
def sEnd (m : Man) (i : Nat) : Int := (spanM m i).1 + (spanM m i).2
def SpansDone (J Jx : List Nat → World → Prop) (N : Nat) (e : Ending) (W' : World) : Prop := (∃ v, e = .returned v) ∧ ((∃ ys, ys = List.range N ∧ J ys W') ∨ (∃ pre, (∃ k, k ≤ N ∧ pre = List.range k) ∧ Jx pre W'))
def SpPost (J Jx : List Nat → World → Prop) (n0 b : Nat) (pre : List Nat) (x : Nat) (W : World) : Bool → World → Prop
  | true, W' => J (pre ++ [x]) W' ∧ Ksp n0 b W W'
  | false, W' => Jx (pre ++ [x]) W'
theorem spanM_range (m : Man) (hn : m.n ≤ 1000000) (i : Nat) : 0 ≤ (spanM m i).1 ∧ (spanM m i).1 ≤ 70000 ∧ 0 ≤ (spanM m i).2 ∧ (spanM m i).2 ≤ 2000 := by
  unfold spanM
  by_cases h : rightM m = true ∧ 0 ≤ (i : Int) ∧ (i : Int) < m.n
  · rw [if_pos h]
    obtain ⟨_, _, _, h1, h2, h3, h4, _, h5, h6⟩ := (rightM_iff m).1 h.1
    obtain ⟨t1, t2, t3⟩ := cntM_span m.size m.chunk h1 (by omega)
    rw [← h5] at t1 t2 t3
    have p1 : (i : Int) * m.chunk ≤ ((m.n : Int) - 1) * m.chunk := Int.mul_le_mul_of_nonneg_right (by omega) (by omega)
    have p0 : 0 ≤ (i : Int) * m.chunk := Int.mul_nonneg (by omega) (by omega)
    generalize (i : Int) * m.chunk = P at *
    simp only
    omega
  · rw [if_neg h]
    simp
theorem below_grown {A B : World} (h : Below A.heap.size A B) : A.grownBy B none := ⟨h.os, h.tape, h.output, h.size, fun k hk _ => h.block k hk⟩

set_option maxRecDepth 100000 in
set_option maxHeartbeats 2000000 in
theorem spans1_in (n : Nat) (hn : 1 ≤ n) (l b : Nat) (m : Man) (ok : m.Ok) (hmn : m.n ≤ 1000000) (hps : m.prod.size ≤ 140737488355328) (W0 : World) (tabs : Tabs W0) (J Jx : List Nat → World → Prop) (hJg : ∀ pre A B, J pre A → A.grownBy B none → J pre B)
    (hY : ∀ (pre : List Nat) (x : Nat) (W : World), J pre W → pre.length < m.n → YieldAt Fence.wide (n - 1) Tryd.prog l #[.int .i64 (spanM m x).1, .int .i64 (sEnd m x)] W fun e W' =>
      (e = .returned (.bool true) ∧ J (pre ++ [x]) W' ∧ Ksp W0.heap.size b W W') ∨ (e = .returned (.bool false) ∧ Jx (pre ++ [x]) W'))
    (W : World) (hb0 : Below W0.heap.size W0 W) (hR : W.heap[b]? = some (.cells m.cells 34 (0, 0))) (h0 : J [] W) :
    CallsIn Fence.wide n Tryd.prog 53 #[.func (.yield l) #[] #[], .pointer (some ⟨b, 0, none⟩)] W (SpansDone J Jx m.n) := by
  have hmi : (Tryd.prog.info? 34).map (·.size) = some m.cells.size := by rw [Man.cells_size ok]; kernel_rfl
  have cells : ∀ wr : World, wr.heap[b]? = some (.cells m.cells 34 (0, 0)) → wr.cell? ⟨b, 36, none⟩ = some (.slice m.A m.n m.c) := fun wr h => (cell_of_row wr _ 36 _ _ _ h).trans (Man.g36 ok)
  have c36 := cells W hR
  have stb : ∀ wr : World, wr.heap[b]? = some (.cells m.cells 34 (0, 0)) → Below W0.heap.size W0 wr → Calls Tryd.prog 34 #[.agg m.cells, .int .i64 0] wr fun _ _ => True := fun wr h hb => by
    have := span_own (TB.start (tabs.below hb)) m ok hps 0 (St.start wr)
    exact this.mono fun _ _ _ => trivial
  clear stb
  have spn : ∀ (wr : World) (i : Nat), wr.heap[b]? = some (.cells m.cells 34 (0, 0)) → Below W0.heap.size W0 wr → Calls Tryd.prog 34 #[.agg m.cells, .int .i64 i] wr fun e w' => e = .returned (.tuple #[.int .i64 (spanM m i).1, .int .i64 (spanM m i).2]) ∧ Below wr.heap.size wr w' ∧ w'.heap[b]? = some (.cells m.cells 34 (0, 0)) ∧ Below W0.heap.size W0 w' := fun wr i h hb => by
    have h1 := span_own (TB.start (tabs.below hb)) m ok hps i (St.start wr)
    refine h1.mono fun e w' ⟨he, hst⟩ => ?_
    have hbel := hst.below (Le.refl _)
    refine ⟨he, hbel, (hbel.block b (Array.getElem?_eq_some_iff.1 h).1).trans h, hb.trans (hbel.mono hb.size)⟩
  have SPN := Lib.hid spn; have CELLS := Lib.hid cells; have HMI := Lib.hid hmi
  clear spn cells hmi
  refine callsIn_of_wp Tryd.func53 rfl trivial ?_ rfl
  simp only [Tryd.ntmps53, List.size_toArray, List.length_cons, List.length_nil, Nat.reduceAdd, Nat.reduceSub, Array.replicate_succ, Array.replicate_zero, List.push_toArray, List.append_toArray, List.nil_append, List.cons_append]
  gi_wp2
  clear c36
  gi_loopw [9] (fun i wr => ∃ k : Nat, k ≤ m.n ∧ i = .int .i64 k ∧ J (List.range k) wr ∧ wr.heap[b]? = some (.cells m.cells 34 (0, 0)) ∧ Below W0.heap.size W0 wr) (fun i _ => m.n - (intOf i).toNat)
  case atStart => exact ⟨0, Nat.zero_le _, rfl, h0, hR, hb0⟩
  case round =>
    obtain ⟨k, hk, rfl, hJs, hr, hb⟩ := hrel
    clear h0 hR hb0
    by_cases hkl : k < m.n
    · have c36 := CELLS.out wr hr
      have hst : St wr wr (fun x => if x = b then none else wr.heap[x]?) [(b, .cells m.cells 34 (0, 0))] := ⟨rfl, rfl, rfl, by simpa using hr, by simp, fun x o hx => by
        by_cases h : x = b
        · rw [if_pos h] at hx; cases hx
        · rw [if_neg h] at hx; exact hx, by simp⟩
      obtain ⟨r1, r2, r3, r4⟩ := spanM_range m hmn k
      obtain ⟨P, hP⟩ : ∃ P, (spanM m k).1 = P := ⟨_, rfl⟩
      obtain ⟨Q, hQ⟩ : ∃ Q, (spanM m k).2 = Q := ⟨_, rfl⟩
      have ksp := SPN.out wr k hr hb
      rw [hP, hQ] at ksp
      rw [hP] at r1 r2
      rw [hQ] at r3 r4
      have hyd : ∀ w', Below wr.heap.size wr w' → ∃ fn tmps assign body, (Instr.yield l #[.int .i64 P, .int .i64 (P + Q)]).run Tryd.prog w' = .ok (.round l fn tmps assign body) w' ∧ RoundIn Fence.wide (n - 1) Tryd.prog l fn tmps assign body w' fun e W' => ∃ b', e = .returned (.bool b') ∧ SpPost J Jx W0.heap.size b (List.range k) k w' b' W' := fun w' hbel => by
        have h9 := hY (List.range k) k w' (hJg _ _ _ hJs (below_grown hbel)) (by rw [List.length_range]; exact hkl)
        unfold sEnd at h9
        rw [hP, hQ] at h9
        refine YieldAt.mono h9 ?_
        rintro e W' (⟨rfl, h1, h2⟩ | ⟨rfl, h1⟩)
        · exact ⟨true, rfl, h1, h2⟩
        · exact ⟨false, rfl, h1⟩
      have hki : (k : Int) < (m.n : Int) := by omega
      have HYD := Lib.hid hyd; have KSP := Lib.hid ksp; have HST := Lib.hid hst
      clear hyd ksp hst hP hQ hJs
      gi_wp2_with (first
        | (with_reducible refine wpListIn_load_st rfl 34 (.tmp 1) rfl (g := b) (off := 0) rfl HST.out (List.mem_cons_self ..) m.cells (fun j hj => by rw [Nat.zero_add]) _ Tryd.underlying34 rfl HMI.out ?_)
        | (refine ⟨trivial, ?_⟩; gi_at_call 34; refine (callsIn_wide.2 KSP.out).mono ?_; rintro e w2 ⟨rfl, hbel, hr2, hb2⟩; obtain ⟨fn, tmps, assign, body, hy, hR2⟩ := HYD.out w2 hbel))
      refine hR2.mono ?_
      rintro e W3 ⟨b', rfl, hb'⟩
      cases b' with
      | true =>
        obtain ⟨hJ3, hk3⟩ := hb'
        clear hy hR2 c36
        gi_wp2
        go_roundw
        case rel => exact ⟨k + 1, by omega, by go_num, by rw [List.range_succ]; exact hJ3, hk3.2.trans hr2, hb2.trans hk3.1⟩
        case measure => simp [intOf]; omega
      | false =>
        have hJx3 : Jx _ _ := hb'
        clear hy hR2 c36
        gi_wp2
        refine bodyPost_ret (results_none rfl _ _ _) rfl ?_
        exact ⟨⟨_, rfl⟩, .inr ⟨_, ⟨k + 1, by omega, by rw [List.range_succ]⟩, hJx3⟩⟩
    · obtain rfl : k = m.n := by omega
      have HJS := Lib.hid hJs
      clear hJs
      gi_wp2
      go_end0
      exact ⟨⟨_, rfl⟩, .inl ⟨_, rfl, HJS.out⟩⟩
end Go.Proofs.YtkpgliaahibjgaaDoor
