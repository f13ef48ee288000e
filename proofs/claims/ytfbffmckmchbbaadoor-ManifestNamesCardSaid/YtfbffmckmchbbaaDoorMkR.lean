/- manifest: how one is built, piece by piece. A region that draws its order, in a round. image: Want, Done, Len, Whole: walks. -/
import Derived.Test.YtfbffmckmchbbaaDoorRmake
import Derived.Test.YtfbffmckmchbbaaDoorRngM
namespace Go.Proofs.YtfbffmckmchbbaaDoor
section
set_option linter.unusedVariables false
set_option linter.unusedSimpArgs false
open Go.RowKit Go.Lib

def z32 : List UInt8 := List.replicate 32 0
set_option maxRecDepth 100000 in
theorem run_build_man4 (prod : ByteArray) (ver size chunk : Int) (w : World) :
    (Instr.build 29 #[(0, .string prod), (1, .int .u64 ver), (2, .int .i64 size), (3, .int .i64 chunk)]).run Tryd.prog w = .ok (.agg (Man.cells ⟨prod, ver, size, chunk, z32, none, 0, 0⟩)) w :=
  run_build w _ _ _ (by kernel_rfl)
theorem man_setdig (m : Man) (ok : m.Ok) (d : List UInt8) (hd : d.length = 32) : setMany m.cells 4 (bcells d).toList = Man.cells { m with dig := d } := by
  apply Array.ext_getElem?
  intro j
  have h1 := ok.dig
  have hs := Man.cells_size ok
  have hb : (bcells d).toList.length = 32 := by rw [Array.length_toList, bcells_size, hd]
  rw [setMany_get _ _ _ _ (by rw [hb, hs]; decide), hb]
  unfold Man.cells bcells
  simp only [List.getElem?_toArray]
  by_cases h4 : j < 4
  · rw [if_neg (by omega), List.getElem?_append_left (by simp; omega), List.getElem?_append_left (by simp; omega), List.getElem?_append_left (by simp; omega), List.getElem?_append_left (by simp; omega)]
  · by_cases h36 : j < 36
    · rw [if_pos (by omega), List.getElem?_append_left (by simp; omega), List.getElem?_append_right (by simp; omega)]
      simp
    · rw [if_neg (by omega), List.getElem?_append_right (by simp; omega), List.getElem?_append_right (by simp; omega)]
      simp [h1, hd]
end

section
set_option linter.unusedVariables false
set_option linter.unusedSimpArgs false
open Go.RowKit Go.Lib Go.Shelf

section
variable {P : Program} {K : Act → World → Prop} {Q : Exit → Act → World → Prop} {a : Act} {w : World} {l n : Nat}
/-- An operation that is no defer and calls no row goes in a round as anywhere. -/
theorem wpIn_of_wp {o : Oper} (hnd : ∀ c, o.op ≠ .defer c) (h : o.wp P a w K Q) : o.wpIn (Fence.wide.inRound l) n P a w K Q := by
  unfold Oper.wpIn
  refine ⟨fun f _ => trivial, ?_⟩
  rw [Oper.semAt_plain _ _ _ hnd]
  unfold Oper.wp at h
  have hd : ¬ (Fence.wide.inRound l).depth.isSome = true := by simp [Fence.wide]
  generalize (execOp a.eval o).run P w = r at *
  cases r with
  | ok v w' =>
    cases v
    case enter f args => exact ⟨fun h => absurd h hd, CallsIn.inRound l (callsIn_wide.2 h)⟩
    case row row args =>
      refine ⟨fun h => absurd h hd, fun c cs _ => ?_⟩
      obtain ⟨v, w'', r, s⟩ := h c cs
      exact ⟨v, w'', r, stepsIn_wide.2 s⟩
    all_goals first | exact h | exact (h : False).elim
  | halt x w' => cases x <;> first | exact h | exact (h : False).elim
theorem wpOpIn_of_wpOp {ops : Array Oper} (hL : ¬ LetsOut Q) (hnd : ∀ (j : Nat) (o : Oper) c, ops[j]? = some o → o.op ≠ .defer c) {i : Nat} {K' : Act → World → Prop} (hK : ∀ a w, K a w → K' a w) (h : wpOp P ops Q i K a w) : wpOpIn (Fence.wide.inRound l) n P ops Q i K' a w := by
  unfold wpOp at h
  unfold wpOpIn
  cases ho : ops[i]? with
  | none =>
    simp only [ho] at h ⊢
    exact hK _ _ h
  | some o =>
    simp only [ho] at h ⊢
    by_cases hw : Region.wanted o (yielded ops a.tmps) = true
    · rw [if_pos hw] at h ⊢
      rcases h with h | h
      · exact Oper.wpIn_mono hK (wpIn_of_wp (fun c => hnd i o c ho) h)
      · exact absurd h.2 hL
    · rw [if_neg hw] at h ⊢
      exact ⟨fun f _ => trivial, hK _ _ h⟩
theorem wpAnyIn_of_wpAny {ops : Array Oper} {md : Region.Mode} (hL : ¬ LetsOut Q) (hnd : ∀ (j : Nat) (o : Oper) c, ops[j]? = some o → o.op ≠ .defer c) : ∀ (fuel : Nat) (listed : Array Bool) (a : Act) (w : World), wpAny P md ops Q fuel listed a w → wpAnyIn (Fence.wide.inRound l) n P md ops Q fuel listed a w
  | 0, listed, a, w, h => h
  | fuel + 1, listed, a, w, h => ⟨h.1, fun i hi => wpOpIn_of_wpOp hL hnd (fun a w h => wpAnyIn_of_wpAny hL hnd fuel _ a w h) (h.2 i hi)⟩
/-- Its way out is the plain one. -/
def OutPlain (Q : Exit → Act → World → Prop) : Exit → Act → World → Prop := fun e a w => e = .normal ∧ Q .normal a w
def noDefer (l : List Oper) : Bool := l.all fun o => match o.op with | .defer _ => false | _ => true
theorem noDefer_spec {ops : List Oper} (h : noDefer ops = true) (j : Nat) (o : Oper) (c) (hj : ops.toArray[j]? = some o) : o.op ≠ .defer c := by
  intro hc
  have h1 := List.all_eq_true.1 h o (List.mem_of_getElem? (by simpa using hj))
  rw [hc] at h1
  cases h1
theorem wpIn_region_held {id : Nat} {S : World → Prop} {ops : List Oper} (hm : P.follows .mixedOrders = true) (hd : noDefer ops = true) (hS : S w.drew)
    (h : S w.drew → wpAnyH P .any ops.toArray (OutPlain Q) S ops.toArray.size (Array.replicate ops.toArray.size false) a w.drew) : (Code.region id ops.toArray true).wpIn (Fence.wide.inRound l) n P Q a w := by
  have hL : ¬ LetsOut (OutPlain Q) := by
    rintro ⟨_, _, h, _⟩
    cases h
  refine wpIn_mono (Q := OutPlain Q) (wpIn_region_any hm (wpAnyIn_of_wpAny hL (noDefer_spec hd) _ _ _ _ (wpAny_of_held _ _ _ _ (h hS)))) ?_
  rintro e a w ⟨rfl, h⟩
  exact h
end
end

section
set_option linter.unusedVariables false
set_option linter.unusedSimpArgs false
open Go.RowKit Go.Lib

/-- A world of which something holds. -/
structure CW (C : World → Prop) where
  w : World
  ok : C w
/-- A region that draws its order, whose operations only read what C says, and whose calls keep C and hand back plain values: one walk. -/
theorem wp_region_cw {P : Program} {w : World} {id : Nat} {Q : Exit → Act → World → Prop} {a : Act} {l : List Oper} (C : World → Prop) (hC : C w.drew) (hm : P.follows .mixedOrders = true) (hB : Region.lexB .any l.toArray = true)
    (h : wpQuiet P l.toArray (fun w' => ∃ x : CW C, w' = x.w) (fun a' => ∀ w', (∃ x : CW C, w' = x.w) → Q .normal a' w') l a) : (Code.region id l.toArray true).wp P Q a w :=
  wp_region_quiet (C := fun w' => ∃ x : CW C, w' = x.w) hm hB ⟨⟨_, hC⟩, rfl⟩ (by simpa using h)
end
end Go.Proofs.YtfbffmckmchbbaaDoor
