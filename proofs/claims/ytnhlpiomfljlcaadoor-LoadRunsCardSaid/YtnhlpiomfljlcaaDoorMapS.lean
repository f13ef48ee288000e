/- Maps from texts, made by the program itself. -/
import Derived.Test.YtnhlpiomfljlcaaDoorSlices
import Derived.Carry
import Derived.WalkKit
import Derived.Laws.StructEq
namespace Go.Proofs.YtnhlpiomfljlcaaDoor
set_option linter.unusedVariables false
set_option linter.unusedSimpArgs false
open Go.RowKit

theorem beqB {a b : ByteArray} : (a == b) = decide (a = b) := by
  rw [beq_toListBytes]
  by_cases h : a = b
  · subst h; simp
  · rw [decide_eq_false h]
    exact beq_eq_false_iff_ne.2 (fun e => h (ByteArray.ext (Array.toList_inj.1 (by rw [← ByteArray.toList_eq, ← ByteArray.toList_eq]; exact e))))

/-- A map from texts: what was put in, one behind the other; no text twice. -/
def mapEntries (l : List (ByteArray × Value)) (i : Nat) : List MapEntry :=
  match l with
  | [] => []
  | (k, v) :: l => { key := .string k, val := v, born := i } :: mapEntries l (i + 1)
def mapObj (l : List (ByteArray × Value)) : Obj := .map (mapEntries l 0).toArray l.length
def look (l : List (ByteArray × Value)) (k : ByteArray) : Option Value :=
  match l with
  | [] => none
  | (k', v) :: l => if k = k' then some v else look l k

theorem mapEntries_append (l : List (ByteArray × Value)) (k : ByteArray) (v : Value) (i : Nat) : mapEntries (l ++ [(k, v)]) i = mapEntries l i ++ [{ key := .string k, val := v, born := i + l.length }] := by
  induction l generalizing i with
  | nil => simp [mapEntries]
  | cons x l ih => simp only [List.cons_append, mapEntries, List.length_cons]; rw [ih]; simp only [List.cons_append, Nat.add_assoc, Nat.add_comm 1]

theorem findNow_entries (l : List (ByteArray × Value)) (k : ByteArray) : ∀ (i j : Nat), (look l k = none → Instr.findNow .string (.string k) (mapEntries l i) j = some none) ∧
    (∀ v, look l k = some v → ∃ n, Instr.findNow .string (.string k) (mapEntries l i) j = some (some (n, v))) := by
  induction l with
  | nil => intro i j; exact ⟨fun _ => rfl, fun v h => by cases h⟩
  | cons x l ih =>
    intro i j
    obtain ⟨k', v'⟩ := x
    obtain ⟨h1, h2⟩ := ih (i + 1) (j + 1)
    simp only [look, mapEntries, Instr.findNow, Instr.sameNow]
    rw [beqB]
    by_cases h : k = k'
    · rw [if_pos h, decide_eq_true h]
      exact ⟨fun e => (by cases e), fun v e => by cases e; exact ⟨j, rfl⟩⟩
    · rw [if_neg h, decide_eq_false h]
      exact ⟨h1, h2⟩

/-- A block is written anew. -/
def World.setB (w : World) (b : Nat) (o : Obj) : World := { w with heap := w.heap.setIfInBounds b o }
theorem St.setB {W w : World} {I : Nat → Option Obj} {D : Nat} {o o' : Obj} {L : List (Nat × Obj)} (h : St W w I ((D, o) :: L)) : St W (World.setB w D o') I ((D, o') :: L) := by
  have hn := h.nodup
  simp only [List.map_cons, List.nodup_cons] at hn
  have hlt := h.lt (p := (D, o)) (by simp)
  have hsame : (World.setB w D o').heap[D]? = some o' := by unfold World.setB; simp [Array.getElem?_setIfInBounds_self, hlt]
  have hoth : ∀ k, k ≠ D → (World.setB w D o').heap[k]? = w.heap[k]? := fun k hk => by unfold World.setB; simp [Array.getElem?_setIfInBounds_ne (Ne.symm hk)]
  refine ⟨h.os, h.tape, h.output, fun p hp => ?_, h.nodup, fun b o hb => ?_, fun p hp => ?_⟩
  · rcases List.mem_cons.1 hp with rfl | hp
    · exact hsame
    · rw [hoth _ (fun e => hn.1 (by rw [← e]; exact List.mem_map_of_mem (f := (·.1)) hp))]
      exact h.own p (by simp [hp])
  · rw [hoth _ (fun e => ?_)]
    · exact h.imm b o hb
    · have := h.apart (D, _) (List.mem_cons_self ..)
      simp only at this
      rw [e, this] at hb
      cases hb
  · rcases List.mem_cons.1 hp with rfl | hp
    · exact h.apart (D, o) (by simp)
    · exact h.apart p (by simp [hp])

section
variable {P : Program} {t K E : TypeId} {w : World} {b : Nat} {l : List (ByteArray × Value)}
theorem run_checkKey_string (hK : P.underlying K = some .string) (e : Bool) (k : ByteArray) : (Instr.checkKey e 10000 K (.string k)).run P w = .ok () w := by
  rw [show (10000 : Nat) = 9999 + 1 from rfl, Instr.checkKey]
  simp [Sem.run_bind, run_underlying hK, Result.andThen]

theorem run_lookup_map (ht : P.underlying t = some (.map K E)) (hK : P.underlying K = some .string) (hb : w.heap[b]? = some (mapObj l)) {z : Value} (hz : (zeroValue E).run P w = .ok z w) (k : ByteArray) (ok : Bool) :
    (Instr.lookup t (.map (some b)) (.string k) ok).run P w = .ok (if ok then .tuple #[(look l k).getD z, .bool (look l k).isSome] else (look l k).getD z) w := by
  obtain ⟨h1, h2⟩ := findNow_entries l k 0 0
  unfold mapObj at hb
  cases hl : look l k with
  | none =>
    have := h1 hl
    simp [Instr.lookup, Sem.run_bind, run_underlying ht, getObj, Sem.run, hb, Result.andThen, run_checkKey_string hK, Instr.findKey, run_underlying hK, this, hz]
  | some v =>
    obtain ⟨n, hn⟩ := h2 v hl
    simp [Instr.lookup, Sem.run_bind, run_underlying ht, getObj, Sem.run, hb, Result.andThen, run_checkKey_string hK, Instr.findKey, run_underlying hK, hn, hz]
theorem run_mapUpdate_new (ht : P.underlying t = some (.map K E)) (hK : P.underlying K = some .string) (hb : w.heap[b]? = some (mapObj l)) (k : ByteArray) (v : Value) (hn : look l k = none) :
    (Instr.mapUpdate t (.map (some b)) (.string k) v).run P w = .ok () (World.setB w b (mapObj (l ++ [(k, v)]))) := by
  obtain ⟨h1, _⟩ := findNow_entries l k 0 0
  have := h1 hn
  unfold mapObj at hb
  simp [Instr.mapUpdate, Sem.run_bind, run_underlying ht, getObj, Sem.run, hb, Result.andThen, run_checkKey_string hK, Instr.findKey, run_underlying hK, this]
  simp [setObj, Sem.run, World.setB, mapObj, mapEntries_append, hb]
end
end Go.Proofs.YtnhlpiomfljlcaaDoor
