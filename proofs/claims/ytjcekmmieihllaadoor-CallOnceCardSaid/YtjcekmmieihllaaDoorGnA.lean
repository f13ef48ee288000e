/- Maps from texts, made by the program itself. Maps from numbers to numbers, made by the program itself. Two rows of plain cells held against each other: '==' says whether they are the same. A region that draws its order, whose last operation waits for all the others: the others under one condition on the world, then the last one. -/
import Derived.Test.YtjcekmmieihllaaDoorSlices
import Derived.Carry
import Derived.WalkKit
import Derived.Laws.StructEq
import Derived.Test.YtjcekmmieihllaaDoorArgs
import Derived.DeepKeys
import Derived.Test.YtjcekmmieihllaaDoorBase
import Derived.StillTail
import Derived.Deep.RegionWith
import Derived.Deep.RegionHeld3
namespace Go.Proofs.YtjcekmmieihllaaDoor
section
set_option linter.unusedVariables false
set_option linter.unusedSimpArgs false
open Go.RowKit

theorem beqB {a b : ByteArray} : (a == b) = decide (a = b) := by
  rw [beq_toListBytes]
  by_cases h : a = b
  · subst h; simp
  · rw [decide_eq_false h]
    exact beq_eq_false_iff_ne.2 (fun e => h (ByteArray.ext (Array.toList_inj.1 (by rw [← ByteArray.toList_eq, ← ByteArray.toList_eq]; exact e))))

/-- A map from texts: what was put in, one behind the other; no text twice. -/
def mapEntries (l : List (ByteArray × Value)) (i : Nat) : List MapEntry :=
  match l with
  | [] => []
  | (k, v) :: l => { key := .string k, val := v, born := i } :: mapEntries l (i + 1)
def mapObj (l : List (ByteArray × Value)) : Obj := .map (mapEntries l 0).toArray l.length
def look (l : List (ByteArray × Value)) (k : ByteArray) : Option Value :=
  match l with
  | [] => none
  | (k', v) :: l => if k = k' then some v else look l k

theorem mapEntries_append (l : List (ByteArray × Value)) (k : ByteArray) (v : Value) (i : Nat) : mapEntries (l ++ [(k, v)]) i = mapEntries l i ++ [{ key := .string k, val := v, born := i + l.length }] := by
  induction l generalizing i with
  | nil => simp [mapEntries]
  | cons x l ih => simp only [List.cons_append, mapEntries, List.length_cons]; rw [ih]; simp only [List.cons_append, Nat.add_assoc, Nat.add_comm 1]

theorem findNow_entries (l : List (ByteArray × Value)) (k : ByteArray) : ∀ (i j : Nat), (look l k = none → Instr.findNow .string (.string k) (mapEntries l i) j = some none) ∧
    (∀ v, look l k = some v → ∃ n, Instr.findNow .string (.string k) (mapEntries l i) j = some (some (n, v))) := by
  induction l with
  | nil => intro i j; exact ⟨fun _ => rfl, fun v h => by cases h⟩
  | cons x l ih =>
    intro i j
    obtain ⟨k', v'⟩ := x
    obtain ⟨h1, h2⟩ := ih (i + 1) (j + 1)
    simp only [look, mapEntries, Instr.findNow, Instr.sameNow]
    rw [beqB]
    by_cases h : k = k'
    · rw [if_pos h, decide_eq_true h]
      exact ⟨fun e => (by cases e), fun v e => by cases e; exact ⟨j, rfl⟩⟩
    · rw [if_neg h, decide_eq_false h]
      exact ⟨h1, h2⟩

/-- A block is written anew. -/
def World.setB (w : World) (b : Nat) (o : Obj) : World := { w with heap := w.heap.setIfInBounds b o }
theorem St.setB {W w : World} {I : Nat → Option Obj} {D : Nat} {o o' : Obj} {L : List (Nat × Obj)} (h : St W w I ((D, o) :: L)) : St W (World.setB w D o') I ((D, o') :: L) := by
  have hn := h.nodup
  simp only [List.map_cons, List.nodup_cons] at hn
  have hlt := h.lt (p := (D, o)) (by simp)
  have hsame : (World.setB w D o').heap[D]? = some o' := by unfold World.setB; simp [Array.getElem?_setIfInBounds_self, hlt]
  have hoth : ∀ k, k ≠ D → (World.setB w D o').heap[k]? = w.heap[k]? := fun k hk => by unfold World.setB; simp [Array.getElem?_setIfInBounds_ne (Ne.symm hk)]
  refine ⟨h.os, h.tape, h.output, fun p hp => ?_, h.nodup, fun b o hb => ?_, fun p hp => ?_⟩
  · rcases List.mem_cons.1 hp with rfl | hp
    · exact hsame
    · rw [hoth _ (fun e => hn.1 (by rw [← e]; exact List.mem_map_of_mem (f := (·.1)) hp))]
      exact h.own p (by simp [hp])
  · rw [hoth _ (fun e => ?_)]
    · exact h.imm b o hb
    · have := h.apart (D, _) (List.mem_cons_self ..)
      simp only at this
      rw [e, this] at hb
      cases hb
  · rcases List.mem_cons.1 hp with rfl | hp
    · exact h.apart (D, o) (by simp)
    · exact h.apart p (by simp [hp])

section
variable {P : Program} {t K E : TypeId} {w : World} {b : Nat} {l : List (ByteArray × Value)}
theorem run_checkKey_string (hK : P.underlying K = some .string) (e : Bool) (k : ByteArray) : (Instr.checkKey e 10000 K (.string k)).run P w = .ok () w := by
  rw [show (10000 : Nat) = 9999 + 1 from rfl, Instr.checkKey]
  simp [Sem.run_bind, run_underlying hK, Result.andThen]

theorem run_lookup_map (ht : P.underlying t = some (.map K E)) (hK : P.underlying K = some .string) (hb : w.heap[b]? = some (mapObj l)) {z : Value} (hz : (zeroValue E).run P w = .ok z w) (k : ByteArray) (ok : Bool) :
    (Instr.lookup t (.map (some b)) (.string k) ok).run P w = .ok (if ok then .tuple #[(look l k).getD z, .bool (look l k).isSome] else (look l k).getD z) w := by
  obtain ⟨h1, h2⟩ := findNow_entries l k 0 0
  unfold mapObj at hb
  cases hl : look l k with
  | none =>
    have := h1 hl
    simp [Instr.lookup, Sem.run_bind, run_underlying ht, getObj, Sem.run, hb, Result.andThen, run_checkKey_string hK, Instr.findKey, run_underlying hK, this, hz]
  | some v =>
    obtain ⟨n, hn⟩ := h2 v hl
    simp [Instr.lookup, Sem.run_bind, run_underlying ht, getObj, Sem.run, hb, Result.andThen, run_checkKey_string hK, Instr.findKey, run_underlying hK, hn, hz]
theorem run_mapUpdate_new (ht : P.underlying t = some (.map K E)) (hK : P.underlying K = some .string) (hb : w.heap[b]? = some (mapObj l)) (k : ByteArray) (v : Value) (hn : look l k = none) :
    (Instr.mapUpdate t (.map (some b)) (.string k) v).run P w = .ok () (World.setB w b (mapObj (l ++ [(k, v)]))) := by
  obtain ⟨h1, _⟩ := findNow_entries l k 0 0
  have := h1 hn
  unfold mapObj at hb
  simp [Instr.mapUpdate, Sem.run_bind, run_underlying ht, getObj, Sem.run, hb, Result.andThen, run_checkKey_string hK, Instr.findKey, run_underlying hK, this]
  simp [setObj, Sem.run, World.setB, mapObj, mapEntries_append, hb]
end
end

section
set_option linter.unusedVariables false
set_option linter.unusedSimpArgs false
open Go.RowKit

/-- A map from numbers to numbers, as it was filled; no key twice. -/
def lookI : List (Int × Int) → Int → Option Int
  | [], _ => none
  | (k', v) :: l, k => if k = k' then some v else lookI l k
def putI : List (Int × Int) → Int → Int → List (Int × Int)
  | [], k, v => [(k, v)]
  | (k', v') :: l, k, v => if k = k' then (k', v) :: l else (k', v') :: putI l k v
def lk (l : List (Int × Int)) (k : Int) : Int := (lookI l k).getD 0
theorem lookI_put : ∀ (l : List (Int × Int)) (k v k' : Int), lookI (putI l k v) k' = if k' = k then some v else lookI l k'
  | [], k, v, k' => by simp [putI, lookI]
  | (a, b) :: l, k, v, k' => by
    unfold putI
    by_cases h : k = a
    · subst h
      rw [if_pos rfl]
      by_cases h2 : k' = k <;> simp [lookI, h2]
    · rw [if_neg h]
      simp only [lookI]
      rw [lookI_put l k v k']
      by_cases h2 : k' = a
      · subst h2
        rw [if_pos rfl, if_neg (fun e => h e.symm), if_pos rfl]
      · rw [if_neg h2, if_neg h2]
theorem lk_put (l : List (Int × Int)) (k v k' : Int) : lk (putI l k v) k' = if k' = k then v else lk l k' := by
  unfold lk
  rw [lookI_put]
  by_cases h : k' = k <;> simp [h]
def mapEntI : List (Int × Int) → Nat → List MapEntry
  | [], _ => []
  | (k, v) :: l, i => { key := .int .i64 k, val := .int .i64 v, born := i } :: mapEntI l (i + 1)
def mapObjI (l : List (Int × Int)) : Obj := .map (mapEntI l 0).toArray l.length
theorem mapEntI_new : ∀ (l : List (Int × Int)) (k v : Int) (i : Nat), lookI l k = none → mapEntI (putI l k v) i = mapEntI l i ++ [{ key := .int .i64 k, val := .int .i64 v, born := i + l.length }] ∧ (putI l k v).length = l.length + 1
  | [], k, v, i, _ => by simp [putI, mapEntI]
  | (a, b) :: l, k, v, i, h => by
    unfold lookI at h
    split at h
    · cases h
    · rename_i hn
      obtain ⟨h1, h2⟩ := mapEntI_new l k v (i + 1) h
      unfold putI
      rw [if_neg hn]
      simp only [mapEntI, List.length_cons, h1, h2, List.cons_append]
      refine ⟨?_, trivial⟩
      rw [show i + 1 + l.length = i + (l.length + 1) by omega]
theorem findI : ∀ (l : List (Int × Int)) (k : Int) (i j : Nat), (lookI l k = none → Instr.findNow (.int .i64) (.int .i64 k) (mapEntI l i) j = some none) ∧
    (∀ v, lookI l k = some v → ∃ n, Instr.findNow (.int .i64) (.int .i64 k) (mapEntI l i) j = some (some (j + n, .int .i64 v)) ∧ ((mapEntI l i)[n]?).map (fun e => e.key) = some (.int .i64 k) ∧ (∀ u, (mapEntI l i).modify n (fun e => { e with key := .int .i64 k, val := .int .i64 u }) = mapEntI (putI l k u) i ∧ (putI l k u).length = l.length))
  | [], k, i, j => ⟨fun _ => rfl, fun v h => by cases h⟩
  | (a, b) :: l, k, i, j => by
    obtain ⟨h1, h2⟩ := findI l k (i + 1) (j + 1)
    simp only [lookI, mapEntI, Instr.findNow, Instr.sameNow, if_true]
    by_cases h : k = a
    · subst h
      rw [if_pos rfl]
      simp only [beq_self_eq_true]
      refine ⟨fun e => (by cases e), fun v e => ?_⟩
      cases e
      refine ⟨0, rfl, rfl, fun u => ⟨?_, ?_⟩⟩
      · simp [putI, mapEntI]
      · simp [putI]
    · have hb : (k == a) = false := beq_eq_false_iff_ne.2 h
      rw [if_neg h, hb]
      refine ⟨h1, fun v e => ?_⟩
      obtain ⟨n, e1, e2, e3⟩ := h2 v e
      refine ⟨n + 1, by rw [show j + (n + 1) = j + 1 + n by omega]; exact e1, by simpa using e2, fun u => ?_⟩
      obtain ⟨e4, e5⟩ := e3 u
      unfold putI
      rw [if_neg h]
      refine ⟨?_, by simp [e5]⟩
      rw [List.modify_succ_cons, e4]
      rfl
theorem sameBits_int (k : Int) : Instr.sameBits 10000 (.int .i64 k) (.int .i64 k) = true := by
  rw [show (10000 : Nat) = 9999 + 1 from rfl]
  simp [Instr.sameBits]
section
variable {P : Program} {t K E : TypeId} {w : World} {b : Nat} {l : List (Int × Int)}
theorem run_checkKey_int {k : IntKind} (hK : P.underlying K = some (.int k)) (e : Bool) (n : Int) : (Instr.checkKey e 10000 K (.int k n)).run P w = .ok () w := by
  rw [show (10000 : Nat) = 9999 + 1 from rfl, Instr.checkKey]
  simp [Sem.run_bind, run_underlying hK, Result.andThen]
theorem run_lookupI (ht : P.underlying t = some (.map K E)) (hK : P.underlying K = some (.int .i64)) (hb : w.heap[b]? = some (mapObjI l)) (hz : (zeroValue E).run P w = .ok (.int .i64 0) w) (k : Int) :
    (Instr.lookup t (.map (some b)) (.int .i64 k) false).run P w = .ok (.int .i64 (lk l k)) w := by
  obtain ⟨h1, h2⟩ := findI l k 0 0
  unfold mapObjI at hb
  unfold lk
  cases hl : lookI l k with
  | none =>
    have := h1 hl
    simp [Instr.lookup, Sem.run_bind, run_underlying ht, getObj, Sem.run, hb, Result.andThen, run_checkKey_int hK, Instr.findKey, run_underlying hK, this, hz]
  | some v =>
    obtain ⟨n, hn, _⟩ := h2 v hl
    simp [Instr.lookup, Sem.run_bind, run_underlying ht, getObj, Sem.run, hb, Result.andThen, run_checkKey_int hK, Instr.findKey, run_underlying hK, hn, hz]
theorem run_mapUpdateI (ht : P.underlying t = some (.map K E)) (hK : P.underlying K = some (.int .i64)) (hb : w.heap[b]? = some (mapObjI l)) (k v : Int) :
    (Instr.mapUpdate t (.map (some b)) (.int .i64 k) (.int .i64 v)).run P w = .ok () (World.setB w b (mapObjI (putI l k v))) := by
  obtain ⟨h1, h2⟩ := findI l k 0 0
  unfold mapObjI at hb
  cases hl : lookI l k with
  | none =>
    have := h1 hl
    obtain ⟨e1, e2⟩ := mapEntI_new l k v 0 hl
    simp [Instr.mapUpdate, Sem.run_bind, run_underlying ht, getObj, Sem.run, hb, Result.andThen, run_checkKey_int hK, Instr.findKey, run_underlying hK, this]
    simp [setObj, Sem.run, World.setB, mapObjI, e1, e2, hb]
  | some u =>
    obtain ⟨n, hn, hkk, hm⟩ := h2 u hl
    obtain ⟨e1, e2⟩ := hm v
    rw [Nat.zero_add] at hn
    simp [Instr.mapUpdate, Sem.run_bind, run_underlying ht, getObj, Sem.run, hb, Result.andThen, run_checkKey_int hK, Instr.findKey, run_underlying hK, hn, Instr.keyThatStays, hkk, sameBits_int]
    simp [setObj, Sem.run, World.setB, mapObjI, e1, e2, hb]
end
end

section
set_option linter.unusedVariables false
set_option linter.unusedSimpArgs false
open Go.RowKit

/-- What a cell may be. -/
inductive Kn where
  | bool
  | int (q : IntKind)
  | str
  deriving DecidableEq
def Kn.ok : Kn → Value → Prop
  | .bool, .bool _ => True
  | .int q, .int q' n => q' = q ∧ (Lit.int q n).wf = true
  | .str, .string s => s.size ≤ maxLen
  | _, _ => False
def litV : Value → Lit
  | .bool b => .bool b
  | .int q n => .int q n
  | .string s => .string s.data.toList
  | _ => .bool false
def goodRow : List Kn → List Value → Prop
  | [], [] => True
  | k :: ks, v :: vs => k.ok v ∧ goodRow ks vs
  | _, _ => False
theorem goodRow.len : ∀ {ks : List Kn} {vs : List Value}, goodRow ks vs → vs.length = ks.length
  | [], [], _ => rfl
  | _ :: _, _ :: _, h => by simp [goodRow.len h.2]
  | [], _ :: _, h => h.elim
  | _ :: _, [], h => h.elim
theorem goodRow.app : ∀ {ks ks' : List Kn} {vs vs' : List Value}, goodRow ks vs → goodRow ks' vs' → goodRow (ks ++ ks') (vs ++ vs')
  | [], _, [], _, _, h => h
  | _ :: _, _, _ :: _, _, h, h' => ⟨h.1, goodRow.app h.2 h'⟩
  | [], _, _ :: _, _, h, _ => h.elim
  | _ :: _, _, [], _, h, _ => h.elim
theorem goodRow.split : ∀ (a : List Kn) {b : List Kn} {vs : List Value}, goodRow (a ++ b) vs → goodRow a (vs.take a.length) ∧ goodRow b (vs.drop a.length)
  | [], b, vs, h => ⟨by simp [goodRow], by simpa using h⟩
  | k :: a, b, [], h => h.elim
  | k :: a, b, v :: vs, h => by
    obtain ⟨h1, h2⟩ := goodRow.split a h.2
    exact ⟨⟨h.1, h1⟩, h2⟩
theorem goodRow.inj : ∀ {ks : List Kn} {vs us : List Value}, goodRow ks vs → goodRow ks us → (vs.map litV = us.map litV ↔ vs = us)
  | [], [], [], _, _ => by simp
  | k :: ks, v :: vs, u :: us, h, h' => by
    have ih := goodRow.inj h.2 h'.2
    have h0 : litV v = litV u ↔ v = u := by
      have a1 := h.1
      have a2 := h'.1
      cases k <;> cases v <;> simp only [Kn.ok] at a1 <;> cases u <;> simp only [Kn.ok] at a2 <;> simp [litV]
      rename_i s s'
      constructor
      · intro e
        exact ByteArray.ext e
      · rintro rfl; rfl
    simp only [List.map_cons, List.cons.injEq, h0, ih]
  | [], _ :: _, _, h, _ => h.elim
  | _ :: _, [], _, h, _ => h.elim
  | [], [], _ :: _, _, h => h.elim
  | _ :: _, _ :: _, [], _, h => h.elim
/-- What the cells of a type are; none: it holds something else. -/
def kindsAt (P : Program) : Nat → TypeId → Option (List Kn)
  | 0, _ => none
  | d + 1, t => match P.underlying t with
    | some .bool => some [.bool]
    | some (.int q) => some [.int q]
    | some .string => some [.str]
    | some (.array n e) => match kindsAt P d e with
      | some ks => if P.cellsOf e = ks.length ∧ P.cellsOf t = n * ks.length then some (List.replicate n ks).flatten else none
      | none => none
    | some (.struct fs) => if fs.all (·.name != "_") = true then
        (match (fs.toList.foldl (fun (acc : Option (List Kn)) f => match acc, kindsAt P d f.type with
          | some done, some ks => if f.offset = done.length ∧ P.cellsOf f.type = ks.length then some (done ++ ks) else none
          | _, _ => none) (some [])) with
        | some ks => if P.cellsOf t = ks.length then some ks else none
        | none => none) else none
    | _ => none
section
variable {P : Program}
theorem fold_none (d : Nat) : ∀ (fs : List Field), fs.foldl (fun (acc : Option (List Kn)) f => match acc, kindsAt P d f.type with
          | some done, some ks => if f.offset = done.length ∧ P.cellsOf f.type = ks.length then some (done ++ ks) else none
          | _, _ => none) none = none
  | [] => rfl
  | f :: fs => by rw [List.foldl_cons]; exact fold_none d fs
theorem keyLits_struct (d : Nat) (IH : ∀ (t : TypeId) (ks : List Kn) (cs : List Value), kindsAt P d t = some ks → goodRow ks cs → P.keyLits d t cs = some (cs.map litV)) :
    ∀ (fs : List Field) (done ks : List Kn) (cs : List Value), (fs.foldl (fun (acc : Option (List Kn)) f => match acc, kindsAt P d f.type with
          | some done, some ks => if f.offset = done.length ∧ P.cellsOf f.type = ks.length then some (done ++ ks) else none
          | _, _ => none) (some done)) = some ks → goodRow ks cs →
      ∃ ls, fs.mapM (fun f => P.keyLits d f.type ((cs.drop f.offset).take (P.cellsOf f.type))) = some ls ∧ ls.flatten = (cs.drop done.length).map litV
  | [], done, ks, cs, h, hg => by
    simp only [List.foldl_nil, Option.some.injEq] at h
    subst h
    exact ⟨[], rfl, by rw [List.drop_of_length_le (by rw [hg.len]; omega)]; rfl⟩
  | f :: fs, done, ks, cs, h, hg => by
    rw [List.foldl_cons] at h
    cases hk : kindsAt P d f.type with
    | none => rw [hk] at h; dsimp only at h; rw [fold_none] at h; cases h
    | some kf =>
      rw [hk] at h
      dsimp only at h
      split at h
      · rename_i hc
        obtain ⟨ls, h1, h2⟩ := keyLits_struct d IH fs (done ++ kf) ks cs h hg
        -- ks begins with done ++ kf
        have hpre : ∃ r, ks = (done ++ kf) ++ r := by
          clear h1 h2 hg hk hc
          generalize done ++ kf = x at h
          induction fs generalizing x with
          | nil => simp only [List.foldl_nil, Option.some.injEq] at h; exact ⟨[], by simp [h]⟩
          | cons g fs ih =>
            rw [List.foldl_cons] at h
            cases hk2 : kindsAt P d g.type with
            | none => rw [hk2] at h; dsimp only at h; rw [fold_none] at h; cases h
            | some kg =>
              rw [hk2] at h
              dsimp only at h
              split at h
              · obtain ⟨r, hr⟩ := ih _ h
                exact ⟨kg ++ r, by rw [hr]; simp⟩
              · rw [fold_none] at h; cases h
        obtain ⟨r, rfl⟩ := hpre
        rw [List.append_assoc] at hg
        obtain ⟨_, g2⟩ := goodRow.split done hg
        obtain ⟨g3, _⟩ := goodRow.split kf g2
        have e := IH f.type kf ((cs.drop done.length).take kf.length) hk g3
        refine ⟨((cs.drop done.length).take kf.length).map litV :: ls, ?_, ?_⟩
        · rw [List.mapM_cons, hc.1, hc.2, e, h1]
          rfl
        · rw [List.flatten_cons, h2, List.length_append, ← List.drop_drop, ← List.map_append, List.take_append_drop]
      · rw [fold_none] at h; cases h
theorem keyLits_array (d : Nat) (e : TypeId) (ks : List Kn) (IH : ∀ (cs : List Value), goodRow ks cs → P.keyLits d e cs = some (cs.map litV)) (hc : P.cellsOf e = ks.length) (cs : List Value) :
    ∀ (n i : Nat), goodRow (List.replicate n ks).flatten (cs.drop (i * ks.length)) → ∃ ls, (List.range' i n).mapM (fun j => P.keyLits d e ((cs.drop (j * P.cellsOf e)).take (P.cellsOf e))) = some ls ∧ ls.flatten = (cs.drop (i * ks.length)).map litV
  | 0, i, hg => by
    have : (cs.drop (i * ks.length)).length = 0 := hg.len
    exact ⟨[], rfl, by rw [List.eq_nil_of_length_eq_zero this]; rfl⟩
  | n + 1, i, hg => by
    rw [List.replicate_succ, List.flatten_cons] at hg
    obtain ⟨g1, g2⟩ := goodRow.split ks hg
    rw [List.drop_drop, show i * ks.length + ks.length = (i + 1) * ks.length by rw [Nat.succ_mul]] at g2
    obtain ⟨ls, h1, h2⟩ := keyLits_array d e ks IH hc cs n (i + 1) g2
    have e1 := IH _ g1
    refine ⟨((cs.drop (i * ks.length)).take ks.length).map litV :: ls, ?_, ?_⟩
    · rw [List.range'_succ, List.mapM_cons, hc, e1, ← hc, h1]
      rfl
    · rw [List.flatten_cons, h2, Nat.succ_mul, ← List.drop_drop, ← List.map_append, List.take_append_drop]
theorem keyLits_of : ∀ (d : Nat) (t : TypeId) (ks : List Kn) (cs : List Value), kindsAt P d t = some ks → goodRow ks cs → P.keyLits d t cs = some (cs.map litV)
  | 0, _, _, _, h, _ => by cases h
  | d + 1, t, ks, cs, h, hg => by
    unfold kindsAt at h
    unfold Program.keyLits
    cases hu : P.underlying t with
    | none => rw [hu] at h; cases h
    | some kd =>
      rw [hu] at h
      cases kd <;> dsimp only at h <;> first | (cases h; done) | skip
      case some.bool =>
        cases h
        match cs, hg with
        | [.bool b], _ => rfl
      case some.int q =>
        cases h
        match cs, hg with
        | [.int q' n], hg =>
          obtain ⟨⟨rfl, hw⟩, _⟩ := hg
          simp [hw, litV]
      case some.string =>
        cases h
        match cs, hg with
        | [.string s], hg =>
          have : s.size ≤ maxLen := hg.1
          simp [this, litV]
      case some.array n e =>
        cases hk : kindsAt P d e with
        | none => rw [hk] at h; cases h
        | some ke =>
          rw [hk] at h
          dsimp only at h
          split at h
          · rename_i hc
            cases h
            have hlen : cs.length = P.cellsOf t := by
              rw [hg.len, hc.2]
              simp
            obtain ⟨ls, h1, h2⟩ := keyLits_array d e ke (fun cs h => keyLits_of d e ke cs hk h) hc.1 cs n 0 (by simpa using hg)
            rw [← List.range_eq_range'] at h1
            dsimp only
            rw [if_pos hlen, h1]
            simp only [Option.map_some, h2]
            simp
          · cases h
      case some.struct fs =>
        split at h
        · rename_i hn
          split at h
          · rename_i ks' hf
            split at h
            · rename_i hc
              cases h
              obtain ⟨ls, h1, h2⟩ := keyLits_struct d (fun t ks cs => keyLits_of d t ks cs) fs.toList [] ks cs hf hg
              dsimp only
              rw [if_pos ⟨by rw [hg.len, hc], hn⟩, h1]
              simp only [Option.map_some, h2]
              simp
            · cases h
          · cases h
        · cases h
/-- TWO ROWS: '=='. -/
theorem eq_row {t : TypeId} {ks : List Kn} (m : Nat) (hm : m ≤ 10000) (hk : P.keyTypeAt m t = true) (hr : (match P.underlying t with | some (.array _ _) | some (.struct _) => true | _ => false) = true) (d : Nat) (hks : kindsAt P d t = some ks) (hc : P.cellsOf t = ks.length) {xs ys : Array Value} (hx : goodRow ks xs.toList) (hy : goodRow ks ys.toList) (w : World) :
    ∃ r : Bool, (Op.equalIn 10000 t (.agg xs) (.agg ys)).run P w = .ok r w ∧ (r = true ↔ xs = ys) := by
  have hf : ∀ zs : Array Value, goodRow ks zs.toList → (Value.agg zs).formed P t = true := fun zs hz => by
    have hs : zs.size = P.cellsOf t := by rw [hc, ← hz.len, Array.length_toList]
    cases hu : P.underlying t with
    | none => rw [hu] at hr; cases hr
    | some kd => rw [hu] at hr; cases kd <;> simp at hr <;> simp [Value.formed, hu, hs]
  obtain ⟨r, h1, h2⟩ := run_equalIn_deep (P := P) (10000 - m) m t hk w d d (.agg xs) (.agg ys) _ _ (hf xs hx) (hf ys hy) (keyLits_of d t ks xs.toList hks hx) (keyLits_of d t ks ys.toList hks hy)
  rw [show 10000 - m + m = 10000 by omega] at h1
  exact ⟨r, h1, h2.trans ((goodRow.inj hx hy).trans Array.toList_inj)⟩
end
end

section
set_option linter.unusedVariables false
set_option linter.unusedSimpArgs false
open Go.RowKit

section
variable {P : Program} {ops ops' : Array Oper} {md : Region.Mode} {Q : Exit → Act → World → Prop} {N : Act → World → Prop} {n : Nat}
/-- What is asked behind the others. -/
def SinkQ (Q : Exit → Act → World → Prop) (N : Act → World → Prop) : Exit → Act → World → Prop := fun e a w => match e with
  | .normal => N a w
  | e => Q e a w
theorem upon_sink {o : Oper} {a : Act} {K : Act → World → Prop} {r : Result Next} (h : o.upon P a K (SinkQ Q N) r) : o.upon P a K Q r := by
  cases r with
  | ok x w' =>
    cases x <;> simp only [Oper.upon] at h ⊢ <;> first | exact h | exact Calls.mono h (fun e w'' he => by cases e <;> exact he)
  | halt x w' => cases x <;> simp only [Oper.upon] at h ⊢ <;> exact h
def Region.sinkOK (md : Region.Mode) (ops : Array Oper) (n : Nat) : Bool :=
  decide (ops.size = n + 1) && Region.sinkB md ops n && ((List.range (n + 1)).all fun i => match ops[i]? with
    | none => false
    | some o => (o.after.all fun e => decide (e.on < i)) && (match o.guard with | none => true | some (g, _) => decide (g < i)))
structure SinkFits (md : Region.Mode) (ops ops' : Array Oper) (n : Nat) : Prop where
  size : ops.size = n + 1
  size' : ops'.size = n
  same : ∀ i, i < n → ops'[i]? = ops[i]?
  sink : Region.sinkB md ops n = true
  after : ∀ (i : Nat) (o : Oper), ops[i]? = some o → ∀ e ∈ o.after, e.on < i
  guard : ∀ (i : Nat) (o : Oper) (g : Nat) (b : Bool), ops[i]? = some o → o.guard = some (g, b) → g < i
theorem SinkFits.of {l : List Oper} (h : Region.sinkOK md l.toArray n = true) : SinkFits md l.toArray (l.take n).toArray n := by
  unfold Region.sinkOK at h
  simp only [Bool.and_eq_true, decide_eq_true_eq] at h
  obtain ⟨⟨h1, h2⟩, h3⟩ := h
  have hl : l.length = n + 1 := by simpa using h1
  have key : ∀ (i : Nat) (o : Oper), l.toArray[i]? = some o → (∀ e ∈ o.after, e.on < i) ∧ (∀ g b, o.guard = some (g, b) → g < i) := fun i o ho => by
    have hi : i < n + 1 := by have := (Array.getElem?_eq_some_iff.1 ho).1; omega
    have := List.all_eq_true.1 h3 i (List.mem_range.2 hi)
    rw [ho] at this
    simp only [Bool.and_eq_true] at this
    refine ⟨fun e he => by simpa using Array.all_eq_true_iff_forall_mem.1 this.1 e he, fun g b hg => ?_⟩
    have h5 := this.2
    rw [hg] at h5
    simpa using h5
  refine ⟨h1, by simp; omega, fun i hi => ?_, h2, fun i o ho => (key i o ho).1, fun i o g b ho hg => (key i o ho).2 g b hg⟩
  simp [hi]
theorem SinkFits.ready (F : SinkFits md ops ops' n) {listed listed' : Array Bool} (hs : listed.size = n + 1) (hs' : listed'.size = n) (hl : ∀ i, i < n → listed'[i]? = listed[i]?) {i : Nat} (hi : i < n) :
    i ∈ Region.ready md ops' listed' ↔ i ∈ Region.ready md ops listed := by
  have hg : ∀ j d, j < n → listed'.getD j d = listed.getD j d := fun j d hj => by
    have := hl j hj
    rw [Array.getD_eq_getD_getElem?, Array.getD_eq_getD_getElem?, this]
  rw [mem_ready, mem_ready, hg i true hi, F.same i hi]
  constructor
  · rintro ⟨h1, o, ho, h2⟩
    exact ⟨h1, o, ho, fun e he hb => by rw [← hg e.on false (by have := F.after i o ho e he; omega)]; exact h2 e he hb⟩
  · rintro ⟨h1, o, ho, h2⟩
    exact ⟨h1, o, ho, fun e he hb => by rw [hg e.on false (by have := F.after i o ho e he; omega)]; exact h2 e he hb⟩
theorem SinkFits.all (F : SinkFits md ops ops' n) {listed : Array Bool} (hs : listed.size = n + 1) (h : ∀ i, i < n → i ∉ Region.ready md ops listed) : ∀ i, i < n → listed.getD i false = true := by
  intro i
  induction i using Nat.strongRecOn with
  | _ i ih =>
    intro hi
    cases hc : listed.getD i false with
    | true => rfl
    | false =>
      refine absurd (mem_ready.2 ⟨getD_in (by omega) hc, ops[i]'(by rw [F.size]; omega), Array.getElem?_eq_getElem _, fun e he hb => ?_⟩) (h i hi)
      have := F.after i _ (Array.getElem?_eq_getElem (by rw [F.size]; omega)) e he
      exact ih e.on this (by omega)
theorem SinkFits.last (F : SinkFits md ops ops' n) {listed : Array Bool} (hs : listed.size = n + 1) (hn : listed.getD n false = false) (h : ∀ i, i < n → listed.getD i false = true) : n ∈ Region.ready md ops listed :=
  mem_ready.2 ⟨getD_in (by omega) hn, ops[n]'(by rw [F.size]; omega), Array.getElem?_eq_getElem _, fun e he hb => h e.on (F.after n _ (Array.getElem?_eq_getElem (by rw [F.size]; omega)) e he)⟩
theorem SinkFits.none (F : SinkFits md ops ops' n) {listed : Array Bool} (h : ∀ i, i < n + 1 → listed.getD i false = true) : Region.ready md ops listed = [] := by
  rw [List.eq_nil_iff_forall_not_mem]
  intro i hi
  obtain ⟨h1, o, ho, _⟩ := mem_ready.1 hi
  have hlt := (Array.getElem?_eq_some_iff.1 ho).1
  have := h i (by rw [F.size] at hlt; exact hlt)
  rw [getD_both h1] at this
  cases this
theorem wpAny_over {listed : Array Bool} {a : Act} {w : World} (h0 : Region.ready md ops listed = []) (h : Q .normal a w) : ∀ f, wpAny P md ops Q f listed a w
  | 0 => ⟨h0, h⟩
  | f + 1 => ⟨fun _ => h, fun i hi => by rw [h0] at hi; cases hi⟩
theorem wpOp_sink (F : SinkFits md ops ops' n) {i : Nat} (hi : i < n) {K : Act → World → Prop} {a : Act} {w : World} (h : wpOp P ops' (SinkQ Q N) i K a w) : wpOp P ops Q i K a w := by
  unfold wpOp at *
  rw [F.same i hi] at h
  cases ho : ops[i]? with
  | none => rw [ho] at h; exact h
  | some o =>
    rw [ho] at h
    dsimp only at h ⊢
    have hw : Region.wanted o (yielded ops' a.tmps) = Region.wanted o (yielded ops a.tmps) := by
      unfold Region.wanted
      cases hg : o.guard with
      | none => rfl
      | some p =>
        obtain ⟨g, b⟩ := p
        have := F.guard i o g b ho hg
        dsimp only
        unfold yielded
        rw [F.same g (by omega)]
    rw [hw] at h
    split
    · rename_i hc
      rw [if_pos hc] at h
      exact h.imp upon_sink id
    · rename_i hc
      rw [if_neg hc] at h
      exact h
theorem wpAny_sink (F : SinkFits md ops ops' n) {o : Oper} (ho : ops[n]? = some o) : ∀ (f : Nat) (listed listed' : Array Bool) (a : Act) (w : World), HeadInv md ops n listed → listed'.size = n → (∀ i, i < n → listed'[i]? = listed[i]?) →
    wpAny P md ops' (SinkQ Q (wpList P ops Q [o])) f listed' a w → wpAny P md ops Q (f + 1) listed a w := by
  intro f
  have hc : Region.chainB md ops n = true := List.all_eq_true.2 fun t ht => by
    have := List.mem_range.1 ht
    rw [F.size] at this
    simp
    exact .inl (by omega)
  have step : ∀ (g : Nat) (listed listed' : Array Bool) (a : Act) (w : World), HeadInv md ops n listed → listed'.size = n → (∀ i, i < n → listed'[i]? = listed[i]?) →
      (Region.ready md ops' listed' = [] → wpList P ops Q [o] a w) → (∀ i, i < n → i ∈ Region.ready md ops listed → wpOp P ops Q i (wpAny P md ops Q g (listed.setIfInBounds i true)) a w) → wpAny P md ops Q (g + 1) listed a w := by
    intro g listed listed' a w inv hs' hl h0 h1
    have hs : listed.size = n + 1 := by rw [inv.size, F.size]
    have hn : listed.getD n false = false := getD_both (inv.tail n (Nat.le_refl _) (by rw [F.size]; omega))
    have hready : ∀ i, i ∈ Region.ready md ops listed → i < n + 1 := fun i hi => by
      obtain ⟨_, x, hx, _⟩ := mem_ready.1 hi
      have := (Array.getElem?_eq_some_iff.1 hx).1
      rw [F.size] at this
      exact this
    refine ⟨fun h2 => ?_, fun i hi => ?_⟩
    · have hall := F.all hs (fun i _ hi => by rw [h2] at hi; cases hi)
      have := F.last hs hn hall
      rw [h2] at this
      cases this
    · have hin := hready i hi
      by_cases hlt : i < n
      · exact h1 i hlt hi
      · have e : i = n := by omega
        subst e
        have hno : ∀ j, j < i → j ∉ Region.ready md ops listed := fun j hj hr => by
          obtain ⟨hun, _⟩ := mem_ready.1 hr
          exact tail_waits F.sink hc (by rw [F.size]; omega) inv _ j rfl hj hun i (Nat.le_refl _) hi
        have hall := F.all hs hno
        have h2 : Region.ready md ops' listed' = [] := by
          rw [List.eq_nil_iff_forall_not_mem]
          intro j hj
          obtain ⟨_, x, hx, _⟩ := mem_ready.1 hj
          have hj2 : j < i := by have := (Array.getElem?_eq_some_iff.1 hx).1; rw [F.size'] at this; exact this
          exact hno j hj2 ((F.ready hs hs' hl hj2).1 hj)
        have h3 := h0 h2
        have hw : wpOp P ops Q i (Q .normal) a w := by unfold wpOp; simp only [ho]; exact h3
        refine wpOp_mono (fun a' w' h' => wpAny_over (F.none fun j hj => ?_) h' g) hw
        by_cases hji : j = i
        · subst hji
          rw [Array.getD_eq_getD_getElem?, Array.getElem?_setIfInBounds_self_of_lt (by omega)]
          rfl
        · rw [getD_set_ne false (Ne.symm hji)]
          exact hall j (by omega)
  induction f with
  | zero =>
    intro listed listed' a w inv hs' hl h
    have hs : listed.size = n + 1 := by rw [inv.size, F.size]
    exact step 0 listed listed' a w inv hs' hl (fun _ => h.2) (fun i hi hr => by
      have := (F.ready hs hs' hl hi).2 hr
      rw [h.1] at this
      cases this)
  | succ f ih =>
    intro listed listed' a w inv hs' hl h
    have hs : listed.size = n + 1 := by rw [inv.size, F.size]
    refine step (f + 1) listed listed' a w inv hs' hl h.1 (fun i hi hr => ?_)
    have hr' := (F.ready hs hs' hl hi).2 hr
    refine wpOp_mono (fun a' w' h' => ih (listed.setIfInBounds i true) (listed'.setIfInBounds i true) a' w' (inv.set hr hi) (by simp [hs']) (fun j hj => ?_) h') (wpOp_sink F hi (h.2 i hr'))
    by_cases hji : i = j
    · subst hji
      rw [Array.getElem?_setIfInBounds_self_of_lt (by omega), Array.getElem?_setIfInBounds_self_of_lt (by omega)]
    · rw [Array.getElem?_setIfInBounds_ne hji, Array.getElem?_setIfInBounds_ne hji]
      exact hl j hj
/-- THE REGION: its operations but the last one under S; behind them the last one. -/
theorem wp_region_sink {S : World → Prop} {id : Nat} {a : Act} {w : World} {l : List Oper} {o : Oper} (n : Nat) (hm : P.follows .mixedOrders = true) (hB : Region.sinkOK .any l.toArray n = true) (ho : l.toArray[n]? = some o) (hS : S w.drew)
    (h : S w.drew → wpAnyH P .any (l.take n).toArray (SinkQ Q (wpList P l.toArray Q [o])) S n (Array.replicate n false) a w.drew) : (Code.region id l.toArray true).wp P Q a w := by
  have F := SinkFits.of hB
  refine wp_region_any hm ?_
  have hsz : l.toArray.size = n + 1 := F.size
  rw [hsz]
  exact wpAny_sink F ho n (Array.replicate (n + 1) false) (Array.replicate n false) a _
    ⟨by rw [Array.size_replicate, F.size], fun j oj _ hl => (by rw [getD_replicate_false] at hl; cases hl), fun t _ ht => getD_in (by rw [Array.size_replicate]; rw [F.size] at ht; exact ht) (getD_replicate_false _ _)⟩
    (Array.size_replicate ..) (fun i hi => by rw [Array.getElem?_replicate, Array.getElem?_replicate, if_pos hi, if_pos (by omega)]) (wpAny_of_held n _ a _ (h hS))
end
end
end Go.Proofs.YtjcekmmieihllaaDoor
