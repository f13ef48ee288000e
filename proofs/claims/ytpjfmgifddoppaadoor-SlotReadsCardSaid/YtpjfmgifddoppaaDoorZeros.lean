/- append of noughts: 'append(x, make([]T, n)...)' onto a slice of the proof's own. -/
import Derived.Test.YtpjfmgifddoppaaDoorSlices
import Derived.Lib.AppendZeros
namespace Go.Proofs.YtpjfmgifddoppaaDoor
set_option linter.unusedVariables false
set_option linter.unusedSimpArgs false
open Go.RowKit

section
variable {P : Program} {W w : World} {I : Nat → Option Obj} {F L : List (Nat × Obj)}

theorem run_append_zeros_grow (w : World) (t tn ty e : TypeId) (i : TypeInfo) (z : Value) (ht : P.underlying t = some (.slice e)) (htn : P.underlying tn = some (.int .i64)) (hi : P.info? e = some i) (hz : i.zero = some z) (hz1 : z.cells = #[z]) (hs1 : i.size = 1)
    (b : Addr) (sLen sCap : Nat) (olds : List Value) (hlo : olds.length = sLen * i.size) (holds : ∀ j v, olds[j]? = some v → w.cell? (b.add j) = some v)
    (n : Nat) (h0 : 0 < n) (hg : sCap < sLen + n) (h63 : ((sLen + n : Nat) : Int) ≤ 9223372036854775807) (h48 : n * i.bytes ≤ 281474976710656) (hfit : Builtin.nextslicecap (sLen + n) sCap * i.bytes ≤ 281474976710656) :
    (Builtin.append_ #[t, tn] ty #[.slice (some b) sLen sCap, .int .i64 (n : Int)]).run P w =
      .ok (.slice (some ⟨w.heap.size, 0, none⟩) (sLen + n) (grownCap w (sLen + n) sCap e))
        (w.drew.alloc (.cells (olds.toArray ++ Builtin.zeroCells z.cells n ++ Builtin.zeroCells z.cells (grownCap w (sLen + n) sCap e - (sLen + n))) e)) := by
  have hn : ¬ (sLen + n ≤ sCap) := by omega
  have hn0 : n ≠ 0 := by omega
  have hw : IntKind.i64.wrap (n : Int) = n := by rw [IntKind.wrap_i64]; omega
  have h63' : ¬ (9223372036854775807 < ((sLen : Int) + (n : Int))) := by omega
  have h48' : ¬ (281474976710656 < Builtin.nextslicecap (sLen + n) sCap * i.bytes) := by omega
  have h48i : ¬ (281474976710656 < (n : Int) * (i.bytes : Int)) := by
    rw [← Int.natCast_mul]
    omega
  have hneg : ¬ ((n : Int) < 0) := by omega
  have hfo := run_firstCells_some (P := P) w.drew i.size sLen b sLen sCap olds hlo (by simpa using holds)
  rw [hs1] at hfo
  simp [Builtin.append_, run_underlying ht, run_underlying htn, sizeOf, typeInfo, zeroValue, hi, hz, hs1, asInt, asIntOf, hw, hn, hn0, hneg, h63', h48', h48i, Question.forced, hfo, newRow, grownCap]

/-- append of n noughts onto a slice of the proof's own, of elements of one cell. -/
theorem run_append_zeros_row (t tn ty e : TypeId) (z : Value) (bytes : Nat) (ht : P.underlying t = some (.slice e)) (htn : P.underlying tn = some (.int .i64)) (hi : (P.info? e).map (fun i => (i.zero, i.size, i.bytes)) = some (some z, 1, bytes)) (hz1 : z.cells = #[z]) (hzo : z.oneCell' = true)
    {A : Option Addr} {cap n : Nat} {xs : List Value} (hrow : Row e 1 (.slice A n cap) n xs L) (hst : St W w I (L ++ F)) (m : Nat)
    (h63 : n + m ≤ maxLen) (hbytes : (n + m) * bytes ≤ 140737488355328) :
    ∃ v' w' L', (Builtin.append_ #[t, tn] ty #[.slice A n cap, .int .i64 (m : Int)]).run P w = .ok v' w' ∧ Row e 1 v' (n + m) (xs ++ List.replicate m z) L' ∧ St W w' I (L' ++ F) := by
  obtain ⟨i, hi0, hz, hsize, hby⟩ := info_parts hi
  subst hby
  have hsmall : n + m ≤ 9223372036854775807 := by simp only [maxLen] at h63; omega
  have hlen : (xs ++ List.replicate m z).length = (n + m) * 1 := by rw [List.length_append, hrow.1, List.length_replicate]; omega
  have hw : IntKind.i64.wrap (m : Int) = m := by rw [IntKind.wrap_i64]; omega
  have hneg : ¬ ((m : Int) < 0) := by omega
  have h48 : m * i.bytes ≤ 281474976710656 := by
    have : m * i.bytes ≤ (n + m) * i.bytes := Nat.mul_le_mul_right _ (by omega)
    omega
  have h48i : ¬ (281474976710656 < (m : Int) * (i.bytes : Int)) := by
    rw [← Int.natCast_mul]
    omega
  have hrow0 := hrow
  by_cases hm : m = 0
  · subst hm
    refine ⟨_, w, _, ?_, by simpa using hrow0, hst⟩
    have hw0 : IntKind.i64.wrap 0 = 0 := by decide
    obtain ⟨_, ⟨hv, rfl, rfl⟩ | ⟨g, off, cap', cur, hv, _, hnc, _⟩⟩ := hrow
    · injection hv with h1 h2 h3
      subst h1; subst h3
      simp [Builtin.append_, run_underlying ht, run_underlying htn, sizeOf, typeInfo, hi0, asInt, asIntOf, hw0]
    · injection hv with h1 h2 h3
      subst h1; subst h3
      simp [Builtin.append_, run_underlying ht, run_underlying htn, sizeOf, typeInfo, hi0, asInt, asIntOf, hw0, hnc, storeCells]
  obtain ⟨hxl, ⟨hv, rfl, rfl⟩ | ⟨g, off, cap', cur, hv, rfl, hnc, hcm, hfit, hx⟩⟩ := hrow
  · injection hv with h1 h2 h3
    subst h1; subst h3
    have hx : xs = [] := List.eq_nil_of_length_eq_zero (by simpa using hxl)
    subst hx
    have hr := Lib.run_append_nil_zeros (P := P) w t tn ty e i z .i64 .i64 ht htn hi0 hz m (by omega) (by omega) (by omega) h48
    have hge := grownCap_ge w m 0 e
    simp only [Nat.zero_add] at h63
    refine ⟨_, _, _, hr, ⟨hlen, .inr ⟨w.heap.size, 0, _, _, by rw [Nat.zero_add], rfl, by rw [Nat.zero_add]; exact hge, grownCap_le h63, ?_, ?_⟩⟩, (St.weaken hst).drew1.alloc _⟩
    · simp only [Array.size_append, size_zeroCells, hz1]
      simp
      omega
    · simp only [Array.toList_append, List.drop_zero, hz1, zeroCells_one, List.nil_append]
      rw [Nat.zero_add, Nat.mul_one]
      exact List.take_left' (by simp)
  injection hv with h1 h2 h3
  subst h1; subst h3
  by_cases hroom : n + m ≤ cap
  · have hg : w.heap[g]? = some (.cells cur e (0, 0)) := hst.own (g, .cells cur e (0, 0)) (by simp)
    have hcs : off + n * 1 + (List.replicate m z).length ≤ cur.size := by rw [List.length_replicate]; omega
    have hs := run_storeCells_at P g (off + n * 1) e (List.replicate m z) 0 cur w hg (by simpa using hcs) (fun u hu => by rw [(List.mem_replicate.1 hu).2]; exact hzo)
    simp only [Nat.add_zero] at hs
    refine ⟨.slice (some ⟨g, off, none⟩) (n + m) cap, _, _, ?_, ⟨hlen, .inr ⟨g, off, cap, (cur.toList.take (off + n * 1) ++ List.replicate m z ++ cur.toList.drop (off + n * 1 + (List.replicate m z).length)).toArray, rfl, rfl, hroom, hcm, ?_, ?_⟩⟩, St.setRow (F := F) hst _⟩
    · have hzc := zeroCells_one z m
      rw [Nat.mul_one] at hs
      simp [Builtin.append_, run_underlying ht, run_underlying htn, sizeOf, typeInfo, zeroValue, hi0, hz, hsize, hz1, asInt, asIntOf, hw, hneg, h48i, hm, hroom, Addr.add_lit, hzc, hs]
    · simp only [List.size_toArray, List.length_append, List.length_take, List.length_drop, Array.length_toList]
      omega
    · have e1 : (cur.toList.take (off + n * 1)).drop off = xs := by
        rw [List.drop_take, show off + n * 1 - off = n * 1 by omega]
        exact hx
      have e2 : off ≤ (cur.toList.take (off + n * 1)).length := by simp; omega
      simp only [List.append_assoc]
      rw [List.drop_append_of_le_length e2, e1, ← List.append_assoc, ← hlen]
      exact List.take_left
  · have holds : ∀ j u, xs[j]? = some u → w.cell? ((⟨g, off, none⟩ : Addr).add j) = some u := by
      intro j u hj
      obtain ⟨ad', h, h'⟩ := (hrow0.src fun p hp => hst.own p (List.mem_append.2 (.inl hp))).2 j u hj
      injection h with h
      subst h
      exact h'
    have hr := run_append_zeros_grow (P := P) w t tn ty e i z ht htn hi0 hz hz1 hsize ⟨g, off, none⟩ n cap xs (by rw [hsize]; exact hxl) holds m (by omega) (by omega) (by omega) h48 (growslice_fits (by omega) hbytes)
    have hge := grownCap_ge w (n + m) cap e
    refine ⟨_, _, _, hr, ⟨hlen, .inr ⟨w.heap.size, 0, _, _, rfl, rfl, hge, grownCap_le h63, ?_, ?_⟩⟩, (St.weaken hst).drew1.alloc _⟩
    · simp only [Array.size_append, List.size_toArray, size_zeroCells, hz1, hxl]
      simp
      omega
    · simp only [Array.toList_append, List.append_assoc, List.drop_zero, hz1, zeroCells_one]
      rw [← List.append_assoc, ← hlen]
      exact List.take_left

/-- AT THE OPERATION. -/
theorem wpList_append_zeros {ops : Array Oper} {rest : List Oper} {o : Oper} {a : Act} {Q : Exit → Act → World → Prop} (hgd : o.guard = none) (s x : Operand) (t tn : TypeId)
    (ho : o.op = .call { callee := .builtin .append, args := #[s, x], argTypes := #[t, tn] })
    (e : TypeId) (z : Value) (bytes : Nat) (ht : P.underlying t = some (.slice e)) (htn : P.underlying tn = some (.int .i64)) (hi : (P.info? e).map (fun i => (i.zero, i.size, i.bytes)) = some (some z, 1, bytes)) (hz1 : z.cells = #[z]) (hzo : z.oneCell' = true)
    {A : Option Addr} {cap n : Nat} {xs : List Value} (hs : a.eval s = .slice A n cap) (hrow : Row e 1 (.slice A n cap) n xs L) (hst : St W w I (L ++ F)) (m : Nat) (hx : a.eval x = .int .i64 (m : Int))
    (k : Nat) (hk : n + m = k) (ys : List Value) (hys : xs ++ List.replicate m z = ys) (h63 : k ≤ maxLen) (hbytes : k * bytes ≤ 140737488355328)
    (h : ∀ A' c' w' L', Row e 1 (.slice A' k c') k ys L' → St W w' I (L' ++ F) → wpList P ops Q rest (a.put o.dst (.slice A' k c')) w') : wpList P ops Q (o :: rest) a w := by
  subst hk
  subst hys
  obtain ⟨v', w', L', hr, h2, h3⟩ := run_append_zeros_row (P := P) t tn o.type e z bytes ht htn hi hz1 hzo hrow hst m h63 hbytes
  refine Lib.wpList_append_run w hgd s x t tn ho _ _ hs hx v' w' hr ?_
  obtain ⟨A', c', rfl⟩ := h2.shape
  exact h A' c' w' L' h2 h3

/-- A mark for the walk: here an append stands. -/
theorem at_append {ops : Array Oper} {rest : List Oper} {o : Oper} {a : Act} {Q : Exit → Act → World → Prop} {s x : Operand} {ts : Array TypeId} (ho : o.op = .call { callee := .builtin .append, args := #[s, x], argTypes := ts })
    (h : wpList P ops Q (o :: rest) a w) : wpList P ops Q (o :: rest) a w := h
end
end Go.Proofs.YtpjfmgifddoppaaDoor
