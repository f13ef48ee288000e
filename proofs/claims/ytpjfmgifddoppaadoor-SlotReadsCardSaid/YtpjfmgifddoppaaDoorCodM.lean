/- manifest: its bytes, and what bytes say, in plain Lean. code: what bytes are made of: append of a text; what is plain. -/
import Derived.Test.YtpjfmgifddoppaaDoorParts
import Derived.Test.YtpjfmgifddoppaaDoorSlices
namespace Go.Proofs.YtpjfmgifddoppaaDoor
section
set_option linter.unusedVariables false
set_option linter.unusedSimpArgs false
open Go.RowKit Go.Lib

/-- A number in so many bytes, and back. -/
def leB : Nat → Nat → List UInt8
  | _, 0 => []
  | n, k + 1 => UInt8.ofNat (n % 256) :: leB (n / 256) k
def leV : List UInt8 → Nat
  | [] => 0
  | b :: bs => b.toNat + 256 * leV bs
theorem leB_len : ∀ (k n : Nat), (leB n k).length = k
  | 0, _ => rfl
  | k + 1, n => by simp [leB, leB_len k]
theorem leV_leB : ∀ (k n : Nat), n < 256 ^ k → leV (leB n k) = n
  | 0, n, h => by simp at h; subst h; rfl
  | k + 1, n, h => by
    have h1 : n / 256 < 256 ^ k := by rw [Nat.pow_succ] at h; omega
    simp only [leB, leV, leV_leB k _ h1]
    rw [UInt8.toNat_ofNat']
    omega
theorem leV_lt : ∀ bs : List UInt8, leV bs < 256 ^ bs.length
  | [] => by simp [leV]
  | b :: bs => by
    have h1 := leV_lt bs
    have h2 := b.toNat_lt
    simp only [leV, List.length_cons, Nat.pow_succ]
    omega
theorem leB_leV : ∀ bs : List UInt8, leB (leV bs) bs.length = bs
  | [] => rfl
  | b :: bs => by
    have h2 : b.toNat < 256 := b.toNat_lt
    have h1 := leB_leV bs
    simp only [leV, List.length_cons, leB]
    rw [show (b.toNat + 256 * leV bs) % 256 = b.toNat by omega, show (b.toNat + 256 * leV bs) / 256 = leV bs by omega, h1]
    simp
/-- A text's bytes. -/
def sB (s : ByteArray) : List UInt8 := s.data.toList
theorem sB_len (s : ByteArray) : (sB s).length = s.size := Array.length_toList
/-- What is left of the bytes; none: there was an error. -/
abbrev Rs := Option (List UInt8)
def tk (n : Nat) : Rs → List UInt8 × Rs
  | none => ([], none)
  | some r => if n ≤ r.length then (r.take n, some (r.drop n)) else ([], none)
def limR (L n : Nat) (s : Rs) : Rs := if n ≤ L then s else none
theorem tk_some {n : Nat} {s : Rs} {r' : List UInt8} (h : (tk n s).2 = some r') : s = some ((tk n s).1 ++ r') ∧ (tk n s).1.length = n := by
  unfold tk at h ⊢
  cases s with
  | none => simp at h
  | some r =>
    simp only at h ⊢
    by_cases hn : n ≤ r.length
    · rw [if_pos hn] at h ⊢
      simp only at h ⊢
      injection h with h
      subst h
      simp [hn]
    · rw [if_neg hn] at h; simp at h
theorem tk_app {x r : List UInt8} {n : Nat} (h : x.length = n) : tk n (some (x ++ r)) = (x, some r) := by
  unfold tk
  simp only [List.length_append]
  rw [if_pos (by omega)]
  subst h
  simp
theorem tk_none (n : Nat) : tk n none = ([], none) := rfl
theorem tk_len (n : Nat) (s : Rs) : (tk n s).1.length ≤ n := by
  unfold tk
  cases s with
  | none => simp
  | some r =>
    simp only
    by_cases hn : n ≤ r.length
    · rw [if_pos hn]; simp; omega
    · rw [if_neg hn]; simp
end

section
set_option linter.unusedVariables false
set_option linter.unusedSimpArgs false
open Go.RowKit Go.Lib

section
variable {P : Program} {W w : World} {I : Nat → Option Obj} {F L : List (Nat × Obj)}
theorem sB_cells (s : ByteArray) : (s.data.map (fun b => Value.int .u8 b.toNat)).toList = (sB s).map bval := by
  unfold sB
  rw [Array.toList_map]
  rfl
theorem run_firstCells_str (s : ByteArray) (w : World) : (Builtin.firstCells 1 s.size (.string s)).run P w = .ok ((sB s).map bval).toArray w := by
  have hx : s.extract 0 s.size = s := by simp
  simp only [Builtin.firstCells, hx]
  rw [← sB_cells, Array.toArray_toList]
  rfl
/-- append of a text onto a row of bytes of the proof's own. -/
theorem run_append_str (t u ty e : TypeId) (z : Value) (bytes : Nat) (ht : P.underlying t = some (.slice e)) (hu : P.underlying u = some .string) (hi : (P.info? e).map (fun i => (i.zero, i.size, i.bytes)) = some (some z, 1, bytes)) (hzs : z.cells.size = 1)
    {v : Value} {n : Nat} {xs : List Value} (hrow : Row e 1 v n xs L) (hst : St W w I (L ++ F)) (s : ByteArray) (h63 : n + s.size ≤ maxLen) (hbytes : (n + s.size) * bytes ≤ 140737488355328) :
    ∃ v' w' L', (Builtin.append_ #[t, u] ty #[v, .string s]).run P w = .ok v' w' ∧ Row e 1 v' (n + s.size) (xs ++ (sB s).map bval) L' ∧ St W w' I (L' ++ F) := by
  obtain ⟨i, hi0, hz, hsize, hby⟩ := info_parts hi
  subst hby
  have hsmall : n + s.size ≤ 9223372036854775807 := by simp only [maxLen] at h63; omega
  have hnl : ((sB s).map bval).length = s.size := by rw [List.length_map, sB_len]
  have hxn := hrow.1
  have hlen : (xs ++ (sB s).map bval).length = (n + s.size) * 1 := by rw [List.length_append, hrow.1, hnl]; omega
  have hone : ∀ u ∈ (sB s).map bval, u.oneCell' = true := by intro u hu; obtain ⟨b, _, rfl⟩ := List.mem_map.1 hu; rfl
  have hf := fun w => run_firstCells_str (P := P) s w
  generalize hnews : (sB s).map bval = news at *
  have grown : ∀ old, old < n + s.size → Row e 1 (.slice (some ⟨w.heap.size, 0, none⟩) (n + s.size) (grownCap w (n + s.size) old e)) (n + s.size) (xs ++ news) [(w.heap.size, .cells (xs.toArray ++ news.toArray ++ Builtin.zeroCells z.cells (grownCap w (n + s.size) old e - (n + s.size))) e (0, 0))] ∧
      St W (w.drew.alloc (.cells (xs.toArray ++ news.toArray ++ Builtin.zeroCells z.cells (grownCap w (n + s.size) old e - (n + s.size))) e)) I ([(w.heap.size, .cells (xs.toArray ++ news.toArray ++ Builtin.zeroCells z.cells (grownCap w (n + s.size) old e - (n + s.size))) e (0, 0))] ++ F) := by
    intro old ho
    have hge := grownCap_ge w (n + s.size) old e
    refine ⟨⟨hlen, .inr ⟨w.heap.size, 0, _, _, rfl, rfl, hge, grownCap_le h63, ?_, ?_⟩⟩, (St.weaken hst).drew1.alloc _⟩
    · simp only [Array.size_append, List.size_toArray, size_zeroCells, hzs, hrow.1, hnl, Nat.zero_add]
      omega
    · simp only [Array.toList_append, List.append_assoc, List.drop_zero]
      rw [← List.append_assoc, ← hlen]
      exact List.take_left
  obtain ⟨hxl, ⟨rfl, rfl, rfl⟩ | ⟨g, off, cap, cur, rfl, rfl, hnc, hcm, hfit, hx⟩⟩ := hrow
  · have hx : xs = [] := List.eq_nil_of_length_eq_zero (by simpa using hxl)
    subst hx
    by_cases h0 : s.size = 0
    · have hnil : news = [] := List.eq_nil_of_length_eq_zero (by omega)
      subst hnil
      refine ⟨.slice none 0 0, w, [], ?_, by rw [h0]; exact Row.nil e 1, by simpa using hst⟩
      simp [Builtin.append_, run_underlying ht, run_underlying hu, sizeOf, typeInfo, hi0, Builtin.lenOf, h0, Builtin.firstCells]
    · have hr := run_append_nil_string (P := P) (w := w) t u ty e i z ht hu hi0 hz s (by omega) (by omega) (by simp only [Nat.zero_add] at hbytes; omega)
      have hgr := grown 0 (by omega)
      simp only [Nat.zero_add, List.nil_append] at hgr ⊢
      refine ⟨_, _, _, hr, hgr.1, ?_⟩
      have e1 : s.data.map (fun b => Value.int .u8 b.toNat) = news.toArray := by
        rw [← hnews, ← sB_cells]
      rw [e1]
      simpa using hgr.2
  · by_cases hroom : n + s.size ≤ cap
    · have hg : w.heap[g]? = some (.cells cur e (0, 0)) := hst.own (g, .cells cur e (0, 0)) (by simp)
      have hcs : off + n * 1 + news.length ≤ cur.size := by omega
      have hs := run_storeCells_at P g (off + n * 1) e news 0 cur w hg (by simpa using hcs) hone
      simp only [Nat.add_zero] at hs
      refine ⟨.slice (some ⟨g, off, none⟩) (n + s.size) cap, _, _, ?_, ⟨hlen, .inr ⟨g, off, cap, (cur.toList.take (off + n * 1) ++ news ++ cur.toList.drop (off + n * 1 + news.length)).toArray, rfl, rfl, hroom, hcm, ?_, ?_⟩⟩, St.setRow (F := F) hst _⟩
      · simp [Builtin.append_, run_underlying ht, run_underlying hu, sizeOf, typeInfo, hi0, hsize, Builtin.lenOf, hroom, hf, Addr.add_lit]
        simp at hs
        simp [hs]
      · simp only [List.size_toArray, List.length_append, List.length_take, List.length_drop, Array.length_toList]
        omega
      · have e1 : (cur.toList.take (off + n * 1)).drop off = xs := by
          rw [List.drop_take, show off + n * 1 - off = n * 1 by omega]
          exact hx
        have e2 : off ≤ (cur.toList.take (off + n * 1)).length := by simp; omega
        simp only [List.append_assoc]
        rw [List.drop_append_of_le_length e2, e1, ← List.append_assoc, ← hlen]
        exact List.take_left
    · have holds : ∀ j u, xs[j]? = some u → w.cell? ((⟨g, off, none⟩ : Addr).add j) = some u := by
        intro j u hj
        have hrow : Row e 1 (.slice (some ⟨g, off, none⟩) n cap) n xs [(g, .cells cur e (0, 0))] := ⟨hxl, .inr ⟨g, off, cap, cur, rfl, rfl, hnc, hcm, hfit, hx⟩⟩
        obtain ⟨ad', h, h'⟩ := (hrow.src fun p hp => hst.own p (List.mem_append.2 (.inl hp))).2 j u hj
        injection h with h
        subst h
        exact h'
      have hgr := grown cap (by omega)
      refine ⟨_, _, _, ?_, hgr.1, hgr.2⟩
      have hn : ¬ (n + s.size ≤ cap) := by omega
      have h63' : ¬ (9223372036854775807 < ((n : Int) + (s.size : Int))) := by omega
      have hgf : Builtin.nextslicecap (n + s.size) cap * i.bytes ≤ 281474976710656 := growslice_fits (by omega) hbytes
      have h48' : ¬ (281474976710656 < Builtin.nextslicecap (n + s.size) cap * i.bytes) := by omega
      have hfo := run_firstCells_some (P := P) w.drew 1 n ⟨g, off, none⟩ n cap xs hxl (by simpa using holds)
      simp [Builtin.append_, run_underlying ht, run_underlying hu, sizeOf, typeInfo, zeroValue, hi0, hz, hsize, Builtin.lenOf, hn, h63', h48', Question.forced, hf, hfo, newRow, grownCap]
      congr 2
      apply Array.ext'
      simp [List.append_assoc]
end

theorem wpList_append_str {P : Program} {W w : World} {I : Nat → Option Obj} {F L : List (Nat × Obj)} {ops : Array Oper} {rest : List Oper} {o : Oper} {a : Act} {Q : Exit → Act → World → Prop} (hgd : o.guard = none) (s x : Operand) (t u : TypeId)
    (ho : o.op = .call { callee := .builtin .append, args := #[s, x], argTypes := #[t, u] })
    (e : TypeId) (z : Value) (bytes : Nat) (ht : P.underlying t = some (.slice e)) (hu : P.underlying u = some .string) (hi : (P.info? e).map (fun i => (i.zero, i.size, i.bytes)) = some (some z, 1, bytes)) (hzs : z.cells.size = 1)
    {v : Value} {n : Nat} {xs : List Value} (hs : a.eval s = v) (hrow : Row e 1 v n xs L) (hst : St W w I (L ++ F)) (str : ByteArray) (hx : a.eval x = .string str)
    (k : Nat) (hk : n + str.size = k) (ys : List Value) (hys : xs ++ (sB str).map bval = ys) (h63 : k ≤ maxLen) (hbytes : k * bytes ≤ 140737488355328)
    (h : ∀ A' c' w' L', Row e 1 (.slice A' k c') k ys L' → St W w' I (L' ++ F) → wpList P ops Q rest (a.put o.dst (.slice A' k c')) w') : wpList P ops Q (o :: rest) a w := by
  subst hk
  subst hys
  refine wpList_plain hgd fun K hK => ?_
  obtain ⟨v', w', L', hr, h2, h3⟩ := run_append_str (P := P) t u o.type e z bytes ht hu hi hzs hrow hst str h63 hbytes
  unfold Oper.wp execOp
  simp only [ho, resolve, invoke, builtin, Sem.run_bind, Sem.run_pure, Result.andThen_ok, List.map_toArray, List.map_cons, List.map_nil, hs, hx, hr]
  obtain ⟨A', c', rfl⟩ := h2.shape
  exact hK _ _ (h A' c' w' L' h2 h3)

/-- A number's bytes, one more. -/
theorem leB_succ : ∀ (k n : Nat), leB n (k + 1) = leB n k ++ [UInt8.ofNat (n / 256 ^ k % 256)]
  | 0, n => by simp [leB]
  | k + 1, n => by
    rw [leB, leB_succ k (n / 256), leB, Nat.div_div_eq_div_mul, Nat.pow_succ, Nat.mul_comm 256 (256 ^ k)]
    rfl
theorem leV_append : ∀ (a b : List UInt8), leV (a ++ b) = leV a + 256 ^ a.length * leV b
  | [], b => by simp [leV]
  | x :: a, b => by
    simp only [List.cons_append, leV, leV_append a b, List.length_cons, Nat.pow_succ, Nat.mul_add]
    rw [Nat.mul_comm (256 ^ a.length) 256, Nat.mul_assoc]
    omega
theorem bval_ofNat (n : Nat) (h : n < 256) : bval (UInt8.ofNat n) = .int .u8 (n : Int) := by
  unfold bval
  rw [UInt8.toNat_ofNat', Nat.mod_eq_of_lt h]
end
end Go.Proofs.YtpjfmgifddoppaaDoor
