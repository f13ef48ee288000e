/- code: what bytes are made of: append of a text; what is plain. code: within, Fixed: walks. code: a reader: walks. code: a number is read (a range over slices.Backward): walk. code: a text is read, texts are written: walks. -/
import Derived.Test.YtfbffmckmchbbaaDoorManP
import Derived.Test.YtfbffmckmchbbaaDoorSlices
import Derived.Test.YtfbffmckmchbbaaDoorMbP
import Derived.Test.YtfbffmckmchbbaaDoorRngM
namespace Go.Proofs.YtfbffmckmchbbaaDoor
section
set_option linter.unusedVariables false
set_option linter.unusedSimpArgs false
open Go.RowKit Go.Lib

section
variable {P : Program} {W w : World} {I : Nat → Option Obj} {F L : List (Nat × Obj)}
theorem sB_cells (s : ByteArray) : (s.data.map (fun b => Value.int .u8 b.toNat)).toList = (sB s).map bval := by
  unfold sB
  rw [Array.toList_map]
  rfl
theorem run_firstCells_str (s : ByteArray) (w : World) : (Builtin.firstCells 1 s.size (.string s)).run P w = .ok ((sB s).map bval).toArray w := by
  have hx : s.extract 0 s.size = s := by simp
  simp only [Builtin.firstCells, hx]
  rw [← sB_cells, Array.toArray_toList]
  rfl
/-- append of a text onto a row of bytes of the proof's own. -/
theorem run_append_str (t u ty e : TypeId) (z : Value) (bytes : Nat) (ht : P.underlying t = some (.slice e)) (hu : P.underlying u = some .string) (hi : (P.info? e).map (fun i => (i.zero, i.size, i.bytes)) = some (some z, 1, bytes)) (hzs : z.cells.size = 1)
    {v : Value} {n : Nat} {xs : List Value} (hrow : Row e 1 v n xs L) (hst : St W w I (L ++ F)) (s : ByteArray) (h63 : n + s.size ≤ maxLen) (hbytes : (n + s.size) * bytes ≤ 140737488355328) :
    ∃ v' w' L', (Builtin.append_ #[t, u] ty #[v, .string s]).run P w = .ok v' w' ∧ Row e 1 v' (n + s.size) (xs ++ (sB s).map bval) L' ∧ St W w' I (L' ++ F) := by
  obtain ⟨i, hi0, hz, hsize, hby⟩ := info_parts hi
  subst hby
  have hsmall : n + s.size ≤ 9223372036854775807 := by simp only [maxLen] at h63; omega
  have hnl : ((sB s).map bval).length = s.size := by rw [List.length_map, sB_len]
  have hxn := hrow.1
  have hlen : (xs ++ (sB s).map bval).length = (n + s.size) * 1 := by rw [List.length_append, hrow.1, hnl]; omega
  have hone : ∀ u ∈ (sB s).map bval, u.oneCell' = true := by intro u hu; obtain ⟨b, _, rfl⟩ := List.mem_map.1 hu; rfl
  have hf := fun w => run_firstCells_str (P := P) s w
  generalize hnews : (sB s).map bval = news at *
  have grown : ∀ old, old < n + s.size → Row e 1 (.slice (some ⟨w.heap.size, 0, none⟩) (n + s.size) (grownCap w (n + s.size) old e)) (n + s.size) (xs ++ news) [(w.heap.size, .cells (xs.toArray ++ news.toArray ++ Builtin.zeroCells z.cells (grownCap w (n + s.size) old e - (n + s.size))) e (0, 0))] ∧
      St W (w.drew.alloc (.cells (xs.toArray ++ news.toArray ++ Builtin.zeroCells z.cells (grownCap w (n + s.size) old e - (n + s.size))) e)) I ([(w.heap.size, .cells (xs.toArray ++ news.toArray ++ Builtin.zeroCells z.cells (grownCap w (n + s.size) old e - (n + s.size))) e (0, 0))] ++ F) := by
    intro old ho
    have hge := grownCap_ge w (n + s.size) old e
    refine ⟨⟨hlen, .inr ⟨w.heap.size, 0, _, _, rfl, rfl, hge, grownCap_le h63, ?_, ?_⟩⟩, (St.weaken hst).drew1.alloc _⟩
    · simp only [Array.size_append, List.size_toArray, size_zeroCells, hzs, hrow.1, hnl, Nat.zero_add]
      omega
    · simp only [Array.toList_append, List.append_assoc, List.drop_zero]
      rw [← List.append_assoc, ← hlen]
      exact List.take_left
  obtain ⟨hxl, ⟨rfl, rfl, rfl⟩ | ⟨g, off, cap, cur, rfl, rfl, hnc, hcm, hfit, hx⟩⟩ := hrow
  · have hx : xs = [] := List.eq_nil_of_length_eq_zero (by simpa using hxl)
    subst hx
    by_cases h0 : s.size = 0
    · have hnil : news = [] := List.eq_nil_of_length_eq_zero (by omega)
      subst hnil
      refine ⟨.slice none 0 0, w, [], ?_, by rw [h0]; exact Row.nil e 1, by simpa using hst⟩
      simp [Builtin.append_, run_underlying ht, run_underlying hu, sizeOf, typeInfo, hi0, Builtin.lenOf, h0, Builtin.firstCells]
    · have hr := run_append_nil_string (P := P) (w := w) t u ty e i z ht hu hi0 hz s (by omega) (by omega) (by simp only [Nat.zero_add] at hbytes; omega)
      have hgr := grown 0 (by omega)
      simp only [Nat.zero_add, List.nil_append] at hgr ⊢
      refine ⟨_, _, _, hr, hgr.1, ?_⟩
      have e1 : s.data.map (fun b => Value.int .u8 b.toNat) = news.toArray := by
        rw [← hnews, ← sB_cells]
      rw [e1]
      simpa using hgr.2
  · by_cases hroom : n + s.size ≤ cap
    · have hg : w.heap[g]? = some (.cells cur e (0, 0)) := hst.own (g, .cells cur e (0, 0)) (by simp)
      have hcs : off + n * 1 + news.length ≤ cur.size := by omega
      have hs := run_storeCells_at P g (off + n * 1) e news 0 cur w hg (by simpa using hcs) hone
      simp only [Nat.add_zero] at hs
      refine ⟨.slice (some ⟨g, off, none⟩) (n + s.size) cap, _, _, ?_, ⟨hlen, .inr ⟨g, off, cap, (cur.toList.take (off + n * 1) ++ news ++ cur.toList.drop (off + n * 1 + news.length)).toArray, rfl, rfl, hroom, hcm, ?_, ?_⟩⟩, St.setRow (F := F) hst _⟩
      · simp [Builtin.append_, run_underlying ht, run_underlying hu, sizeOf, typeInfo, hi0, hsize, Builtin.lenOf, hroom, hf, Addr.add_lit]
        simp at hs
        simp [hs]
      · simp only [List.size_toArray, List.length_append, List.length_take, List.length_drop, Array.length_toList]
        omega
      · have e1 : (cur.toList.take (off + n * 1)).drop off = xs := by
          rw [List.drop_take, show off + n * 1 - off = n * 1 by omega]
          exact hx
        have e2 : off ≤ (cur.toList.take (off + n * 1)).length := by simp; omega
        simp only [List.append_assoc]
        rw [List.drop_append_of_le_length e2, e1, ← List.append_assoc, ← hlen]
        exact List.take_left
    · have holds : ∀ j u, xs[j]? = some u → w.cell? ((⟨g, off, none⟩ : Addr).add j) = some u := by
        intro j u hj
        have hrow : Row e 1 (.slice (some ⟨g, off, none⟩) n cap) n xs [(g, .cells cur e (0, 0))] := ⟨hxl, .inr ⟨g, off, cap, cur, rfl, rfl, hnc, hcm, hfit, hx⟩⟩
        obtain ⟨ad', h, h'⟩ := (hrow.src fun p hp => hst.own p (List.mem_append.2 (.inl hp))).2 j u hj
        injection h with h
        subst h
        exact h'
      have hgr := grown cap (by omega)
      refine ⟨_, _, _, ?_, hgr.1, hgr.2⟩
      have hn : ¬ (n + s.size ≤ cap) := by omega
      have h63' : ¬ (9223372036854775807 < ((n : Int) + (s.size : Int))) := by omega
      have hgf : Builtin.nextslicecap (n + s.size) cap * i.bytes ≤ 281474976710656 := growslice_fits (by omega) hbytes
      have h48' : ¬ (281474976710656 < Builtin.nextslicecap (n + s.size) cap * i.bytes) := by omega
      have hfo := run_firstCells_some (P := P) w.drew 1 n ⟨g, off, none⟩ n cap xs hxl (by simpa using holds)
      simp [Builtin.append_, run_underlying ht, run_underlying hu, sizeOf, typeInfo, zeroValue, hi0, hz, hsize, Builtin.lenOf, hn, h63', h48', Question.forced, hf, hfo, newRow, grownCap]
      congr 2
      apply Array.ext'
      simp [List.append_assoc]
end

theorem wpList_append_str {P : Program} {W w : World} {I : Nat → Option Obj} {F L : List (Nat × Obj)} {ops : Array Oper} {rest : List Oper} {o : Oper} {a : Act} {Q : Exit → Act → World → Prop} (hgd : o.guard = none) (s x : Operand) (t u : TypeId)
    (ho : o.op = .call { callee := .builtin .append, args := #[s, x], argTypes := #[t, u] })
    (e : TypeId) (z : Value) (bytes : Nat) (ht : P.underlying t = some (.slice e)) (hu : P.underlying u = some .string) (hi : (P.info? e).map (fun i => (i.zero, i.size, i.bytes)) = some (some z, 1, bytes)) (hzs : z.cells.size = 1)
    {v : Value} {n : Nat} {xs : List Value} (hs : a.eval s = v) (hrow : Row e 1 v n xs L) (hst : St W w I (L ++ F)) (str : ByteArray) (hx : a.eval x = .string str)
    (k : Nat) (hk : n + str.size = k) (ys : List Value) (hys : xs ++ (sB str).map bval = ys) (h63 : k ≤ maxLen) (hbytes : k * bytes ≤ 140737488355328)
    (h : ∀ A' c' w' L', Row e 1 (.slice A' k c') k ys L' → St W w' I (L' ++ F) → wpList P ops Q rest (a.put o.dst (.slice A' k c')) w') : wpList P ops Q (o :: rest) a w := by
  subst hk
  subst hys
  refine wpList_plain hgd fun K hK => ?_
  obtain ⟨v', w', L', hr, h2, h3⟩ := run_append_str (P := P) t u o.type e z bytes ht hu hi hzs hrow hst str h63 hbytes
  unfold Oper.wp execOp
  simp only [ho, resolve, invoke, builtin, Sem.run_bind, Sem.run_pure, Result.andThen_ok, List.map_toArray, List.map_cons, List.map_nil, hs, hx, hr]
  obtain ⟨A', c', rfl⟩ := h2.shape
  exact hK _ _ (h A' c' w' L' h2 h3)

/-- A number's bytes, one more. -/
theorem leB_succ : ∀ (k n : Nat), leB n (k + 1) = leB n k ++ [UInt8.ofNat (n / 256 ^ k % 256)]
  | 0, n => by simp [leB]
  | k + 1, n => by
    rw [leB, leB_succ k (n / 256), leB, Nat.div_div_eq_div_mul, Nat.pow_succ, Nat.mul_comm 256 (256 ^ k)]
    rfl
theorem leV_append : ∀ (a b : List UInt8), leV (a ++ b) = leV a + 256 ^ a.length * leV b
  | [], b => by simp [leV]
  | x :: a, b => by
    simp only [List.cons_append, leV, leV_append a b, List.length_cons, Nat.pow_succ, Nat.mul_add]
    rw [Nat.mul_comm (256 ^ a.length) 256, Nat.mul_assoc]
    omega
theorem bval_ofNat (n : Nat) (h : n < 256) : bval (UInt8.ofNat n) = .int .u8 (n : Int) := by
  unfold bval
  rw [UInt8.toNat_ofNat', Nat.mod_eq_of_lt h]
end

section
set_option linter.unusedVariables false
set_option linter.unusedSimpArgs false
open Go.RowKit Go.Lib

section
variable {W w : World} {I : Nat → Option Obj} {F : List (Nat × Obj)}
theorem within_any (k : Nat) (hk : k ≤ 8) (w : World) : Calls Tryd.prog 61 #[.int .i64 k] w fun e w' => e = .returned (.int .i64 k) ∧ w' = w := by
  have h1 : min (k : Int) 8 = k := by omega
  have h2 : max (0 : Int) k = k := by omega
  go_enter Tryd.func61, Tryd.ntmps61
  go_wp2_with fail
  go_ret
  exact ⟨rfl, rfl⟩

set_option maxRecDepth 100000 in
set_option maxHeartbeats 2000000 in
theorem cfixed (p : Part) (hp : p.In W I) (hl : p.bs.length ≤ 1000000) (n k : Nat) (hn : n < 18446744073709551616) (hk : k ≤ 8) (h : St W w I F) :
    Calls Tryd.prog 40 #[p.val, .int .u64 n, .int .i64 k] w fun e w' => ∃ v, e = .returned v ∧ FreshB W w' I F (p.bs ++ leB n k) v := by
  have kC := clone_bytes p hp (by omega) h
  have kW := within_any k hk
  obtain ⟨A0, cap, bs⟩ := p
  simp only [Part.val] at kC hl ⊢
  have KC := Lib.hid kC; have KW := Lib.hid kW
  clear kC kW h hp
  go_enter Tryd.func40, Tryd.ntmps40
  go_wp2_with fail
  refine KC.out.mono ?_
  rintro e w1 ⟨v, rfl, A1, c1, L1, rfl, hr1, h1⟩
  have H1 := Lib.hid h1; have HR := Lib.hid hr1
  clear h1 hr1 KC
  go_wp2_with fail
  refine (KW.out _).mono ?_
  rintro e w2 ⟨rfl, rfl⟩
  clear KW
  go_wp2_with fail
  go_loopw [7, 1, 12] (fun o x i wr => ∃ (j : Nat) (A : Option Addr) (c : Nat) (L0 : List (Nat × Obj)), i = .int .i64 j ∧ j ≤ k ∧ x = .int .u64 (n / 256 ^ j : Nat) ∧ o = .slice A (bs.length + j) c ∧ Row 5 1 (.slice A (bs.length + j) c) (bs.length + j) ((bs ++ leB n j).map bval) L0 ∧ St W wr I (L0 ++ F)) (fun _ _ i _ => k - (intOf i).toNat)
  case atStart => exact ⟨0, A1, c1, L1, rfl, by omega, by simp, by simp, by simpa [leB] using HR.out, H1.out⟩
  case round =>
    obtain ⟨j, A, c, L0, rfl, hj, rfl, rfl, hrow, hst⟩ := hrel
    clear H1 HR
    by_cases hjk : j < k
    · have hx : n / 256 ^ j < 18446744073709551616 := Nat.lt_of_le_of_lt (Nat.div_le_self _ _) hn
      have hsucc := leB_succ j n
      have hnext : n / 256 ^ (j + 1) = n / 256 ^ j / 256 := by rw [Nat.pow_succ, Nat.div_div_eq_div_mul]
      generalize n / 256 ^ j = x at *
      have hbv := bval_ofNat (x % 256) (Nat.mod_lt _ (by omega))
      have HROW := Lib.hid hrow; have HST := Lib.hid hst; have HS := Lib.hid hsucc; have HN := Lib.hid hnext; have HBV := Lib.hid hbv
      clear hrow hst hsucc hnext hbv
      go_wp2_with (at_builtin; refine Hid.out ?_)
      refine Lib.hid ?_
      refine wpList_append_row (F := F) rfl (.tmp 14) (.tmp 17) 22 rfl 5 (.int .u8 0) 1 1 Tryd.underlying22 (by kernel_rfl) rfl (by omega) rfl HROW.out (St.alloc_ HST.out _) rfl (Src.one wr (.int .u8 ((x : Int) % 256)) 5) (by intro u hu; simp at hu; subst hu; rfl) (bs.length + (j + 1)) (by omega) ((bs ++ leB n (j + 1)).map bval) (by rw [HS.out, ← List.append_assoc, List.map_append (l₁ := bs ++ leB n j), List.map_cons, HBV.out]; simp) (by unfold maxLen; omega) (by omega) ?_
      intro A5 c5 w5 L5 hr5 h5
      have H5 := Lib.hid h5; have HR5 := Lib.hid hr5
      clear h5 hr5 HROW HST HS HBV
      go_wp2_with fail
      refine ⟨⟨j + 1, A5, c5, L5, by go_num, by omega, by rw [HN.out]; rfl, rfl, HR5.out, H5.out⟩, ?_⟩
      simp [intOf]; omega
    · obtain rfl : j = k := by omega
      have HROW := Lib.hid hrow; have HST := Lib.hid hst
      clear hrow hst
      go_wp2_with fail
      go_ret
      have el : (bs ++ leB n j).length = bs.length + j := by rw [List.length_append, leB_len]
      refine ⟨_, rfl, A, c, L0, by simp [leB_len], ?_, HST.out⟩
      rw [el]
      exact HROW.out
end
end

section
set_option linter.unusedVariables false
set_option linter.unusedSimpArgs false
open Go.RowKit Go.Lib

section
variable {W w : World} {I : Nat → Option Obj} {F : List (Nat × Obj)} {g : Nat} {s : Rs}
/-- What a reader holds. -/
def Rd (W : World) (I : Nat → Option Obj) : Rs → Option Addr → Nat → Nat → Int → Prop
  | some r, A, n, c, e => e = 0 ∧ n = r.length ∧ r.length ≤ 1000000 ∧ r.length ≤ c ∧ Part.In ⟨A, c, r⟩ W I
  | none, A, n, c, e => (e = 51 ∨ e = 52) ∧ A = none ∧ n = 0 ∧ c = 0
def RSt (W w : World) (I : Nat → Option Obj) (g : Nat) (s : Rs) (F : List (Nat × Obj)) : Prop :=
  ∃ A n c e, Rd W I s A n c e ∧ St W w I ((g, .cells #[.slice A n c, .int .i64 e] 88 (0, 0)) :: F)
def rcells (A : Option Addr) (n c : Nat) (e : Int) : Array Value := #[.slice A n c, .int .i64 e]
theorem RSt.facts {A : Option Addr} {n c : Nat} {e : Int} (h : St W w I ((g, .cells #[.slice A n c, .int .i64 e] 88 (0, 0)) :: F)) :
    w.cell? ⟨g, 0, none⟩ = some (.slice A n c) ∧ w.cell? ⟨g, 1, none⟩ = some (.int .i64 e) ∧ w.frozen? ⟨g, 0, none⟩ = false ∧ w.frozen? ⟨g, 1, none⟩ = false := by
  have hc := h.cell (g := g) (t := 88) (fr := (0, 0)) (List.mem_cons_self ..)
  have hf := h.frozen (g := g) (t := 88) (List.mem_cons_self ..)
  exact ⟨hc 0, hc 1, hf 0, hf 1⟩

set_option maxRecDepth 100000 in
set_option maxHeartbeats 1000000 in
theorem code_new (p : Part) (hp : p.In W I) (hl : p.bs.length ≤ 1000000) (hc : p.bs.length ≤ p.c) (h : St W w I F) :
    Calls Tryd.prog 30 #[p.val] w fun e w' => e = .returned (.pointer (some ⟨w.heap.size, 0, none⟩)) ∧ RSt W w' I w.heap.size (some p.bs) F := by
  have h1 := h.alloc (.cells #[.slice p.A p.bs.length p.c, .int .i64 0] 88)
  have hR : RSt W (w.alloc (.cells #[.slice p.A p.bs.length p.c, .int .i64 0] 88)) I w.heap.size (some p.bs) F := ⟨_, _, _, _, ⟨rfl, rfl, hl, hc, hp⟩, h1⟩
  have HR := Lib.hid hR
  clear hR h1 h hp
  unfold Part.val
  go_enter Tryd.func30, Tryd.ntmps30
  go_wp2_with fail
  go_ret
  exact ⟨rfl, HR.out⟩

set_option maxRecDepth 100000 in
set_option maxHeartbeats 1000000 in
theorem code_fail (h : RSt W w I g s F) (x : Int) (hx : x = 51 ∨ x = 52) :
    Calls Tryd.prog 58 #[.pointer (some ⟨g, 0, none⟩), .int .i64 x] w fun e w' => e = .returned (.tuple #[]) ∧ RSt W w' I g none F := by
  obtain ⟨A, n, c, e, hr, hst⟩ := h
  obtain ⟨q0, q1, f0, f1⟩ := RSt.facts hst
  have h2 := St.set (A := []) hst 1 (.int .i64 x)
  have h3 := St.set (A := []) h2 0 (.slice none 0 0)
  have h4 := St.set (A := []) hst 0 (.slice none 0 0)
  have f2 := (RSt.facts (A := A) (n := n) (c := c) (e := x) h2).2.2.1
  have H3 := Lib.hid h3; have H4 := Lib.hid h4; have HR := Lib.hid hr
  by_cases he : e = 0
  · subst he
    clear h2 h3 h4 hst hr
    go_enter Tryd.func58, Tryd.ntmps58
    go_wp2_with fail
    refine ⟨rfl, .tuple #[], by simp [results, Tryd.f58], ?_⟩
    exact ⟨rfl, none, 0, 0, x, ⟨hx, rfl, rfl, rfl⟩, H3.out⟩
  · have he2 : e = 51 ∨ e = 52 := by
      cases s with
      | none => exact hr.1
      | some r => exact absurd hr.1 he
    clear h2 h3 h4 hst hr
    go_enter Tryd.func58, Tryd.ntmps58
    go_wp2_with fail
    refine ⟨rfl, .tuple #[], by simp [results, Tryd.f58], ?_⟩
    exact ⟨rfl, none, 0, 0, e, ⟨he2, rfl, rfl, rfl⟩, H4.out⟩

/-- What take leaves. -/
def TkPost (W : World) (I : Nat → Option Obj) (g : Nat) (s : Rs) (n : Nat) (F : List (Nat × Obj)) (e : Ending) (w' : World) : Prop :=
  ∃ p : Part, e = .returned p.val ∧ p.bs = (tk n s).1 ∧ p.bs.length ≤ 1000000 ∧ p.bs.length ≤ p.c ∧ p.In W I ∧ RSt W w' I g (tk n s).2 F

set_option maxRecDepth 100000 in
set_option maxHeartbeats 1000000 in
theorem code_take (h : RSt W w I g s F) (n : Nat) (hn : n ≤ 9223372036854775807) :
    Calls Tryd.prog 59 #[.pointer (some ⟨g, 0, none⟩), .int .i64 n] w (TkPost W I g s n F) := by
  have kF := code_fail h 51 (.inl rfl)
  have hmax : max (n : Int) 0 = n := by omega
  obtain ⟨A, k, c, e, hr, hst⟩ := h
  obtain ⟨q0, q1, f0, f1⟩ := RSt.facts hst
  have KF := Lib.hid kF
  cases s with
  | none =>
    obtain ⟨he, rfl, rfl, rfl⟩ := hr
    have he0 : e ≠ 0 := by rintro rfl; rcases he with h | h <;> cases h
    clear kF hst
    go_enter Tryd.func59, Tryd.ntmps59
    go_wp2_with fail
    refine KF.out.mono ?_
    rintro e1 w1 ⟨rfl, h1⟩
    have H1 := Lib.hid h1
    clear h1 KF
    go_wp2_with fail
    go_ret
    exact ⟨⟨none, 0, []⟩, rfl, rfl, by simp, by simp, Part.In_nil _ _, H1.out⟩
  | some r =>
    obtain ⟨rfl, rfl, hl, hc, hin⟩ := hr
    by_cases hnr : n ≤ r.length
    · have h2 := St.set (A := []) hst 0 (.slice (subA A c n) (r.length - n) (c - n))
      have htk : tk n (some r) = (r.take n, some (r.drop n)) := if_pos hnr
      have hR : RSt W (w.setCell ⟨g, 0, none⟩ (.slice (subA A c n) (r.length - n) (c - n))) I g (some (r.drop n)) F := by
        refine ⟨_, r.length - n, _, _, ⟨rfl, by simp, by simp; omega, by simp; omega, Part.In_drop (c - n) n hc hin⟩, h2⟩
      have sl1 := fun w => run_slice_to Tryd.underlying22 Tryd.sizeOf5 A r.length c n (by omega) w
      have sl2 := fun w => run_slice_from Tryd.underlying22 Tryd.sizeOf5 A r.length c n hnr hc w
      have HR := Lib.hid hR; have HT := Lib.hid htk; have HIN := Lib.hid hin
      clear kF hst h2 hR htk hin KF
      generalize hrl : r.length = rl at *
      have hgt : ¬ ((rl : Int) < (n : Int)) := by omega
      go_enter Tryd.func59, Tryd.ntmps59
      go_wp2_with fail
      go_ret
      refine ⟨⟨A, c, r.take n⟩, ?_, by rw [HT.out], by simp; omega, by simp; omega, Part.In_take c n HIN.out, by rw [HT.out]; exact HR.out⟩
      simp [Part.val, hrl, Nat.min_eq_left hnr]
    · have htk : tk n (some r) = ([], none) := if_neg hnr
      have HT := Lib.hid htk
      clear kF hst htk hin
      generalize hrl : r.length = rl at *
      have hgt : ((rl : Int) < (n : Int)) := by omega
      go_enter Tryd.func59, Tryd.ntmps59
      go_wp2_with fail
      refine KF.out.mono ?_
      rintro e1 w1 ⟨rfl, h1⟩
      have H1 := Lib.hid h1
      clear h1 KF
      go_wp2_with fail
      go_ret
      exact ⟨⟨none, 0, []⟩, rfl, by rw [HT.out], by simp, by simp, Part.In_nil _ _, by rw [HT.out]; exact H1.out⟩

/-- What Raw leaves. -/
def RawPost (W : World) (I : Nat → Option Obj) (g : Nat) (bs : List UInt8) (s' : Rs) (F : List (Nat × Obj)) (e : Ending) (w' : World) : Prop :=
  ∃ A c L', e = .returned (.slice A bs.length c) ∧ Row 5 1 (.slice A bs.length c) bs.length (bs.map bval) L' ∧ RSt W w' I g s' (L' ++ F)

set_option maxRecDepth 100000 in
set_option maxHeartbeats 1000000 in
theorem code_raw (h : RSt W w I g s F) (n : Nat) (hn : n ≤ 9223372036854775807) :
    Calls Tryd.prog 62 #[.pointer (some ⟨g, 0, none⟩), .int .i64 n] w (RawPost W I g (tk n s).1 (tk n s).2 F) := by
  have kT := code_take h n hn
  have KT := Lib.hid kT
  clear kT h
  go_enter Tryd.func62, Tryd.ntmps62
  go_wp2_with fail
  refine KT.out.mono ?_
  rintro e w1 ⟨p, rfl, hb, hl, hc, hin, A, k, c, e, hr, hst⟩
  have HB := Lib.hid hb
  have kC := clone_bytes p hin (by omega) hst
  unfold Part.val at kC ⊢
  have KC := Lib.hid kC; have HR := Lib.hid hr
  clear kC hst hr KT hin hb
  go_wp2_with fail
  refine KC.out.mono ?_
  rintro e1 w2 ⟨v, rfl, A1, c1, L1, rfl, hr1, h1⟩
  have H1 := Lib.hid h1; have HR1 := Lib.hid hr1
  clear h1 hr1 KC
  go_wp2_with fail
  go_ret
  have hb := HB.out
  refine ⟨A1, c1, L1, by rw [← hb]; rfl, by rw [← hb]; exact HR1.out, _, _, _, _, HR.out, St.swap (B := [_]) H1.out⟩

set_option maxRecDepth 100000 in
set_option maxHeartbeats 1000000 in
theorem code_end (h : RSt W w I g s F) :
    Calls Tryd.prog 34 #[.pointer (some ⟨g, 0, none⟩)] w fun e w' => ∃ x : Int, e = .returned (.int .i64 x) ∧ (x = 0 ↔ s = some []) ∧ w = w' := by
  obtain ⟨A, k, c, e, hr, hst⟩ := h
  obtain ⟨q0, q1, f0, f1⟩ := RSt.facts hst
  clear hst
  cases s with
  | none =>
    obtain ⟨he, rfl, rfl, rfl⟩ := hr
    have he0 : e ≠ 0 := by rintro rfl; rcases he with h | h <;> cases h
    go_enter Tryd.func34, Tryd.ntmps34
    go_wp2_with fail
    go_ret
    exact ⟨_, rfl, by simp [he0], rfl⟩
  | some r =>
    obtain ⟨rfl, rfl, hl, hc, hin⟩ := hr
    clear hin
    cases r with
    | nil =>
      simp only [List.length_nil] at q0
      go_enter Tryd.func34, Tryd.ntmps34
      go_wp2_with fail
      go_ret
      exact ⟨_, rfl, by simp, rfl⟩
    | cons b r =>
      have hpos : (0 : Int) < ((b :: r).length : Nat) := by simp
      generalize hrl : (b :: r).length = rl at *
      go_enter Tryd.func34, Tryd.ntmps34
      go_wp2_with fail
      go_ret
      exact ⟨_, rfl, by simp, rfl⟩
end
end

section
set_option linter.unusedVariables false
set_option linter.unusedSimpArgs false
open Go.RowKit Go.Lib Go.Shelf
attribute [local go_sem] Oper.semAt_some

theorem cell_congr {A B : World} {a : Addr} (h : B.heap[a.block]? = A.heap[a.block]?) : B.cell? a = A.cell? a := by
  unfold World.cell?
  rw [h]
theorem add_block (a : Addr) (j : Nat) : (a.add j).block = a.block := by
  unfold Addr.add
  split <;> rfl
/-- The slice that is gone through, and where its bytes lie. -/
structure BackAt (A0 : Option Addr) (bs : List UInt8) (cap b1 bd : Nat) (W : World) : Prop where
  s : W.heap[b1]? = some (.cells #[.slice A0 bs.length cap] 22 (0, 0))
  at_ : ∀ j u, (bs.map bval)[j]? = some u → ∃ ad, A0 = some ad ∧ ad.block = bd ∧ W.cell? (ad.add j) = some u
theorem BackAt.kept {A0 : Option Addr} {bs : List UInt8} {cap b1 bd : Nat} {A B : World} (h : BackAt A0 bs cap b1 bd A) (k : Kc b1 bd A B) : BackAt A0 bs cap b1 bd B :=
  ⟨(k _ (.inl rfl)).trans h.s, fun j u hj => by
    obtain ⟨ad, h1, h2, h3⟩ := h.at_ j u hj
    exact ⟨ad, h1, h2, (cell_congr (k _ (.inr (by rw [add_block]; exact h2)))).trans h3⟩⟩
def benc (bs : List UInt8) (k : Nat) : Array Value := #[.int .i64 ((bs.length - 1 - k : Nat) : Int), bval (bs.getD (bs.length - 1 - k) 0)]

set_option maxRecDepth 100000 in
set_option maxHeartbeats 1000000 in
theorem back1_in (n : Nat) (hn : 1 ≤ n) (l b1 bd : Nat) (A0 : Option Addr) (cap : Nat) (bs : List UInt8) (hl : bs.length ≤ 1000000) (hcap : bs.length ≤ cap) (J Jx : List Nat → World → Prop)
    (hY : ∀ pre x W, J pre W → pre.length < bs.length → YieldAt Fence.wide (n - 1) Tryd.prog l (benc bs x) W fun e W' =>
      (e = .returned (.bool true) ∧ J (pre ++ [x]) W' ∧ Kc b1 bd W W') ∨ (e = .returned (.bool false) ∧ Jx (pre ++ [x]) W'))
    (W : World) (hR : BackAt A0 bs cap b1 bd W) (h0 : J [] W) :
    CallsIn Fence.wide n Tryd.prog 85 #[.func (.yield l) #[] #[], .pointer (some ⟨b1, 0, none⟩)] W (ChunkDone J Jx bs.length) := by
  have cells : ∀ wr, BackAt A0 bs cap b1 bd wr → wr.cell? ⟨b1, 0, none⟩ = some (.slice A0 bs.length cap) := fun wr h => cell_of_row wr _ 0 _ _ _ h.s
  have CELLS := Lib.hid cells
  have c1 := cells W hR
  refine callsIn_of_wp Tryd.func85 rfl trivial ?_ rfl
  simp only [Tryd.ntmps85, List.size_toArray, List.length_cons, List.length_nil, Nat.reduceAdd, Nat.reduceSub, Array.replicate_succ, Array.replicate_zero, List.push_toArray, List.append_toArray, List.nil_append, List.cons_append]
  gi_wp2
  clear c1 cells
  gi_loopw [3] (fun i wr => ∃ k : Nat, k ≤ bs.length ∧ i = .int .i64 ((bs.length : Int) - 1 - k) ∧ J (List.range k) wr ∧ BackAt A0 bs cap b1 bd wr) (fun i _ => (intOf i + 1).toNat)
  case atStart => exact ⟨0, Nat.zero_le _, by simp, h0, hR⟩
  case round =>
    obtain ⟨k, hk, rfl, hJs, hr⟩ := hrel
    clear h0 hR
    have c1 := CELLS.out wr hr
    by_cases hkl : k < bs.length
    · obtain ⟨m, hm⟩ : ∃ m, m = bs.length - 1 - k := ⟨_, rfl⟩
      have hmi : (bs.length : Int) - 1 - k = (m : Int) := by omega
      have hml : m < bs.length := by omega
      obtain ⟨x, hx⟩ : ∃ x, bs.getD m 0 = x := ⟨_, rfl⟩
      have hx2 : (bs.map bval)[m]? = some (bval x) := by
        rw [List.getElem?_map, List.getElem?_eq_getElem hml, ← hx, List.getD_eq_getElem?_getD, List.getElem?_eq_getElem hml]
        rfl
      obtain ⟨ad, hA, hb, hc⟩ := hr.at_ m _ hx2
      have hyld := hY (List.range k) k wr hJs (by rw [List.length_range]; exact hkl)
      unfold benc at hyld
      rw [← hm, hx] at hyld
      unfold bval at hyld hc
      have hyd : ∃ fn tmps assign body, (Instr.yield l #[.int .i64 (m : Int), .int .u8 (x.toNat : Int)]).run Tryd.prog wr = .ok (.round l fn tmps assign body) wr ∧ RoundIn Fence.wide (n - 1) Tryd.prog l fn tmps assign body wr fun e W' => ∃ b, e = .returned (.bool b) ∧ CPost J Jx b1 bd (List.range k) k wr b W' := by
        refine YieldAt.mono hyld ?_
        rintro e W' (⟨rfl, h1, h2⟩ | ⟨rfl, h1⟩)
        · exact ⟨true, rfl, h1, h2⟩
        · exact ⟨false, rfl, h1⟩
      obtain ⟨fn, tmps, assign, body, hy, hR2⟩ := hyd
      have HR2 := Lib.hid hR2; have HKL := Lib.hid hkl
      subst hA
      clear hyld hR2 hx hx2 hJs hb
      have hm0 : (0 : Int) ≤ (m : Int) := by omega
      have hml2 : (m : Int) < (bs.length : Int) := by omega
      rw [hmi]
      have HMI := Lib.hid hmi
      clear hmi hm
      generalize hbl : bs.length = bl at *
      gi_wp2
      refine HR2.out.mono ?_
      rintro e W3 ⟨b, rfl, hb⟩
      clear HR2
      cases b with
      | true =>
        obtain ⟨hJ3, hk3⟩ := hb
        have d1 := CELLS.out W3 (hr.kept hk3)
        clear c1 hc hy
        gi_wp2
        go_roundw
        have hmi := HMI.out
        case rel => exact ⟨k + 1, by omega, by rw [show (m : Int) - 1 = (bl : Int) - 1 - ((k + 1 : Nat) : Int) by omega], by rw [List.range_succ]; exact hJ3, hr.kept hk3⟩
        case measure =>
          simp [intOf]
      | false =>
        have hJx3 : Jx _ _ := hb
        clear c1 hc hy
        gi_wp2
        refine bodyPost_ret (results_none rfl _ _ _) rfl ?_
        exact ⟨⟨_, rfl⟩, .inr ⟨_, ⟨k + 1, by omega, by rw [List.range_succ]⟩, hJx3⟩⟩
    · obtain rfl : k = bs.length := by omega
      have hneg : (bs.length : Int) - 1 - (bs.length : Int) = -1 := by omega
      rw [hneg]
      have HJS := Lib.hid hJs
      clear hJs
      gi_wp2
      go_end0
      exact ⟨⟨_, rfl⟩, .inl ⟨_, rfl, HJS.out⟩⟩

theorem back_stops (n : Nat) (hn : 1 ≤ n) (b1 bd : Nat) (A0 : Option Addr) (cap : Nat) (bs : List UInt8) (hl : bs.length ≤ 1000000) (hcap : bs.length ≤ cap) (w : World) (h1 : b1 < w.heap.size) (h2 : bd < w.heap.size) (hR : BackAt A0 bs cap b1 bd w) :
    SeqStopsK Fence.wide n Tryd.prog 85 #[.pointer (some ⟨b1, 0, none⟩)] (fun k : Nat => benc bs k) (Kc b1 bd) (fun ys => ys = List.range bs.length) (fun pre => ∃ k, k ≤ bs.length ∧ pre = List.range k) bs.length w := fun l J Jx W hW hJ _ hY h0 =>
  back1_in n hn l b1 bd A0 cap bs hl hcap J Jx hY W (hR.kept (fun b hb => by
    rcases hb with rfl | rfl
    · exact hW.block _ h1
    · exact hW.block _ h2)) h0

section
variable {W w : World} {I : Nat → Option Obj} {F : List (Nat × Obj)} {g : Nat} {s : Rs}
set_option maxRecDepth 100000 in
set_option maxHeartbeats 1000000 in
theorem back_new (A0 : Option Addr) (len cap : Nat) (h : St W w I F) : Calls Tryd.prog 60 #[.slice A0 len cap] w fun e w' =>
    ∃ b, e = .returned (.func (.func 85) #[] #[.pointer (some ⟨b, 0, none⟩)]) ∧ St W w' I ((b, .cells #[.slice A0 len cap] 22 (0, 0)) :: F) := by
  have h1 := h.alloc (.cells #[.slice A0 len cap] 22)
  have H1 := Lib.hid h1
  clear h h1
  go_enter Tryd.func60, Tryd.ntmps60
  go_wp2_with fail
  go_ret
  exact ⟨_, rfl, H1.out⟩

/-- The last k bytes' number. -/
def accB (bs : List UInt8) (k : Nat) : Nat := leV (bs.drop (bs.length - k))
theorem accB_zero (bs : List UInt8) : accB bs 0 = 0 := by simp [accB, leV]
theorem accB_all (bs : List UInt8) : accB bs bs.length = leV bs := by simp [accB]
theorem accB_succ (bs : List UInt8) (k : Nat) (h : k < bs.length) : accB bs (k + 1) = accB bs k * 256 + (bs.getD (bs.length - 1 - k) 0).toNat := by
  unfold accB
  have e : bs.drop (bs.length - (k + 1)) = bs.getD (bs.length - 1 - k) 0 :: bs.drop (bs.length - k) := by
    rw [show bs.length - (k + 1) = bs.length - 1 - k by omega, List.drop_eq_getElem_cons (by omega), List.getD_eq_getElem?_getD, List.getElem?_eq_getElem (by omega), show bs.length - 1 - k + 1 = bs.length - k by omega]
    rfl
  rw [e, leV, Nat.mul_comm, Nat.add_comm]
def accL (bs : List UInt8) (pre : List Nat) : Nat := pre.foldl (fun a k => a * 256 + (bs.getD (bs.length - 1 - k) 0).toNat) 0
theorem accL_add (bs : List UInt8) (pre : List Nat) (x : Nat) : accL bs (pre ++ [x]) = accL bs pre * 256 + (bs.getD (bs.length - 1 - x) 0).toNat := by
  unfold accL
  rw [List.foldl_append]
  rfl
theorem accL_range (bs : List UInt8) : ∀ k, k ≤ bs.length → accL bs (List.range k) = accB bs k
  | 0, _ => by rw [accB_zero]; rfl
  | k + 1, h => by rw [List.range_succ, accL_add, accL_range bs k (by omega), accB_succ bs k (by omega)]
theorem accL_lt (bs : List UInt8) : ∀ (n : Nat) (pre : List Nat), pre.length = n → accL bs pre < 256 ^ n
  | 0, pre, h => by rw [List.eq_nil_of_length_eq_zero h]; simp [accL]
  | n + 1, pre, h => by
    obtain ⟨q, x, rfl⟩ : ∃ q x, pre = q ++ [x] := ⟨pre.dropLast, pre.getLast (by intro e; subst e; simp at h), (List.dropLast_concat_getLast _).symm⟩
    rw [List.length_append] at h
    have h1 := accL_lt bs n q (by simpa using h)
    have h2 := (bs.getD (bs.length - 1 - x) 0).toNat_lt
    rw [accL_add, Nat.pow_succ]
    omega
theorem accL_lt7 (bs : List UInt8) (pre : List Nat) (h : pre.length ≤ 7) : accL bs pre < 72057594037927936 := by
  have h1 := accL_lt bs _ pre rfl
  have h3 := Nat.pow_le_pow_right (show 0 < 256 by omega) h
  have h4 : (256 : Nat) ^ 7 = 72057594037927936 := by decide
  omega

theorem shl_or (a y : Nat) (ha : a < 72057594037927936) (hy : y < 256) : bits .or .u64 ((a : Int) * 256) (IntKind.u64.wrap (y : Int)) = ((a * 256 + y : Nat) : Int) := by
  have h1 : IntKind.u64.wrap (y : Int) = (y : Int) := by
    exact IntWalk.u64_in _ (by omega)
  have h2 := u64_or_nat (a * 256) y (by omega) (by omega)
  rw [Int.natCast_mul] at h2
  rw [h1]
  refine h2.trans ?_
  have h3 := Nat.shiftLeft_add_eq_or_of_lt (show y < 2 ^ 8 by omega) a
  rw [Nat.shiftLeft_eq] at h3
  rw [← h3]
/-- Between two rounds. -/
def FxI (W : World) (I : Nat → Option Obj) (G : List (Nat × Obj)) (b5 : Nat) (bs : List UInt8) (pre : List Nat) (W1 : World) : Prop :=
  St W W1 I ((b5, .cells #[.int .u64 (accL bs pre : Nat)] 24 (0, 0)) :: G)

set_option maxRecDepth 100000 in
set_option maxHeartbeats 4000000 in
theorem code_fixed (h : RSt W w I g s F) (k : Nat) (hk : k ≤ 8) :
    Calls Tryd.prog 32 #[.pointer (some ⟨g, 0, none⟩), .int .i64 k] w fun e w' => e = .returned (.int .u64 (leV (tk k s).1 : Nat)) ∧ RSt W w' I g (tk k s).2 F := by
  obtain ⟨b5, hb5⟩ : ∃ b, b = w.heap.size := ⟨_, rfl⟩
  obtain ⟨A, n, c, e, hr, hst⟩ := h
  have h1 := hst.alloc (.cells #[.int .u64 0] 24)
  rw [← hb5] at h1
  have kW := within_any k hk
  have H1 := Lib.hid h1; have HR := Lib.hid hr; have KW := Lib.hid kW
  clear h1 hst hr kW
  refine (callsIn_wide (n := 3)).1 ?_
  refine callsIn_of_wp_marks Tryd.func32 rfl trivial ?_ rfl
  simp only [Tryd.ntmps32, List.size_toArray, List.length_cons, List.length_nil, Nat.reduceAdd, Nat.reduceSub, Array.replicate_succ, Array.replicate_zero, List.push_toArray, List.append_toArray, List.nil_append, List.cons_append]
  rw [wpIn_wide]
  go_wp2_with fail
  refine (KW.out _).mono ?_
  rintro e1 w2 ⟨rfl, rfl⟩
  clear KW
  rw [← hb5]
  clear hb5
  have kT := code_take (s := s) (g := g) ⟨A, n, c, e, HR.out, St.swap (A := [_]) (B := [_]) H1.out⟩ k (by omega)
  have KT := Lib.hid kT
  clear kT H1 HR
  go_wp2_with fail
  refine KT.out.mono ?_
  rintro e1 w3 ⟨⟨A0, cap, bs⟩, rfl, hbs, hl, hcap, hin, A3, n3, c3, e3, hr3, h3⟩
  simp only at hbs hl hcap
  have hl8 : bs.length ≤ 8 := by
    have := tk_len k s
    rw [← hbs] at this
    omega
  have kB := back_new A0 bs.length cap h3
  have hlv : leV (tk k s).1 = leV bs := by rw [hbs]
  have KB := Lib.hid kB; have HR3 := Lib.hid hr3; have HIN := Lib.hid hin; have HLV := Lib.hid hlv
  simp only [Part.val]
  clear kB h3 hr3 hin hlv hbs KT
  go_wp2_with fail
  refine KB.out.mono ?_
  rintro e1 w4 ⟨b1, rfl, h4⟩
  clear KB
  have hb1 : b1 < w4.heap.size := h4.lt (p := (b1, .cells #[.slice A0 bs.length cap] 22 (0, 0))) (by simp)
  have hb5' : b5 < w4.heap.size := h4.lt (p := (b5, .cells #[.int .u64 0] 24 (0, 0))) (by simp)
  have hB1 : w4.heap[b1]? = some (.cells #[.slice A0 bs.length cap] 22 (0, 0)) := h4.own (b1, _) (by simp)
  have hs4 := HIN.out _ _ h4
  have hc5 := fun i => h4.cell (g := b5) (cs := #[.int .u64 0]) (t := 24) (fr := (0, 0)) (by simp) i
  obtain ⟨bd, hbd, hbd5, hat⟩ : ∃ bd, bd < w4.heap.size ∧ bd ≠ b5 ∧ ∀ j u, (bs.map bval)[j]? = some u → ∃ ad, A0 = some ad ∧ ad.block = bd ∧ w4.cell? (ad.add j) = some u := by
    cases hbs : bs with
    | nil => exact ⟨b1, hb1, by
        have hn := h4.nodup
        simp at hn
        intro e
        exact hn.1.2.1 e, by simp⟩
    | cons x l =>
      obtain ⟨ad, e1, e2⟩ := hs4.2 0 (bval x) (by rw [hbs]; rfl)
      refine ⟨ad.block, ?_, ?_, ?_⟩
      · rw [← add_block ad 0]
        exact World.block_lt_of_cell? w4 _ e2
      · intro hb
        have e3 : (ad.add 0).block = b5 := by rw [add_block]; exact hb
        unfold World.cell? at e2
        rw [e3, h4.own (b5, .cells #[.int .u64 0] 24 (0, 0)) (by simp)] at e2
        simp only at e2
        split at e2
        · cases e2
        · cases ho : (ad.add 0).off with
          | zero => rw [ho] at e2; simp [bval] at e2
          | succ o => rw [ho] at e2; simp at e2
      · intro j u hj
        rw [← hbs] at hj
        obtain ⟨ad', f1, f2⟩ := hs4.2 j u hj
        rw [e1] at f1
        injection f1 with f1
        subst f1
        exact ⟨ad, e1, rfl, f2⟩
  have hR : BackAt A0 bs cap b1 bd w4 := ⟨hB1, hat⟩
  have hb15 : b1 ≠ b5 := by
    have hn := h4.nodup
    simp at hn
    intro e
    exact hn.1.2.1 e
  obtain ⟨G, hG⟩ : ∃ G, G = (b1, Obj.cells #[.slice A0 bs.length cap] 22 (0, 0)) :: (g, Obj.cells #[.slice A3 n3 c3, .int .i64 e3] 88 (0, 0)) :: F := ⟨_, rfl⟩
  have h5 : FxI W I G b5 bs [] w4 := by
    rw [hG]
    exact St.swap (A := [_, _]) (B := [_]) h4
  have hI := h4.ilt
  have hGl : ∀ p ∈ G, p.1 < w4.heap.size := fun p hp => St.lt h5 (List.mem_cons_of_mem _ hp)
  have own : OwnFrom w4.heap.size (FxI W I G b5 bs) := by
    rintro pre A B row hst hg hrow
    refine St.grown hst hI (fun p hp => .inl ?_) hg hrow
    rcases List.mem_cons.1 hp with rfl | hp
    · exact hb5'
    · exact hGl p hp
  have H5 := Lib.hid h5; have HR := Lib.hid hR; have OWN := Lib.hid own; have HG := Lib.hid hG; have HGL := Lib.hid hGl
  clear h4 h5 hR own hG hGl hs4 hc5 hB1 hat
  go_wp2_with fail
  refine (wpIn_wide (n := 3)).1 ?_
  refine' wpIn_rangeFunc_ownF (n := 3) rfl (by omega) (gf := 85) (lb := #[.pointer (some ⟨b1, 0, none⟩)]) rfl trivial (enters_of Tryd.func85 (by kernel_rfl) rfl)
    (back_stops 2 (by omega) b1 bd A0 cap bs (by omega) hcap w4 hb1 hbd HR.out) Kc_t (Kc_b hb1 hbd) (Below.refl _ _) (fun _ => rfl)
    (FxI W I G b5 bs) (fun _ _ _ => False) OWN.out (fun _ _ _ _ _ hs _ _ => hs) H5.out _ ?assign ?body ?done ?stop
  case assign =>
    intro l x W K hK
    gi_wp2
    exact hK
  case body =>
    rintro l pre x W1 hst hlen
    have hst : St W W1 I ((b5, .cells #[.int .u64 (accL bs pre : Nat)] 24 (0, 0)) :: G) := hst
    have hac := accL_lt7 bs pre (by omega)
    have hadd := accL_add bs pre x
    obtain ⟨y, hy⟩ : ∃ y, bs.getD (bs.length - 1 - x) 0 = y := ⟨_, rfl⟩
    rw [hy] at hadd
    obtain ⟨a, ha⟩ : ∃ a, accL bs pre = a := ⟨_, rfl⟩
    rw [ha] at hac hadd hst
    have e5 : W1.cell? ⟨b5, 0, none⟩ = some (.int .u64 (a : Nat)) := hst.cell (g := b5) (cs := #[.int .u64 (a : Nat)]) (t := 24) (fr := (0, 0)) (by simp) 0
    have f5 : W1.frozen? ⟨b5, 0, none⟩ = false := hst.frozen (g := b5) (cs := #[.int .u64 (a : Nat)]) (t := 24) (by simp) 0
    have HST := Lib.hid hst; have HADD := Lib.hid hadd
    clear hst hadd ha
    unfold benc
    rw [hy]
    clear hy
    unfold bval
    gi_wp2
    have hv := shl_or a y.toNat hac y.toNat_lt
    rw [hv, ← HADD.out]
    have h7 := St.set (A := []) HST.out 0 (.int .u64 (accL bs (pre ++ [x]) : Nat))
    have hst := HST.out
    obtain ⟨JJ, hle, hall, hstJ⟩ := hst.others
    have h8 := St.set (A := []) hstJ 0 (.int .u64 (accL bs (pre ++ [x]) : Nat))
    refine ⟨St.keeps hall (by simp [World.setCell]) (fun p hp hc => ?_) hst h8, fun q hq => ?_, h7⟩
    · rcases List.mem_cons.1 hp with rfl | hp
      · cases hc
      · exact List.mem_cons_of_mem _ hp
    · have hne : q ≠ b5 := by
        rcases hq with rfl | rfl
        · exact hb15
        · exact hbd5
      exact Below.heap_setCell _ _ _ _ hne
  case done =>
    rintro D ys W1 hD rfl hs hK
    have hst : St W W1 I ((b5, .cells #[.int .u64 (accL bs (List.range bs.length) : Nat)] 24 (0, 0)) :: G) := hs
    rw [accL_range bs _ (Nat.le_refl _), accB_all] at hst
    have hst' := hst.grown hI (fun p hp => .inl (by
      rcases List.mem_cons.1 hp with rfl | hp
      · exact hb5'
      · exact HGL.out p hp)) (grownBy_putObj' W1 D (.deferred none)) (fun r e => by cases e; exact ⟨hD, _, hK, rfl⟩)
    have e5 : W1.cell? ⟨b5, 0, none⟩ = some (.int .u64 (leV bs : Nat)) := hst.cell (g := b5) (cs := #[.int .u64 (leV bs : Nat)]) (t := 24) (fr := (0, 0)) (by simp) 0
    have HST := Lib.hid hst'; have HK := Lib.hid hK
    clear hst hst' hK hs
    go_wp2_with fail
    refine ⟨by simp, .inl ⟨_, _, rfl, run_takeDeferred HK.out, ?_⟩⟩
    refine ⟨_, results_tmp rfl _ _ _, by rw [HLV.out]; rfl, A3, n3, c3, e3, HR3.out, ?_⟩
    have h9 := St.weaken (A := [_]) HST.out
    rw [HG.out] at h9
    exact St.weaken (A := [_]) h9
  case stop =>
    rintro D c pre W1 _ _ h _
    exact h.elim
end
end

section
set_option linter.unusedVariables false
set_option linter.unusedSimpArgs false
open Go.RowKit Go.Lib

section
variable {W w : World} {I : Nat → Option Obj} {F : List (Nat × Obj)} {g : Nat} {s : Rs}
theorem leV_tk2 (s : Rs) : leV (tk 2 s).1 < 65536 := by
  have h1 := leV_lt (tk 2 s).1
  have h2 := Nat.pow_le_pow_right (show 0 < 256 by omega) (tk_len 2 s)
  have h3 : (256 : Nat) ^ 2 = 65536 := by decide
  omega
/-- What a text is that is read. -/
def txR (L : Nat) (s : Rs) : List UInt8 × Rs := tk (leV (tk 2 s).1) (limR L (leV (tk 2 s).1) (tk 2 s).2)

set_option maxRecDepth 100000 in
set_option maxHeartbeats 1000000 in
theorem code_rtext (h : RSt W w I g s F) (L : Nat) (hL : L ≤ 1000000) :
    Calls Tryd.prog 31 #[.pointer (some ⟨g, 0, none⟩), .int .i64 L] w fun e w' => e = .returned (.string (pA (txR L s).1)) ∧ RSt W w' I g (txR L s).2 F := by
  have k2 := code_fixed h 2 (by omega)
  have hV2 := leV_tk2 s
  unfold txR
  obtain ⟨V, hV⟩ : ∃ V, leV (tk 2 s).1 = V := ⟨_, rfl⟩
  obtain ⟨S, hS⟩ : ∃ S, (tk 2 s).2 = S := ⟨_, rfl⟩
  rw [hV, hS] at k2 ⊢
  rw [hV] at hV2
  obtain ⟨T, hT⟩ : ∃ T, limR L V S = T := ⟨_, rfl⟩
  rw [hT]
  have K2 := Lib.hid k2; have HT := Lib.hid hT
  clear k2 h hV hS hT
  go_enter Tryd.func31, Tryd.ntmps31
  go_wp2_with fail
  refine K2.out.mono ?_
  rintro e1 w1 ⟨rfl, h1⟩
  clear K2
  obtain ⟨A, n, c, e, hr, hst⟩ := id h1
  obtain ⟨q0, q1, f0, f1⟩ := RSt.facts hst
  clear hst
  cases S with
  | none =>
    obtain ⟨he, rfl, rfl, rfl⟩ := hr
    have he0 : e ≠ 0 := by rintro rfl; rcases he with h | h <;> cases h
    have hlim : limR L V none = none := by unfold limR; split <;> rfl
    obtain rfl : T = none := by rw [← HT.out]; exact hlim
    have kT := code_take h1 V (by omega)
    have KT := Lib.hid kT
    clear kT h1 hlim
    go_wp2_with fail
    refine KT.out.mono ?_
    rintro e3 w3 ⟨p, rfl, hb, hpl, hpc, hpi, A3, n3, c3, x3, hr3, hst3⟩
    clear KT
    have hcv := conv_str (P := Tryd.prog) Tryd.underlying22 Tryd.underlying5 Tryd.underlying9 (c := p.c) (hpi _ _ hst3)
    have HR3 := Lib.hid hr3; have HS3 := Lib.hid hst3; have HB := Lib.hid hb
    clear hr3 hst3 hpi hb
    unfold Part.val
    go_wp2_with fail
    go_ret
    have hb := HB.out
    refine ⟨by rw [← hb]; rfl, A3, n3, c3, x3, HR3.out, HS3.out⟩
  | some r =>
    obtain ⟨rfl, rfl, hl, hc, hin⟩ := hr
    by_cases hVL : V ≤ L
    · have hlim : limR L V (some r) = some r := if_pos hVL
      obtain rfl : T = some r := by rw [← HT.out]; exact hlim
      have kT := code_take h1 V (by omega)
      have hgt : ¬ ((L : Int) < (V : Int)) := by omega
      have KT := Lib.hid kT
      clear kT h1 hlim hin
      go_wp2_with fail
      refine KT.out.mono ?_
      rintro e3 w3 ⟨p, rfl, hb, hpl, hpc, hpi, A3, n3, c3, x3, hr3, hst3⟩
      clear KT
      have hcv := conv_str (P := Tryd.prog) Tryd.underlying22 Tryd.underlying5 Tryd.underlying9 (c := p.c) (hpi _ _ hst3)
      have HR3 := Lib.hid hr3; have HS3 := Lib.hid hst3; have HB := Lib.hid hb
      clear hr3 hst3 hpi hb
      unfold Part.val
      go_wp2_with fail
      go_ret
      have hb := HB.out
      refine ⟨by rw [← hb]; rfl, A3, n3, c3, x3, HR3.out, HS3.out⟩
    · have hlim : limR L V (some r) = none := if_neg hVL
      obtain rfl : T = none := by rw [← HT.out]; exact hlim
      have kF := code_fail h1 52 (.inr rfl)
      have hgt : ((L : Int) < (V : Int)) := by omega
      have KF := Lib.hid kF
      clear kF h1 hlim hin
      go_wp2_with fail
      refine KF.out.mono ?_
      rintro e2 w2 ⟨rfl, h2⟩
      clear KF q0 q1 f0 f1
      have kT := code_take h2 V (by omega)
      have KT := Lib.hid kT
      clear kT h2
      go_wp2_with fail
      refine KT.out.mono ?_
      rintro e3 w3 ⟨p, rfl, hb, hpl, hpc, hpi, A3, n3, c3, x3, hr3, hst3⟩
      clear KT
      have hcv := conv_str (P := Tryd.prog) Tryd.underlying22 Tryd.underlying5 Tryd.underlying9 (c := p.c) (hpi _ _ hst3)
      have HR3 := Lib.hid hr3; have HS3 := Lib.hid hst3; have HB := Lib.hid hb
      clear hr3 hst3 hpi hb
      unfold Part.val
      go_wp2_with fail
      go_ret
      have hb := HB.out
      refine ⟨by rw [← hb]; rfl, A3, n3, c3, x3, HR3.out, HS3.out⟩

theorem Src.two (w : World) (x y : Value) (t : TypeId) : Src (w.alloc (.cells #[x, y] t)) 1 (some ⟨w.heap.size, 0, none⟩) 2 [x, y] := by
  refine ⟨rfl, fun j u hj => ⟨_, rfl, ?_⟩⟩
  rw [show (⟨w.heap.size, 0, none⟩ : Addr).add j = ⟨w.heap.size, j, none⟩ by unfold Addr.add; split <;> simp_all, cell_of_row _ w.heap.size j #[x, y] t (0, 0) (heap_alloc_new w _)]
  simpa using hj
/-- A text's bytes: its length goes ahead. -/
def txB (s : ByteArray) : List UInt8 := leB s.size 2 ++ sB s
theorem txB_len (s : ByteArray) : (txB s).length = 2 + s.size := by unfold txB; rw [List.length_append, leB_len, sB_len]

set_option maxRecDepth 100000 in
set_option maxHeartbeats 2000000 in
theorem ctext (str : ByteArray) (hs : str.size ≤ 1000000) (gb : Nat) (h : St W w I ((gb, .cells #[.string str] 9 (0, 0)) :: F)) :
    Calls Tryd.prog 41 #[.slice none 0 0, .slice (some ⟨gb, 0, none⟩) 1 1] w fun e w' => ∃ v, e = .returned v ∧ FreshB W w' I ((gb, .cells #[.string str] 9 (0, 0)) :: F) (txB str) v := by
  have kC := clone_bytes ⟨none, 0, []⟩ (Part.In_nil _ _) (by simp) h
  simp only [Part.val, List.length_nil] at kC
  have KC := Lib.hid kC
  clear kC h
  go_enter Tryd.func41, Tryd.ntmps41
  go_wp2_with fail
  refine KC.out.mono ?_
  rintro e w1 ⟨v, rfl, A1, c1, L1, rfl, hr1, h1⟩
  have H1 := Lib.hid h1; have HR := Lib.hid hr1
  clear h1 hr1 KC
  go_wp2_with fail
  go_loopw [5, 12] (fun o i wr => ∃ (j : Nat) (A : Option Addr) (c : Nat) (L0 : List (Nat × Obj)) (bs : List UInt8), i = .int .i64 j ∧ j ≤ 1 ∧ bs = (if j = 0 then [] else txB str) ∧ o = .slice A bs.length c ∧ Row 5 1 (.slice A bs.length c) bs.length (bs.map bval) L0 ∧ St W wr I (L0 ++ ((gb, .cells #[.string str] 9 (0, 0)) :: F))) (fun _ i _ => 1 - (intOf i).toNat)
  case atStart => exact ⟨0, A1, c1, L1, [], rfl, by omega, rfl, rfl, HR.out, H1.out⟩
  case round =>
    obtain ⟨j, A, c, L0, bs, rfl, hj, hbs, rfl, hrow, hst⟩ := hrel
    clear H1 HR
    by_cases hjk : j < 1
    · obtain rfl : j = 0 := by omega
      rw [if_pos rfl] at hbs
      subst hbs
      simp only [List.length_nil] at hrow ⊢
      have e0 : wr.cell? ⟨gb, 0, none⟩ = some (.string str) := hst.cell (g := gb) (cs := #[.string str]) (t := 9) (fr := (0, 0)) (by simp) 0
      have HROW := Lib.hid hrow; have HST := Lib.hid hst
      clear hrow hst
      obtain ⟨N, hN⟩ : ∃ N, str.size = N := ⟨_, rfl⟩
      have hb1 := bval_ofNat (N % 256) (Nat.mod_lt _ (by omega))
      have hb2 := bval_ofNat (N / 256 % 256) (Nat.mod_lt _ (by omega))
      rw [hN] at hs
      have HB1 := Lib.hid hb1; have HB2 := Lib.hid hb2; have HN := Lib.hid hN
      clear hb1 hb2
      go_wp2_with (at_builtin; refine Hid.out ?_)
      refine Lib.hid ?_
      refine wpList_append_row (F := ((gb, .cells #[.string str] 9 (0, 0)) :: F)) rfl (.tmp 16) (.tmp 24) 22 rfl 5 (.int .u8 0) 1 1 Tryd.underlying22 (by kernel_rfl) rfl (by omega) rfl HROW.out (St.alloc_ HST.out _) rfl (Src.two wr (.int .u8 ((N : Int) % 256)) (.int .u8 ((N : Int) / 256 % 256)) 5) (by intro u hu; simp at hu; rcases hu with rfl | rfl <;> rfl) 2 (by omega) ((leB N 2).map bval) (by simp only [leB, List.map_cons, List.map_nil, HB1.out, HB2.out]; rfl) (by unfold maxLen; omega) (by omega) ?_
      intro A5 c5 w5 L5 hr5 h5
      have H5 := Lib.hid h5; have HR5 := Lib.hid hr5
      clear h5 hr5 HROW HST HB1 HB2
      go_wp2_with (at_builtin; refine Hid.out ?_)
      refine Lib.hid ?_
      refine wpList_append_str (F := ((gb, .cells #[.string str] 9 (0, 0)) :: F)) rfl (.tmp 25) (.tmp 26) 22 9 rfl 5 (.int .u8 0) 1 Tryd.underlying22 Tryd.underlying9 (by kernel_rfl) rfl rfl HR5.out H5.out str rfl (2 + N) (by omega) ((txB str).map bval) (by unfold txB; rw [List.map_append, HN.out]) (by unfold maxLen; omega) (by omega) ?_
      intro A6 c6 w6 L6 hr6 h6
      have H6 := Lib.hid h6; have HR6 := Lib.hid hr6
      clear h6 hr6 H5 HR5 hN
      go_wp2_with fail
      have hl := txB_len str
      rw [HN.out] at hl
      refine ⟨⟨1, A6, c6, L6, txB str, by go_num, by omega, rfl, by rw [hl], by rw [hl]; exact HR6.out, H6.out⟩, ?_⟩
      simp [intOf]
    · obtain rfl : j = 1 := by omega
      rw [if_neg (by omega)] at hbs
      subst hbs
      have HROW := Lib.hid hrow; have HST := Lib.hid hst
      clear hrow hst
      go_wp2_with fail
      go_ret
      exact ⟨_, rfl, A, c, L0, rfl, HROW.out, HST.out⟩
end
end
end Go.Proofs.YtfbffmckmchbbaaDoor
