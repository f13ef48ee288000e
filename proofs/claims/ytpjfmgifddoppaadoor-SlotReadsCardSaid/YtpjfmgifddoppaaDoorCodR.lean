/- code: a reader: walks. code: a number is read (a range over slices.Backward): walk. -/
import Derived.Test.YtpjfmgifddoppaaDoorCodA
namespace Go.Proofs.YtpjfmgifddoppaaDoor
section
set_option linter.unusedVariables false
set_option linter.unusedSimpArgs false
open Go.RowKit Go.Lib

section
variable {W w : World} {I : Nat → Option Obj} {F : List (Nat × Obj)} {g : Nat} {s : Rs}
/-- What a reader holds. -/
def Rd (W : World) (I : Nat → Option Obj) : Rs → Option Addr → Nat → Nat → Int → Prop
  | some r, A, n, c, e => e = 0 ∧ n = r.length ∧ r.length ≤ 1000000 ∧ r.length ≤ c ∧ Part.In ⟨A, c, r⟩ W I
  | none, A, n, c, e => (e = 51 ∨ e = 52) ∧ A = none ∧ n = 0 ∧ c = 0
def RSt (W w : World) (I : Nat → Option Obj) (g : Nat) (s : Rs) (F : List (Nat × Obj)) : Prop :=
  ∃ A n c e, Rd W I s A n c e ∧ St W w I ((g, .cells #[.slice A n c, .int .i64 e] 90 (0, 0)) :: F)
def rcells (A : Option Addr) (n c : Nat) (e : Int) : Array Value := #[.slice A n c, .int .i64 e]
theorem RSt.facts {A : Option Addr} {n c : Nat} {e : Int} (h : St W w I ((g, .cells #[.slice A n c, .int .i64 e] 90 (0, 0)) :: F)) :
    w.cell? ⟨g, 0, none⟩ = some (.slice A n c) ∧ w.cell? ⟨g, 1, none⟩ = some (.int .i64 e) ∧ w.frozen? ⟨g, 0, none⟩ = false ∧ w.frozen? ⟨g, 1, none⟩ = false := by
  have hc := h.cell (g := g) (t := 90) (fr := (0, 0)) (List.mem_cons_self ..)
  have hf := h.frozen (g := g) (t := 90) (List.mem_cons_self ..)
  exact ⟨hc 0, hc 1, hf 0, hf 1⟩

set_option maxRecDepth 100000 in
set_option maxHeartbeats 1000000 in
theorem code_new (p : Part) (hp : p.In W I) (hl : p.bs.length ≤ 1000000) (hc : p.bs.length ≤ p.c) (h : St W w I F) :
    Calls Tryd.prog 36 #[p.val] w fun e w' => e = .returned (.pointer (some ⟨w.heap.size, 0, none⟩)) ∧ RSt W w' I w.heap.size (some p.bs) F := by
  have h1 := h.alloc (.cells #[.slice p.A p.bs.length p.c, .int .i64 0] 90)
  have hR : RSt W (w.alloc (.cells #[.slice p.A p.bs.length p.c, .int .i64 0] 90)) I w.heap.size (some p.bs) F := ⟨_, _, _, _, ⟨rfl, rfl, hl, hc, hp⟩, h1⟩
  have HR := Lib.hid hR
  clear hR h1 h hp
  unfold Part.val
  go_enter Tryd.func36, Tryd.ntmps36
  go_wp2_with fail
  go_ret
  exact ⟨rfl, HR.out⟩

set_option maxRecDepth 100000 in
set_option maxHeartbeats 1000000 in
theorem code_fail (h : RSt W w I g s F) (x : Int) (hx : x = 51 ∨ x = 52) :
    Calls Tryd.prog 115 #[.pointer (some ⟨g, 0, none⟩), .int .i64 x] w fun e w' => e = .returned (.tuple #[]) ∧ RSt W w' I g none F := by
  obtain ⟨A, n, c, e, hr, hst⟩ := h
  obtain ⟨q0, q1, f0, f1⟩ := RSt.facts hst
  have h2 := St.set (A := []) hst 1 (.int .i64 x)
  have h3 := St.set (A := []) h2 0 (.slice none 0 0)
  have h4 := St.set (A := []) hst 0 (.slice none 0 0)
  have f2 := (RSt.facts (A := A) (n := n) (c := c) (e := x) h2).2.2.1
  have H3 := Lib.hid h3; have H4 := Lib.hid h4; have HR := Lib.hid hr
  by_cases he : e = 0
  · subst he
    clear h2 h3 h4 hst hr
    go_enter Tryd.func115, Tryd.ntmps115
    go_wp2_with fail
    refine ⟨rfl, .tuple #[], by simp [results, Tryd.f115], ?_⟩
    exact ⟨rfl, none, 0, 0, x, ⟨hx, rfl, rfl, rfl⟩, H3.out⟩
  · have he2 : e = 51 ∨ e = 52 := by
      cases s with
      | none => exact hr.1
      | some r => exact absurd hr.1 he
    clear h2 h3 h4 hst hr
    go_enter Tryd.func115, Tryd.ntmps115
    go_wp2_with fail
    refine ⟨rfl, .tuple #[], by simp [results, Tryd.f115], ?_⟩
    exact ⟨rfl, none, 0, 0, e, ⟨he2, rfl, rfl, rfl⟩, H4.out⟩

/-- What take leaves. -/
def TkPost (W : World) (I : Nat → Option Obj) (g : Nat) (s : Rs) (n : Nat) (F : List (Nat × Obj)) (e : Ending) (w' : World) : Prop :=
  ∃ p : Part, e = .returned p.val ∧ p.bs = (tk n s).1 ∧ p.bs.length ≤ 1000000 ∧ p.bs.length ≤ p.c ∧ p.In W I ∧ RSt W w' I g (tk n s).2 F

set_option maxRecDepth 100000 in
set_option maxHeartbeats 1000000 in
theorem code_take (h : RSt W w I g s F) (n : Nat) (hn : n ≤ 9223372036854775807) :
    Calls Tryd.prog 99 #[.pointer (some ⟨g, 0, none⟩), .int .i64 n] w (TkPost W I g s n F) := by
  have kF := code_fail h 51 (.inl rfl)
  have hmax : max (n : Int) 0 = n := by omega
  obtain ⟨A, k, c, e, hr, hst⟩ := h
  obtain ⟨q0, q1, f0, f1⟩ := RSt.facts hst
  have KF := Lib.hid kF
  cases s with
  | none =>
    obtain ⟨he, rfl, rfl, rfl⟩ := hr
    have he0 : e ≠ 0 := by rintro rfl; rcases he with h | h <;> cases h
    clear kF hst
    go_enter Tryd.func99, Tryd.ntmps99
    go_wp2_with fail
    refine KF.out.mono ?_
    rintro e1 w1 ⟨rfl, h1⟩
    have H1 := Lib.hid h1
    clear h1 KF
    go_wp2_with fail
    go_ret
    exact ⟨⟨none, 0, []⟩, rfl, rfl, by simp, by simp, Part.In_nil _ _, H1.out⟩
  | some r =>
    obtain ⟨rfl, rfl, hl, hc, hin⟩ := hr
    by_cases hnr : n ≤ r.length
    · have h2 := St.set (A := []) hst 0 (.slice (subA A c n) (r.length - n) (c - n))
      have htk : tk n (some r) = (r.take n, some (r.drop n)) := if_pos hnr
      have hR : RSt W (w.setCell ⟨g, 0, none⟩ (.slice (subA A c n) (r.length - n) (c - n))) I g (some (r.drop n)) F := by
        refine ⟨_, r.length - n, _, _, ⟨rfl, by simp, by simp; omega, by simp; omega, Part.In_drop (c - n) n hc hin⟩, h2⟩
      have sl1 := fun w => run_slice_to Tryd.underlying40 Tryd.sizeOf5 A r.length c n (by omega) w
      have sl2 := fun w => run_slice_from Tryd.underlying40 Tryd.sizeOf5 A r.length c n hnr hc w
      have HR := Lib.hid hR; have HT := Lib.hid htk; have HIN := Lib.hid hin
      clear kF hst h2 hR htk hin KF
      generalize hrl : r.length = rl at *
      have hgt : ¬ ((rl : Int) < (n : Int)) := by omega
      go_enter Tryd.func99, Tryd.ntmps99
      go_wp2_with fail
      go_ret
      refine ⟨⟨A, c, r.take n⟩, ?_, by rw [HT.out], by simp; omega, by simp; omega, Part.In_take c n HIN.out, by rw [HT.out]; exact HR.out⟩
      simp [Part.val, hrl, Nat.min_eq_left hnr]
    · have htk : tk n (some r) = ([], none) := if_neg hnr
      have HT := Lib.hid htk
      clear kF hst htk hin
      generalize hrl : r.length = rl at *
      have hgt : ((rl : Int) < (n : Int)) := by omega
      go_enter Tryd.func99, Tryd.ntmps99
      go_wp2_with fail
      refine KF.out.mono ?_
      rintro e1 w1 ⟨rfl, h1⟩
      have H1 := Lib.hid h1
      clear h1 KF
      go_wp2_with fail
      go_ret
      exact ⟨⟨none, 0, []⟩, rfl, by rw [HT.out], by simp, by simp, Part.In_nil _ _, by rw [HT.out]; exact H1.out⟩

/-- What Raw leaves. -/
def RawPost (W : World) (I : Nat → Option Obj) (g : Nat) (bs : List UInt8) (s' : Rs) (F : List (Nat × Obj)) (e : Ending) (w' : World) : Prop :=
  ∃ A c L', e = .returned (.slice A bs.length c) ∧ Row 5 1 (.slice A bs.length c) bs.length (bs.map bval) L' ∧ RSt W w' I g s' (L' ++ F)

set_option maxRecDepth 100000 in
set_option maxHeartbeats 1000000 in
theorem code_raw (h : RSt W w I g s F) (n : Nat) (hn : n ≤ 9223372036854775807) :
    Calls Tryd.prog 71 #[.pointer (some ⟨g, 0, none⟩), .int .i64 n] w (RawPost W I g (tk n s).1 (tk n s).2 F) := by
  have kT := code_take h n hn
  have KT := Lib.hid kT
  clear kT h
  go_enter Tryd.func71, Tryd.ntmps71
  go_wp2_with fail
  refine KT.out.mono ?_
  rintro e w1 ⟨p, rfl, hb, hl, hc, hin, A, k, c, e, hr, hst⟩
  have HB := Lib.hid hb
  have kC := clone_bytes p hin (by omega) hst
  unfold Part.val at kC ⊢
  have KC := Lib.hid kC; have HR := Lib.hid hr
  clear kC hst hr KT hin hb
  go_wp2_with fail
  refine KC.out.mono ?_
  rintro e1 w2 ⟨v, rfl, A1, c1, L1, rfl, hr1, h1⟩
  have H1 := Lib.hid h1; have HR1 := Lib.hid hr1
  clear h1 hr1 KC
  go_wp2_with fail
  go_ret
  have hb := HB.out
  refine ⟨A1, c1, L1, by rw [← hb]; rfl, by rw [← hb]; exact HR1.out, _, _, _, _, HR.out, St.swap (B := [_]) H1.out⟩

end
end

section
set_option linter.unusedVariables false
set_option linter.unusedSimpArgs false
open Go.RowKit Go.Lib Go.Shelf
attribute [local go_sem] Oper.semAt_some

theorem cell_congr {A B : World} {a : Addr} (h : B.heap[a.block]? = A.heap[a.block]?) : B.cell? a = A.cell? a := by
  unfold World.cell?
  rw [h]
theorem add_block (a : Addr) (j : Nat) : (a.add j).block = a.block := by
  unfold Addr.add
  split <;> rfl
/-- The slice that is gone through, and where its bytes lie. -/
structure BackAt (A0 : Option Addr) (bs : List UInt8) (cap b1 bd : Nat) (W : World) : Prop where
  s : W.heap[b1]? = some (.cells #[.slice A0 bs.length cap] 40 (0, 0))
  at_ : ∀ j u, (bs.map bval)[j]? = some u → ∃ ad, A0 = some ad ∧ ad.block = bd ∧ W.cell? (ad.add j) = some u
theorem BackAt.kept {A0 : Option Addr} {bs : List UInt8} {cap b1 bd : Nat} {A B : World} (h : BackAt A0 bs cap b1 bd A) (k : Kc b1 bd A B) : BackAt A0 bs cap b1 bd B :=
  ⟨(k _ (.inl rfl)).trans h.s, fun j u hj => by
    obtain ⟨ad, h1, h2, h3⟩ := h.at_ j u hj
    exact ⟨ad, h1, h2, (cell_congr (k _ (.inr (by rw [add_block]; exact h2)))).trans h3⟩⟩
def benc (bs : List UInt8) (k : Nat) : Array Value := #[.int .i64 ((bs.length - 1 - k : Nat) : Int), bval (bs.getD (bs.length - 1 - k) 0)]

set_option maxRecDepth 100000 in
set_option maxHeartbeats 1000000 in
theorem back1_in (n : Nat) (hn : 1 ≤ n) (l b1 bd : Nat) (A0 : Option Addr) (cap : Nat) (bs : List UInt8) (hl : bs.length ≤ 1000000) (hcap : bs.length ≤ cap) (J Jx : List Nat → World → Prop)
    (hY : ∀ pre x W, J pre W → pre.length < bs.length → YieldAt Fence.wide (n - 1) Tryd.prog l (benc bs x) W fun e W' =>
      (e = .returned (.bool true) ∧ J (pre ++ [x]) W' ∧ Kc b1 bd W W') ∨ (e = .returned (.bool false) ∧ Jx (pre ++ [x]) W'))
    (W : World) (hR : BackAt A0 bs cap b1 bd W) (h0 : J [] W) :
    CallsIn Fence.wide n Tryd.prog 116 #[.func (.yield l) #[] #[], .pointer (some ⟨b1, 0, none⟩)] W (ChunkDone J Jx bs.length) := by
  have cells : ∀ wr, BackAt A0 bs cap b1 bd wr → wr.cell? ⟨b1, 0, none⟩ = some (.slice A0 bs.length cap) := fun wr h => cell_of_row wr _ 0 _ _ _ h.s
  have CELLS := Lib.hid cells
  have c1 := cells W hR
  refine callsIn_of_wp Tryd.func116 rfl trivial ?_ rfl
  simp only [Tryd.ntmps116, List.size_toArray, List.length_cons, List.length_nil, Nat.reduceAdd, Nat.reduceSub, Array.replicate_succ, Array.replicate_zero, List.push_toArray, List.append_toArray, List.nil_append, List.cons_append]
  gi_wp2
  clear c1 cells
  gi_loopw [3] (fun i wr => ∃ k : Nat, k ≤ bs.length ∧ i = .int .i64 ((bs.length : Int) - 1 - k) ∧ J (List.range k) wr ∧ BackAt A0 bs cap b1 bd wr) (fun i _ => (intOf i + 1).toNat)
  case atStart => exact ⟨0, Nat.zero_le _, by simp, h0, hR⟩
  case round =>
    obtain ⟨k, hk, rfl, hJs, hr⟩ := hrel
    clear h0 hR
    have c1 := CELLS.out wr hr
    by_cases hkl : k < bs.length
    · obtain ⟨m, hm⟩ : ∃ m, m = bs.length - 1 - k := ⟨_, rfl⟩
      have hmi : (bs.length : Int) - 1 - k = (m : Int) := by omega
      have hml : m < bs.length := by omega
      obtain ⟨x, hx⟩ : ∃ x, bs.getD m 0 = x := ⟨_, rfl⟩
      have hx2 : (bs.map bval)[m]? = some (bval x) := by
        rw [List.getElem?_map, List.getElem?_eq_getElem hml, ← hx, List.getD_eq_getElem?_getD, List.getElem?_eq_getElem hml]
        rfl
      obtain ⟨ad, hA, hb, hc⟩ := hr.at_ m _ hx2
      have hyld := hY (List.range k) k wr hJs (by rw [List.length_range]; exact hkl)
      unfold benc at hyld
      rw [← hm, hx] at hyld
      unfold bval at hyld hc
      have hyd : ∃ fn tmps assign body, (Instr.yield l #[.int .i64 (m : Int), .int .u8 (x.toNat : Int)]).run Tryd.prog wr = .ok (.round l fn tmps assign body) wr ∧ RoundIn Fence.wide (n - 1) Tryd.prog l fn tmps assign body wr fun e W' => ∃ b, e = .returned (.bool b) ∧ CPost J Jx b1 bd (List.range k) k wr b W' := by
        refine YieldAt.mono hyld ?_
        rintro e W' (⟨rfl, h1, h2⟩ | ⟨rfl, h1⟩)
        · exact ⟨true, rfl, h1, h2⟩
        · exact ⟨false, rfl, h1⟩
      obtain ⟨fn, tmps, assign, body, hy, hR2⟩ := hyd
      have HR2 := Lib.hid hR2; have HKL := Lib.hid hkl
      subst hA
      clear hyld hR2 hx hx2 hJs hb
      have hm0 : (0 : Int) ≤ (m : Int) := by omega
      have hml2 : (m : Int) < (bs.length : Int) := by omega
      rw [hmi]
      have HMI := Lib.hid hmi
      clear hmi hm
      generalize hbl : bs.length = bl at *
      gi_wp2
      refine HR2.out.mono ?_
      rintro e W3 ⟨b, rfl, hb⟩
      clear HR2
      cases b with
      | true =>
        obtain ⟨hJ3, hk3⟩ := hb
        have d1 := CELLS.out W3 (hr.kept hk3)
        clear c1 hc hy
        gi_wp2
        go_roundw
        have hmi := HMI.out
        case rel => exact ⟨k + 1, by omega, by rw [show (m : Int) - 1 = (bl : Int) - 1 - ((k + 1 : Nat) : Int) by omega], by rw [List.range_succ]; exact hJ3, hr.kept hk3⟩
        case measure =>
          simp [intOf]
      | false =>
        have hJx3 : Jx _ _ := hb
        clear c1 hc hy
        gi_wp2
        refine bodyPost_ret (results_none rfl _ _ _) rfl ?_
        exact ⟨⟨_, rfl⟩, .inr ⟨_, ⟨k + 1, by omega, by rw [List.range_succ]⟩, hJx3⟩⟩
    · obtain rfl : k = bs.length := by omega
      have hneg : (bs.length : Int) - 1 - (bs.length : Int) = -1 := by omega
      rw [hneg]
      have HJS := Lib.hid hJs
      clear hJs
      gi_wp2
      go_end0
      exact ⟨⟨_, rfl⟩, .inl ⟨_, rfl, HJS.out⟩⟩

theorem back_stops (n : Nat) (hn : 1 ≤ n) (b1 bd : Nat) (A0 : Option Addr) (cap : Nat) (bs : List UInt8) (hl : bs.length ≤ 1000000) (hcap : bs.length ≤ cap) (w : World) (h1 : b1 < w.heap.size) (h2 : bd < w.heap.size) (hR : BackAt A0 bs cap b1 bd w) :
    SeqStopsK Fence.wide n Tryd.prog 116 #[.pointer (some ⟨b1, 0, none⟩)] (fun k : Nat => benc bs k) (Kc b1 bd) (fun ys => ys = List.range bs.length) (fun pre => ∃ k, k ≤ bs.length ∧ pre = List.range k) bs.length w := fun l J Jx W hW hJ _ hY h0 =>
  back1_in n hn l b1 bd A0 cap bs hl hcap J Jx hY W (hR.kept (fun b hb => by
    rcases hb with rfl | rfl
    · exact hW.block _ h1
    · exact hW.block _ h2)) h0

section
variable {W w : World} {I : Nat → Option Obj} {F : List (Nat × Obj)} {g : Nat} {s : Rs}
set_option maxRecDepth 100000 in
set_option maxHeartbeats 1000000 in
theorem back_new (A0 : Option Addr) (len cap : Nat) (h : St W w I F) : Calls Tryd.prog 100 #[.slice A0 len cap] w fun e w' =>
    ∃ b, e = .returned (.func (.func 116) #[] #[.pointer (some ⟨b, 0, none⟩)]) ∧ St W w' I ((b, .cells #[.slice A0 len cap] 40 (0, 0)) :: F) := by
  have h1 := h.alloc (.cells #[.slice A0 len cap] 40)
  have H1 := Lib.hid h1
  clear h h1
  go_enter Tryd.func100, Tryd.ntmps100
  go_wp2_with fail
  go_ret
  exact ⟨_, rfl, H1.out⟩

/-- The last k bytes' number. -/
def accB (bs : List UInt8) (k : Nat) : Nat := leV (bs.drop (bs.length - k))
theorem accB_zero (bs : List UInt8) : accB bs 0 = 0 := by simp [accB, leV]
theorem accB_all (bs : List UInt8) : accB bs bs.length = leV bs := by simp [accB]
theorem accB_succ (bs : List UInt8) (k : Nat) (h : k < bs.length) : accB bs (k + 1) = accB bs k * 256 + (bs.getD (bs.length - 1 - k) 0).toNat := by
  unfold accB
  have e : bs.drop (bs.length - (k + 1)) = bs.getD (bs.length - 1 - k) 0 :: bs.drop (bs.length - k) := by
    rw [show bs.length - (k + 1) = bs.length - 1 - k by omega, List.drop_eq_getElem_cons (by omega), List.getD_eq_getElem?_getD, List.getElem?_eq_getElem (by omega), show bs.length - 1 - k + 1 = bs.length - k by omega]
    rfl
  rw [e, leV, Nat.mul_comm, Nat.add_comm]
def accL (bs : List UInt8) (pre : List Nat) : Nat := pre.foldl (fun a k => a * 256 + (bs.getD (bs.length - 1 - k) 0).toNat) 0
theorem accL_add (bs : List UInt8) (pre : List Nat) (x : Nat) : accL bs (pre ++ [x]) = accL bs pre * 256 + (bs.getD (bs.length - 1 - x) 0).toNat := by
  unfold accL
  rw [List.foldl_append]
  rfl
theorem accL_range (bs : List UInt8) : ∀ k, k ≤ bs.length → accL bs (List.range k) = accB bs k
  | 0, _ => by rw [accB_zero]; rfl
  | k + 1, h => by rw [List.range_succ, accL_add, accL_range bs k (by omega), accB_succ bs k (by omega)]
theorem accL_lt (bs : List UInt8) : ∀ (n : Nat) (pre : List Nat), pre.length = n → accL bs pre < 256 ^ n
  | 0, pre, h => by rw [List.eq_nil_of_length_eq_zero h]; simp [accL]
  | n + 1, pre, h => by
    obtain ⟨q, x, rfl⟩ : ∃ q x, pre = q ++ [x] := ⟨pre.dropLast, pre.getLast (by intro e; subst e; simp at h), (List.dropLast_concat_getLast _).symm⟩
    rw [List.length_append] at h
    have h1 := accL_lt bs n q (by simpa using h)
    have h2 := (bs.getD (bs.length - 1 - x) 0).toNat_lt
    rw [accL_add, Nat.pow_succ]
    omega
theorem accL_lt7 (bs : List UInt8) (pre : List Nat) (h : pre.length ≤ 7) : accL bs pre < 72057594037927936 := by
  have h1 := accL_lt bs _ pre rfl
  have h3 := Nat.pow_le_pow_right (show 0 < 256 by omega) h
  have h4 : (256 : Nat) ^ 7 = 72057594037927936 := by decide
  omega

theorem shl_or (a y : Nat) (ha : a < 72057594037927936) (hy : y < 256) : bits .or .u64 ((a : Int) * 256) (IntKind.u64.wrap (y : Int)) = ((a * 256 + y : Nat) : Int) := by
  have h1 : IntKind.u64.wrap (y : Int) = (y : Int) := by
    exact IntWalk.u64_in _ (by omega)
  have h2 := u64_or_nat (a * 256) y (by omega) (by omega)
  rw [Int.natCast_mul] at h2
  rw [h1]
  refine h2.trans ?_
  have h3 := Nat.shiftLeft_add_eq_or_of_lt (show y < 2 ^ 8 by omega) a
  rw [Nat.shiftLeft_eq] at h3
  rw [← h3]
/-- Between two rounds. -/
def FxI (W : World) (I : Nat → Option Obj) (G : List (Nat × Obj)) (b5 : Nat) (bs : List UInt8) (pre : List Nat) (W1 : World) : Prop :=
  St W W1 I ((b5, .cells #[.int .u64 (accL bs pre : Nat)] 22 (0, 0)) :: G)

set_option maxRecDepth 100000 in
set_option maxHeartbeats 4000000 in
theorem code_fixed (h : RSt W w I g s F) (k : Nat) (hk : k ≤ 8) :
    Calls Tryd.prog 72 #[.pointer (some ⟨g, 0, none⟩), .int .i64 k] w fun e w' => e = .returned (.int .u64 (leV (tk k s).1 : Nat)) ∧ RSt W w' I g (tk k s).2 F := by
  obtain ⟨b5, hb5⟩ : ∃ b, b = w.heap.size := ⟨_, rfl⟩
  obtain ⟨A, n, c, e, hr, hst⟩ := h
  have h1 := hst.alloc (.cells #[.int .u64 0] 22)
  rw [← hb5] at h1
  have kW := within_any k hk
  have H1 := Lib.hid h1; have HR := Lib.hid hr; have KW := Lib.hid kW
  clear h1 hst hr kW
  refine (callsIn_wide (n := 3)).1 ?_
  refine callsIn_of_wp_marks Tryd.func72 rfl trivial ?_ rfl
  simp only [Tryd.ntmps72, List.size_toArray, List.length_cons, List.length_nil, Nat.reduceAdd, Nat.reduceSub, Array.replicate_succ, Array.replicate_zero, List.push_toArray, List.append_toArray, List.nil_append, List.cons_append]
  rw [wpIn_wide]
  go_wp2_with fail
  refine (KW.out _).mono ?_
  rintro e1 w2 ⟨rfl, rfl⟩
  clear KW
  rw [← hb5]
  clear hb5
  have kT := code_take (s := s) (g := g) ⟨A, n, c, e, HR.out, St.swap (A := [_]) (B := [_]) H1.out⟩ k (by omega)
  have KT := Lib.hid kT
  clear kT H1 HR
  go_wp2_with fail
  refine KT.out.mono ?_
  rintro e1 w3 ⟨⟨A0, cap, bs⟩, rfl, hbs, hl, hcap, hin, A3, n3, c3, e3, hr3, h3⟩
  simp only at hbs hl hcap
  have hl8 : bs.length ≤ 8 := by
    have := tk_len k s
    rw [← hbs] at this
    omega
  have kB := back_new A0 bs.length cap h3
  have hlv : leV (tk k s).1 = leV bs := by rw [hbs]
  have KB := Lib.hid kB; have HR3 := Lib.hid hr3; have HIN := Lib.hid hin; have HLV := Lib.hid hlv
  simp only [Part.val]
  clear kB h3 hr3 hin hlv hbs KT
  go_wp2_with fail
  refine KB.out.mono ?_
  rintro e1 w4 ⟨b1, rfl, h4⟩
  clear KB
  have hb1 : b1 < w4.heap.size := h4.lt (p := (b1, .cells #[.slice A0 bs.length cap] 40 (0, 0))) (by simp)
  have hb5' : b5 < w4.heap.size := h4.lt (p := (b5, .cells #[.int .u64 0] 22 (0, 0))) (by simp)
  have hB1 : w4.heap[b1]? = some (.cells #[.slice A0 bs.length cap] 40 (0, 0)) := h4.own (b1, _) (by simp)
  have hs4 := HIN.out _ _ h4
  have hc5 := fun i => h4.cell (g := b5) (cs := #[.int .u64 0]) (t := 22) (fr := (0, 0)) (by simp) i
  obtain ⟨bd, hbd, hbd5, hat⟩ : ∃ bd, bd < w4.heap.size ∧ bd ≠ b5 ∧ ∀ j u, (bs.map bval)[j]? = some u → ∃ ad, A0 = some ad ∧ ad.block = bd ∧ w4.cell? (ad.add j) = some u := by
    cases hbs : bs with
    | nil => exact ⟨b1, hb1, by
        have hn := h4.nodup
        simp at hn
        intro e
        exact hn.1.2.1 e, by simp⟩
    | cons x l =>
      obtain ⟨ad, e1, e2⟩ := hs4.2 0 (bval x) (by rw [hbs]; rfl)
      refine ⟨ad.block, ?_, ?_, ?_⟩
      · rw [← add_block ad 0]
        exact World.block_lt_of_cell? w4 _ e2
      · intro hb
        have e3 : (ad.add 0).block = b5 := by rw [add_block]; exact hb
        unfold World.cell? at e2
        rw [e3, h4.own (b5, .cells #[.int .u64 0] 22 (0, 0)) (by simp)] at e2
        simp only at e2
        split at e2
        · cases e2
        · cases ho : (ad.add 0).off with
          | zero => rw [ho] at e2; simp [bval] at e2
          | succ o => rw [ho] at e2; simp at e2
      · intro j u hj
        rw [← hbs] at hj
        obtain ⟨ad', f1, f2⟩ := hs4.2 j u hj
        rw [e1] at f1
        injection f1 with f1
        subst f1
        exact ⟨ad, e1, rfl, f2⟩
  have hR : BackAt A0 bs cap b1 bd w4 := ⟨hB1, hat⟩
  have hb15 : b1 ≠ b5 := by
    have hn := h4.nodup
    simp at hn
    intro e
    exact hn.1.2.1 e
  obtain ⟨G, hG⟩ : ∃ G, G = (b1, Obj.cells #[.slice A0 bs.length cap] 40 (0, 0)) :: (g, Obj.cells #[.slice A3 n3 c3, .int .i64 e3] 90 (0, 0)) :: F := ⟨_, rfl⟩
  have h5 : FxI W I G b5 bs [] w4 := by
    rw [hG]
    exact St.swap (A := [_, _]) (B := [_]) h4
  have hI := h4.ilt
  have hGl : ∀ p ∈ G, p.1 < w4.heap.size := fun p hp => St.lt h5 (List.mem_cons_of_mem _ hp)
  have own : OwnFrom w4.heap.size (FxI W I G b5 bs) := by
    rintro pre A B row hst hg hrow
    refine St.grown hst hI (fun p hp => .inl ?_) hg hrow
    rcases List.mem_cons.1 hp with rfl | hp
    · exact hb5'
    · exact hGl p hp
  have H5 := Lib.hid h5; have HR := Lib.hid hR; have OWN := Lib.hid own; have HG := Lib.hid hG; have HGL := Lib.hid hGl
  clear h4 h5 hR own hG hGl hs4 hc5 hB1 hat
  go_wp2_with fail
  refine (wpIn_wide (n := 3)).1 ?_
  refine' wpIn_rangeFunc_ownF (n := 3) rfl (by omega) (gf := 116) (lb := #[.pointer (some ⟨b1, 0, none⟩)]) rfl trivial (enters_of Tryd.func116 (by kernel_rfl) rfl)
    (back_stops 2 (by omega) b1 bd A0 cap bs (by omega) hcap w4 hb1 hbd HR.out) Kc_t (Kc_b hb1 hbd) (Below.refl _ _) (fun _ => rfl)
    (FxI W I G b5 bs) (fun _ _ _ => False) OWN.out (fun _ _ _ _ _ hs _ _ => hs) H5.out _ ?assign ?body ?done ?stop
  case assign =>
    intro l x W K hK
    gi_wp2
    exact hK
  case body =>
    rintro l pre x W1 hst hlen
    have hst : St W W1 I ((b5, .cells #[.int .u64 (accL bs pre : Nat)] 22 (0, 0)) :: G) := hst
    have hac := accL_lt7 bs pre (by omega)
    have hadd := accL_add bs pre x
    obtain ⟨y, hy⟩ : ∃ y, bs.getD (bs.length - 1 - x) 0 = y := ⟨_, rfl⟩
    rw [hy] at hadd
    obtain ⟨a, ha⟩ : ∃ a, accL bs pre = a := ⟨_, rfl⟩
    rw [ha] at hac hadd hst
    have e5 : W1.cell? ⟨b5, 0, none⟩ = some (.int .u64 (a : Nat)) := hst.cell (g := b5) (cs := #[.int .u64 (a : Nat)]) (t := 22) (fr := (0, 0)) (by simp) 0
    have f5 : W1.frozen? ⟨b5, 0, none⟩ = false := hst.frozen (g := b5) (cs := #[.int .u64 (a : Nat)]) (t := 22) (by simp) 0
    have HST := Lib.hid hst; have HADD := Lib.hid hadd
    clear hst hadd ha
    unfold benc
    rw [hy]
    clear hy
    unfold bval
    gi_wp2
    have hv := shl_or a y.toNat hac y.toNat_lt
    rw [hv, ← HADD.out]
    have h7 := St.set (A := []) HST.out 0 (.int .u64 (accL bs (pre ++ [x]) : Nat))
    have hst := HST.out
    obtain ⟨JJ, hle, hall, hstJ⟩ := hst.others
    have h8 := St.set (A := []) hstJ 0 (.int .u64 (accL bs (pre ++ [x]) : Nat))
    refine ⟨St.keeps hall (by simp [World.setCell]) (fun p hp hc => ?_) hst h8, fun q hq => ?_, h7⟩
    · rcases List.mem_cons.1 hp with rfl | hp
      · cases hc
      · exact List.mem_cons_of_mem _ hp
    · have hne : q ≠ b5 := by
        rcases hq with rfl | rfl
        · exact hb15
        · exact hbd5
      exact Below.heap_setCell _ _ _ _ hne
  case done =>
    rintro D ys W1 hD rfl hs hK
    have hst : St W W1 I ((b5, .cells #[.int .u64 (accL bs (List.range bs.length) : Nat)] 22 (0, 0)) :: G) := hs
    rw [accL_range bs _ (Nat.le_refl _), accB_all] at hst
    have hst' := hst.grown hI (fun p hp => .inl (by
      rcases List.mem_cons.1 hp with rfl | hp
      · exact hb5'
      · exact HGL.out p hp)) (grownBy_putObj' W1 D (.deferred none)) (fun r e => by cases e; exact ⟨hD, _, hK, rfl⟩)
    have e5 : W1.cell? ⟨b5, 0, none⟩ = some (.int .u64 (leV bs : Nat)) := hst.cell (g := b5) (cs := #[.int .u64 (leV bs : Nat)]) (t := 22) (fr := (0, 0)) (by simp) 0
    have HST := Lib.hid hst'; have HK := Lib.hid hK
    clear hst hst' hK hs
    go_wp2_with fail
    refine ⟨by simp, .inl ⟨_, _, rfl, run_takeDeferred HK.out, ?_⟩⟩
    refine ⟨_, results_tmp rfl _ _ _, by rw [HLV.out]; rfl, A3, n3, c3, e3, HR3.out, ?_⟩
    have h9 := St.weaken (A := [_]) HST.out
    rw [HG.out] at h9
    exact St.weaken (A := [_]) h9
  case stop =>
    rintro D c pre W1 _ _ h _
    exact h.elim
end
end
end Go.Proofs.YtpjfmgifddoppaaDoor
