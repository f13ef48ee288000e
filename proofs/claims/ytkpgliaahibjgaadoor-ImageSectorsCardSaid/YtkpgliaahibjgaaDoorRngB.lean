/- slices.Chunk of bytes: the iterator. -/
import Derived.Test.YtkpgliaahibjgaaDoorRngA
namespace Go.Proofs.YtkpgliaahibjgaaDoor
set_option linter.unusedVariables false
set_option linter.unusedSimpArgs false
open Go.RowKit Go.Lib Go.Shelf
attribute [local go_sem] Oper.semAt_some

/-- What a round keeps: two blocks. -/
def Kc (b1 b2 : Nat) (A B : World) : Prop := ∀ b, b = b1 ∨ b = b2 → B.heap[b]? = A.heap[b]?
theorem Kc_t {b1 b2 : Nat} {A B C : World} (h : Kc b1 b2 A B) (k : Kc b1 b2 B C) : Kc b1 b2 A C := fun b hb => (k b hb).trans (h b hb)
theorem Kc_b {b1 b2 N : Nat} (h1 : b1 < N) (h2 : b2 < N) (W : World) (l : Nat) (o o' : Obj) (hl : N ≤ l) (_h : W.heap[l]? = some o) (_h : o.isCells = false) (_h : o.isWalk = false) : Kc b1 b2 W (W.putObj l o') := fun b hb =>
  World.putObj_heap_other (by omega)
structure BoxAt (A0 : Option Addr) (len cap : Nat) (q : Nat) (b1 b2 : Nat) (W : World) : Prop where
  s : W.heap[b1]? = some (.cells #[.slice A0 len cap] 22 (0, 0))
  n : W.heap[b2]? = some (.cells #[.int .i64 q] 3 (0, 0))
theorem BoxAt.kept {A0 : Option Addr} {len cap q b1 b2 : Nat} {A B : World} (h : BoxAt A0 len cap q b1 b2 A) (k : Kc b1 b2 A B) : BoxAt A0 len cap q b1 b2 B := ⟨(k _ (.inl rfl)).trans h.s, (k _ (.inr rfl)).trans h.n⟩
theorem BoxAt.drew {A0 : Option Addr} {len cap q b1 b2 : Nat} {A : World} (h : BoxAt A0 len cap q b1 b2 A) (m : Nat) : BoxAt A0 len cap q b1 b2 (A.drewN m) := ⟨h.s, h.n⟩

/-- How many chunks; how long one is. -/
def chN (len q : Nat) : Nat := (len + q - 1) / q
theorem chN_iff {len q k : Nat} (hq : 1 ≤ q) : k < chN len q ↔ k * q < len := by
  unfold chN
  rw [Nat.lt_iff_add_one_le, Nat.le_div_iff_mul_le hq, Nat.add_mul]
  omega
def clen (len q k : Nat) : Nat := min q (len - k * q)
theorem chunkAt_clen (bs : List UInt8) (q k : Nat) : (chunkAt bs q k).length = clen bs.length q k := by simp [chunkAt, clen]
def cenc (A0 : Option Addr) (len q : Nat) (k : Nat) : Array Value := #[.slice (A0.map (·.add (k * q))) (clen len q k) (clen len q k)]
/-- Two bounds and the room. -/
theorem run_slice_full {P : Program} {t e : TypeId} (ht : P.underlying t = some (.slice e)) (hs : ∀ w, (sizeOf e).run P w = .ok 1 w) (A : Option Addr) (n c l h : Nat) (hl : l < h) (hc : h ≤ c) (w : World) :
    (Instr.slice t (.slice A n c) (some (.int .i64 (l : Int))) (some (.int .i64 (h : Int))) (some (.int .i64 (h : Int)))).run P w = .ok (.slice (A.map (·.add l)) (h - l) (h - l)) w := by
  have h1 : (0 : Int) ≤ h ∧ (h : Int) ≤ c := by omega
  have h2 : (0 : Int) ≤ l ∧ (l : Int) ≤ h := by omega
  have h3 : (l : Int) ≤ h := by omega
  have h4 : ¬ h - l = 0 := by omega
  have h5 : (h : Int) ≤ c := by omega
  have h6 : l ≤ h := by omega
  simp [Instr.slice, run_underlying ht, Instr.sliceBounds, Instr.sliceBound, asIntOf, hs, h3, h4, h5, h6, hc]
  intro h7
  omega
theorem run_slice_from' {P : Program} {t e : TypeId} (ht : P.underlying t = some (.slice e)) (hs : ∀ w, (sizeOf e).run P w = .ok 1 w) (A : Option Addr) (n c k : Nat) (hk : k ≤ n) (hc : n ≤ c) (w : World) :
    (Instr.slice t (.slice A n c) (some (.int .i64 (k : Int))) none none).run P w = .ok (.slice (subA A c k) (n - k) (c - k)) w := run_slice_from ht hs A n c k hk hc w

def ChunkDone (J Jx : List Nat → World → Prop) (N : Nat) (e : Ending) (W' : World) : Prop := (∃ v, e = .returned v) ∧ ((∃ ys, ys = List.range N ∧ J ys W') ∨ (∃ pre, (∃ k, k ≤ N ∧ pre = List.range k) ∧ Jx pre W'))
def CPost (J Jx : List Nat → World → Prop) (b1 b2 : Nat) (pre : List Nat) (x : Nat) (W : World) : Bool → World → Prop
  | true, W' => J (pre ++ [x]) W' ∧ Kc b1 b2 W W'
  | false, W' => Jx (pre ++ [x]) W'

set_option maxRecDepth 100000 in
set_option maxHeartbeats 1000000 in
theorem chunk1_in (n : Nat) (hn : 1 ≤ n) (l b1 b2 : Nat) (A0 : Option Addr) (cap len q : Nat) (hq : 1 ≤ q) (hq2 : q ≤ 9223372036854775807) (hl : len ≤ 1000000) (hcap : len ≤ cap) (J Jx : List Nat → World → Prop) (hJd : ∀ pre W m, J pre W → J pre (W.drewN m))
    (hY : ∀ pre x W, J pre W → pre.length < chN len q → YieldAt Fence.wide (n - 1) Tryd.prog l (cenc A0 len q x) W fun e W' =>
      (e = .returned (.bool true) ∧ J (pre ++ [x]) W' ∧ Kc b1 b2 W W') ∨ (e = .returned (.bool false) ∧ Jx (pre ++ [x]) W'))
    (W : World) (hR : BoxAt A0 len cap q b1 b2 W) (h0 : J [] W) :
    CallsIn Fence.wide n Tryd.prog 44 #[.func (.yield l) #[] #[], .pointer (some ⟨b1, 0, none⟩), .pointer (some ⟨b2, 0, none⟩)] W (ChunkDone J Jx (chN len q)) := by
  have cells : ∀ wr, BoxAt A0 len cap q b1 b2 wr → wr.cell? ⟨b1, 0, none⟩ = some (.slice A0 len cap) ∧ wr.cell? ⟨b2, 0, none⟩ = some (.int .i64 q) := fun wr h =>
    ⟨cell_of_row wr _ 0 _ _ _ h.s, cell_of_row wr _ 0 _ _ _ h.n⟩
  have CELLS := Lib.hid cells
  obtain ⟨c1, c2⟩ := cells W hR
  refine callsIn_of_wp Tryd.func44 rfl trivial ?_ rfl
  simp only [Tryd.ntmps44, List.size_toArray, List.length_cons, List.length_nil, Nat.reduceAdd, Nat.reduceSub, Array.replicate_succ, Array.replicate_zero, List.push_toArray, List.append_toArray, List.nil_append, List.cons_append]
  gi_wp2
  clear c1 c2 cells
  gi_loopw [4] (fun i wr => ∃ k P : Nat, k ≤ chN len q ∧ k * q = P ∧ i = .int .i64 P ∧ J (List.range k) wr ∧ BoxAt A0 len cap q b1 b2 wr) (fun i _ => chN len q * q - (intOf i).toNat)
  case atStart => exact ⟨0, 0, Nat.zero_le _, by omega, rfl, h0, hR⟩
  case round =>
    obtain ⟨k, P, hk, hP, rfl, hJs, hr⟩ := hrel
    clear h0 hR
    obtain ⟨c1, c2⟩ := CELLS.out wr hr
    by_cases hlt : P < len
    · have hkl : k < chN len q := (chN_iff hq).2 (by omega)
      have hPi : (P : Int) < (len : Int) := by omega
      have hP0 : (0 : Int) ≤ (P : Int) := by omega
      have hPl : (P : Int) ≤ (len : Int) := by omega
      obtain ⟨c, hc⟩ : ∃ c, clen len q k = c := ⟨_, rfl⟩
      have hc0 : 1 ≤ c ∧ P + c ≤ len ∧ (c = min q (len - P)) := by rw [← hc]; unfold clen; rw [hP]; omega
      obtain ⟨hc1, hc2, hc3⟩ := hc0
      have hmin2 : min (q : Int) ((len - P : Nat) : Int) = (c : Int) := by omega
      have HMN := Lib.hid hc3
      clear hc3
      obtain ⟨E, hE⟩ : ∃ E, P + c = E := ⟨_, rfl⟩
      have hEi : (P : Int) + (c : Int) = (E : Int) := by omega
      have sl := fun w => run_slice_full (P := Tryd.prog) Tryd.underlying22 Tryd.sizeOf5 A0 len cap P E (by omega) (by omega) w
      have sl2 := fun w => run_slice_from' (P := Tryd.prog) Tryd.underlying22 Tryd.sizeOf5 A0 len cap P (by omega) hcap w
      rw [show E - P = c by omega] at sl
      have hyld := hY (List.range k) k wr hJs (by rw [List.length_range]; exact hkl)
      have hyd : ∀ m, ∃ fn tmps assign body, (Instr.yield l #[.slice (A0.map (·.add P)) c c]).run Tryd.prog (wr.drewN m) = .ok (.round l fn tmps assign body) (wr.drewN m) ∧ RoundIn Fence.wide (n - 1) Tryd.prog l fn tmps assign body (wr.drewN m) fun e W' => ∃ b, e = .returned (.bool b) ∧ CPost J Jx b1 b2 (List.range k) k wr b W' := fun m => by
        have h9 := hY (List.range k) k (wr.drewN m) (hJd _ _ m hJs) (by rw [List.length_range]; exact hkl)
        unfold cenc at h9
        rw [hP, hc] at h9
        refine YieldAt.mono h9 ?_
        rintro e W' (⟨rfl, h1, h2⟩ | ⟨rfl, h1⟩)
        · exact ⟨true, rfl, h1, h2⟩
        · exact ⟨false, rfl, h1⟩
      have hqP : (P : Int) + (q : Int) ≤ 9223372036854775807 := by
        rcases Nat.eq_zero_or_pos k with h | h
        · subst h; simp at hP; omega
        · have := Nat.le_mul_of_pos_left q h
          omega
      have HYD := Lib.hid hyd; have HP := Lib.hid hP
      clear hyld hyd hP hE hc
      gi_wp2
      refine (wpIn_wide (n := n)).2 ?_
      go_quiet (fail)
      obtain ⟨fn, tmps, assign, body, hy, hR2⟩ := HYD.out nq
      have c1' : (wr.drewN nq).cell? ⟨b1, 0, none⟩ = some (.slice A0 len cap) := c1
      clear HYD
      gi_wp2
      refine hR2.mono ?_
      rintro e W3 ⟨b, rfl, hb⟩
      cases b with
      | true =>
        obtain ⟨hJ3, hk3⟩ := hb
        obtain ⟨d1, d2⟩ := CELLS.out W3 ((hr.drew nq).kept hk3)
        clear c1 c2 c1' hy hR2
        gi_wp2
        go_roundw
        case rel => exact ⟨k + 1, P + q, by omega, by rw [Nat.add_mul, HP.out]; omega, by go_num, by rw [List.range_succ]; exact hJ3, (hr.drew nq).kept hk3⟩
        case measure =>
          have h1 : P < chN len q * q := by
            rw [← HP.out]
            exact Nat.mul_lt_mul_of_pos_right hkl (by omega)
          simp [intOf]; omega
      | false =>
        have hJx3 : Jx _ _ := hb
        clear c1 c2 c1' hy hR2
        gi_wp2
        refine bodyPost_ret (results_none rfl _ _ _) rfl ?_
        exact ⟨⟨_, rfl⟩, .inr ⟨_, ⟨k + 1, by omega, by rw [List.range_succ]⟩, hJx3⟩⟩
    · have hke : k = chN len q := by
        rcases Nat.lt_or_ge k (chN len q) with h | h
        · have := (chN_iff hq).1 h; omega
        · omega
      have hPn : ¬ (P : Int) < (len : Int) := by omega
      have HKE := Lib.hid hke; have HJS := Lib.hid hJs
      clear hP hk hJs hlt hke
      gi_wp2
      go_end0
      exact ⟨⟨_, rfl⟩, .inl ⟨_, by rw [← HKE.out], HJS.out⟩⟩
end Go.Proofs.YtkpgliaahibjgaaDoor
