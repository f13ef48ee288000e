/- digest: Copy. digest: what a digest's cells say; one byte written. digest: Sum. digest: the function Sum, of parts. -/
import Derived.Test.YtfbffmckmchbbaaDoorDigNW
import Derived.Outline
import Derived.Test.YtfbffmckmchbbaaDoorParts
namespace Go.Proofs.YtfbffmckmchbbaaDoor
section
set_option linter.unusedVariables false
set_option linter.unusedSimpArgs false
open Go.RowKit

/-- AS ONE STEP of a region that draws its order. -/
theorem step_append_row {P : Program} {W w : World} {I : Nat → Option Obj} {F L : List (Nat × Obj)} {ops : Array Oper} {o : Oper} {a : Act} {K : Act → World → Prop} {Q : Exit → Act → World → Prop} {E : Prop} (hgd : o.guard = none) (s x : Operand) (t : TypeId)
    (ho : o.op = .call { callee := .builtin .append, args := #[s, x], argTypes := #[t, t] })
    (e : TypeId) (z : Value) (size bytes : Nat) (ht : P.underlying t = some (.slice e)) (hi : (P.info? e).map (fun i => (i.zero, i.size, i.bytes)) = some (some z, size, bytes)) (hzs : z.cells.size = size) (hsz : 0 < size)
    {v : Value} {n : Nat} {xs : List Value} (hs : a.eval s = v) (hrow : Row e size v n xs L) (hst : St W w I (L ++ F)) {A : Option Addr} {m c : Nat} {news : List Value} (hx : a.eval x = .slice A m c) (hsrc : Src w size A m news) (h1 : ∀ u ∈ news, u.oneCell' = true)
    (k : Nat) (hk : n + m = k) (ys : List Value) (hys : xs ++ news = ys) (h63 : k ≤ maxLen) (hbytes : k * bytes ≤ 140737488355328)
    (h : ∀ A' c' w' L', Row e size (.slice A' k c') k ys L' → St W w' I (L' ++ F) → K (a.put o.dst (.slice A' k c')) w') :
    if Region.wanted o (yielded ops a.tmps) = true then Oper.wp P o a w K Q else E := by
  have hw : Region.wanted o (yielded ops a.tmps) = true := by simp [Region.wanted, hgd]
  rw [if_pos hw]
  subst hk
  subst hys
  obtain ⟨v', w', L', hr, h2, h3⟩ := run_append_row (P := P) t o.type e z size bytes ht hi hzs hsz hrow hst (c := c) hsrc h1 h63 hbytes
  unfold Oper.wp execOp
  simp only [ho, resolve, invoke, builtin, Sem.run_bind, Sem.run_pure, Result.andThen_ok, List.map_toArray, List.map_cons, List.map_nil, hs, hx, hr]
  obtain ⟨A', c', rfl⟩ := h2.shape
  exact h A' c' w' L' h2 h3

theorem dall {W w : World} {I : Nat → Option Obj} {F : List (Nat × Obj)} {g : Nat} {s0 s1 s2 s3 s4 s5 s6 s7 : Wd} {rv : Value} {m : Int} (h : St W w I ((g, .cells (dcells [s0, s1, s2, s3, s4, s5, s6, s7] rv m) 132 (0, 0)) :: F)) :
    w.cell? ⟨g, 0, none⟩ = some (.int .u32 (wv s0)) ∧ w.cell? ⟨g, 1, none⟩ = some (.int .u32 (wv s1)) ∧ w.cell? ⟨g, 2, none⟩ = some (.int .u32 (wv s2)) ∧ w.cell? ⟨g, 3, none⟩ = some (.int .u32 (wv s3)) ∧ w.cell? ⟨g, 4, none⟩ = some (.int .u32 (wv s4)) ∧ w.cell? ⟨g, 5, none⟩ = some (.int .u32 (wv s5)) ∧ w.cell? ⟨g, 6, none⟩ = some (.int .u32 (wv s6)) ∧ w.cell? ⟨g, 7, none⟩ = some (.int .u32 (wv s7)) ∧ w.cell? ⟨g, 8, none⟩ = some rv ∧ w.cell? ⟨g, 9, none⟩ = some (.int .u64 m) := by
  have hc := h.cell (g := g) (cs := dcells [s0, s1, s2, s3, s4, s5, s6, s7] rv m) (t := 132) (fr := (0, 0)) (by simp)
  exact ⟨hc 0, hc 1, hc 2, hc 3, hc 4, hc 5, hc 6, hc 7, hc 8, hc 9⟩

/-- What Copy leaves. -/
def CopyPost (W : World) (I : Nat → Option Obj) (bs : List UInt8) (F : List (Nat × Obj)) (e : Ending) (w' : World) : Prop :=
  ∃ g', e = .returned (.pointer (some ⟨g', 0, none⟩)) ∧ DigSt W w' I g' bs F

set_option maxRecDepth 10000 in
set_option maxHeartbeats 1000000 in
theorem copy_any {W w : World} {I : Nat → Option Obj} {F L : List (Nat × Obj)} {g : Nat} {bs : List UInt8} (hd : Dig g bs L) (hst : St W w I (L ++ F)) :
    Calls Tryd.prog 90 #[.pointer (some ⟨g, 0, none⟩)] w (CopyPost W I bs (L ++ F)) := by
  have htr := took_rest bs
  have hts := took_state bs
  obtain ⟨rv, Lr, hr, rfl⟩ := hd
  obtain ⟨A, c, rfl⟩ := hr.shape
  have hfin : ∀ g' A' c' w' L', Row 5 1 (.slice A' (took bs).2.length c') (took bs).2.length ((took bs).2.map bval) L' → St W w' I ((g', .cells (dcells (took bs).1 (.slice A' (took bs).2.length c') bs.length) 132 (0, 0)) :: (L' ++ (((g, .cells (dcells (took bs).1 (.slice A (took bs).2.length c) bs.length) 132 (0, 0)) :: Lr) ++ F))) →
      DigSt W w' I g' bs (((g, .cells (dcells (took bs).1 (.slice A (took bs).2.length c) bs.length) 132 (0, 0)) :: Lr) ++ F) := fun g' A' c' w' L' h1 h2 => ⟨_, ⟨_, L', h1, rfl⟩, h2⟩
  generalize (took bs).1 = l at *
  generalize (took bs).2 = r at *
  obtain ⟨s0, s1, s2, s3, s4, s5, s6, s7, rfl⟩ := eight l hts
  have hsrc : ∀ w', St W w' I (((g, .cells (dcells [s0, s1, s2, s3, s4, s5, s6, s7] (.slice A r.length c) bs.length) 132 (0, 0)) :: Lr) ++ F) → Src w' 1 A r.length (r.map bval) := fun w' h' => hr.src (fun p hp => h'.own p (by simp [hp]))
  have hone : ∀ u ∈ r.map bval, u.oneCell' = true := by
    intro u hu
    obtain ⟨b, _, rfl⟩ := List.mem_map.1 hu
    rfl
  have HF := Lib.hid hfin; have HS := Lib.hid hst
  clear hfin hst
  go_enter Tryd.func90, Tryd.ntmps90
  go_wp2_with fail
  go_region_held3 (fun w' => w'.cell? ⟨g, 0, none⟩ = some (.int .u32 (wv s0)) ∧ w'.cell? ⟨g, 1, none⟩ = some (.int .u32 (wv s1)) ∧ w'.cell? ⟨g, 2, none⟩ = some (.int .u32 (wv s2)) ∧ w'.cell? ⟨g, 3, none⟩ = some (.int .u32 (wv s3)) ∧ w'.cell? ⟨g, 4, none⟩ = some (.int .u32 (wv s4)) ∧ w'.cell? ⟨g, 5, none⟩ = some (.int .u32 (wv s5)) ∧ w'.cell? ⟨g, 6, none⟩ = some (.int .u32 (wv s6)) ∧ w'.cell? ⟨g, 7, none⟩ = some (.int .u32 (wv s7)) ∧ w'.cell? ⟨g, 8, none⟩ = some (.slice A r.length c) ∧ w'.cell? ⟨g, 9, none⟩ = some (.int .u64 (bs.length : Int)))
    (first | exact dall HS.out.drew1 | exact dall (St.swap (B := [(g, _)]) h5) | exact dall (St.alloc_ (St.swap (B := [(g, _)]) h5) _))
    (first
    | (refine step_append_row (F := ((g, .cells (dcells [s0, s1, s2, s3, s4, s5, s6, s7] (.slice A r.length c) bs.length) 132 (0, 0)) :: Lr) ++ F) rfl (.const (.slice none 0 0)) (.tmp 10) _ rfl 5 (.int .u8 0) 1 1 Tryd.underlying22 (by kernel_rfl) rfl (by omega) rfl (Row.nil 5 1) (by exact HS.out.drew1) rfl (by exact hsrc _ HS.out.drew1) hone r.length (by omega) (r.map bval) rfl (by unfold maxLen; omega) (by omega) ?_; intro A5 c5 w5 L5 hr5 h5))
  go_wp2_with fail
  go_ret
  exact ⟨w5.heap.size, rfl, HF.out _ A5 c5 _ L5 hr5 (h5.alloc _)⟩
end

section
set_option linter.unusedVariables false
set_option linter.unusedSimpArgs false
open Go.RowKit

theorem eat_mod : ∀ (n : Nat) (l : List Wd) (bs : List UInt8), bs.length < 64 * (n + 1) → (eat n l bs).2.length = bs.length % 64
  | 0, l, bs, h => by simp only [eat]; omega
  | n + 1, l, bs, h => by
    rw [eat]
    split
    · rw [eat_mod n _ _ (by rw [List.length_drop]; omega), List.length_drop]; omega
    · simp only []; omega
theorem took_mod (bs : List UInt8) : (took bs).2.length = bs.length % 64 := eat_mod _ _ _ (by omega)

theorem DigSt.many {W w : World} {I : Nat → Option Obj} {g : Nat} {bs : List UInt8} {F : List (Nat × Obj)} (h : DigSt W w I g bs F) : w.cell? ⟨g, 9, none⟩ = some (.int .u64 (bs.length : Int)) := by
  obtain ⟨L, ⟨rv, Lr, hr, rfl⟩, hst⟩ := h
  obtain ⟨s0, s1, s2, s3, s4, s5, s6, s7, e⟩ := eight _ (took_state bs)
  rw [e] at hst
  exact (dall hst).2.2.2.2.2.2.2.2.2

theorem DigSt.rest {W w : World} {I : Nat → Option Obj} {g : Nat} {bs : List UInt8} {F : List (Nat × Obj)} (h : DigSt W w I g bs F) : ∃ A c n, n = bs.length % 64 ∧ w.cell? ⟨g, 8, none⟩ = some (.slice A n c) := by
  obtain ⟨L, ⟨rv, Lr, hr, rfl⟩, hst⟩ := h
  obtain ⟨s0, s1, s2, s3, s4, s5, s6, s7, e⟩ := eight _ (took_state bs)
  rw [e] at hst
  obtain ⟨A, c, rfl⟩ := hr.shape
  exact ⟨A, c, _, took_mod bs, (dall hst).2.2.2.2.2.2.2.2.1⟩

theorem DigSt.state {W w : World} {I : Nat → Option Obj} {g : Nat} {bs : List UInt8} {F : List (Nat × Obj)} (h : DigSt W w I g bs F) {s0 s1 s2 s3 s4 s5 s6 s7 : Wd} (e : (took bs).1 = [s0, s1, s2, s3, s4, s5, s6, s7]) :
    w.cell? ⟨g, 0, none⟩ = some (.int .u32 (wv s0)) ∧ w.cell? ⟨g, 1, none⟩ = some (.int .u32 (wv s1)) ∧ w.cell? ⟨g, 2, none⟩ = some (.int .u32 (wv s2)) ∧ w.cell? ⟨g, 3, none⟩ = some (.int .u32 (wv s3)) ∧ w.cell? ⟨g, 4, none⟩ = some (.int .u32 (wv s4)) ∧ w.cell? ⟨g, 5, none⟩ = some (.int .u32 (wv s5)) ∧ w.cell? ⟨g, 6, none⟩ = some (.int .u32 (wv s6)) ∧ w.cell? ⟨g, 7, none⟩ = some (.int .u32 (wv s7)) := by
  obtain ⟨L, ⟨rv, Lr, hr, rfl⟩, hst⟩ := h
  rw [e] at hst
  have := dall hst
  exact ⟨this.1, this.2.1, this.2.2.1, this.2.2.2.1, this.2.2.2.2.1, this.2.2.2.2.2.1, this.2.2.2.2.2.2.1, this.2.2.2.2.2.2.2.1⟩

theorem DigSt.alloc {W w : World} {I : Nat → Option Obj} {g : Nat} {bs : List UInt8} {F : List (Nat × Obj)} (h : DigSt W w I g bs F) (o : Obj) : DigSt W (w.alloc o) I g bs ((w.heap.size, o) :: F) := by
  obtain ⟨L, hd, hst⟩ := h
  exact ⟨L, hd, St.swap (A := [(w.heap.size, o)]) (B := L) (hst.alloc o)⟩

theorem DigSt.alloc_ {W w : World} {I : Nat → Option Obj} {g : Nat} {bs : List UInt8} {F : List (Nat × Obj)} (h : DigSt W w I g bs F) (o : Obj) : DigSt W (w.alloc o) I g bs F := by
  obtain ⟨L, hd, hst⟩ := h
  exact ⟨L, hd, hst.alloc_ o⟩

theorem DigSt.less {W w : World} {I : Nat → Option Obj} {g : Nat} {bs : List UInt8} {p : Nat × Obj} {F : List (Nat × Obj)} (h : DigSt W w I g bs (p :: F)) : DigSt W w I g bs F := by
  obtain ⟨L, hd, hst⟩ := h
  exact ⟨L, hd, St.mid (A := L) (B := [p]) hst⟩

theorem DigSt.frame {W w : World} {I : Nat → Option Obj} {g : Nat} {bs : List UInt8} {F : List (Nat × Obj)} (h : DigSt W w I g bs F) : St W w I F := by
  obtain ⟨L, hd, hst⟩ := h
  exact hst.weaken

theorem write_one {W w : World} {I : Nat → Option Obj} {F : List (Nat × Obj)} {g n : Nat} {bs : List UInt8} (b : UInt8) (hd : DigSt W w I g bs F) (hlen : bs.length < 1099511627776) (hn : n = w.heap.size) :
    Calls Tryd.prog 71 #[.pointer (some ⟨g, 0, none⟩), .slice (some ⟨n, 0, none⟩) 1 1] (w.alloc (.cells #[.int .u8 (b.toNat : Int)] 5)) fun e w' => e = .returned (.tuple #[]) ∧ DigSt W w' I g (bs ++ [b]) F := by
  subst hn
  refine (write_any [b] (some ⟨w.heap.size, 0, none⟩) 1 (hd.alloc _) ?_ (by simp; omega)).mono ?_
  · intro w' L' h'
    refine ⟨rfl, fun j u hj => ⟨_, rfl, ?_⟩⟩
    have hj0 : j = 0 := by
      have := (List.getElem?_eq_some_iff.1 hj).1
      simp at this
      exact this
    subst hj0
    rw [show (⟨w.heap.size, 0, none⟩ : Addr).add 0 = ⟨w.heap.size, 0, none⟩ from rfl, h'.cell (g := w.heap.size) (cs := #[.int .u8 (b.toNat : Int)]) (t := 5) (fr := (0, 0)) (by simp)]
    exact hj
  · rintro e w' ⟨rfl, h⟩
    exact ⟨rfl, h.less⟩

/-- How many zeros stand behind. -/
def padZ (n : Nat) : Nat := (119 - n % 64) % 64
/-- The last eight bytes: how many bits, modulo 2^64. -/
def lenByte (n i : Nat) : UInt8 := UInt8.ofNat (n * 8 % 18446744073709551616 / 2 ^ (56 - 8 * i))
/-- What the state takes in the end. -/
def endTo (bs : List UInt8) (i : Nat) : List UInt8 := (bs ++ [128] ++ List.replicate (padZ bs.length) 0) ++ (List.range i).map (lenByte bs.length)
/-- The state in the end, and its bytes. -/
def endState (bs : List UInt8) : List Wd := (took (endTo bs 8)).1
def hashByte (l : List Wd) (i : Nat) : UInt8 := UInt8.ofNat ((l.getD (i / 4) 0).toNat / 2 ^ (24 - 8 * (i % 4)))
def hashOf (bs : List UInt8) : List UInt8 := (List.range 32).map (hashByte (endState bs))
end

section
set_option linter.unusedVariables false
set_option linter.unusedSimpArgs false
open Go.RowKit

theorem write_oneV {W w : World} {I : Nat → Option Obj} {F : List (Nat × Obj)} {g n : Nat} {bs : List UInt8} (b : UInt8) (v : Int) (hv : v = b.toNat) (hd : DigSt W w I g bs F) (hlen : bs.length < 1099511627776) (hn : n = w.heap.size) :
    Calls Tryd.prog 71 #[.pointer (some ⟨g, 0, none⟩), .slice (some ⟨n, 0, none⟩) 1 1] (w.alloc (.cells #[.int .u8 v] 5)) fun e w' => e = .returned (.tuple #[]) ∧ DigSt W w' I g (bs ++ [b]) F := by
  subst hv; exact write_one b hd hlen hn

/-- An array of 32 bytes that is filled from its head. -/
def bpart (l : List UInt8) : Array Value := (l.map bval ++ List.replicate (32 - l.length) (Value.int .u8 0)).toArray
theorem zero32_cells : bpart [] = #[.int .u8 0, .int .u8 0, .int .u8 0, .int .u8 0, .int .u8 0, .int .u8 0, .int .u8 0, .int .u8 0, .int .u8 0, .int .u8 0, .int .u8 0, .int .u8 0, .int .u8 0, .int .u8 0, .int .u8 0, .int .u8 0, .int .u8 0, .int .u8 0, .int .u8 0, .int .u8 0, .int .u8 0, .int .u8 0, .int .u8 0, .int .u8 0, .int .u8 0, .int .u8 0, .int .u8 0, .int .u8 0, .int .u8 0, .int .u8 0, .int .u8 0, .int .u8 0] := by kernel_rfl

theorem bpart_size (l : List UInt8) (h : l.length ≤ 32) : (bpart l).size = 32 := by simp [bpart]; omega
theorem bpart_push (l : List UInt8) (x : UInt8) (h : l.length < 32) : (bpart l).setIfInBounds l.length (bval x) = bpart (l ++ [x]) := by
  unfold bpart
  apply Array.toList_inj.1
  rw [Array.toList_setIfInBounds]
  simp only [List.map_append, List.map_cons, List.map_nil, List.length_append, List.length_cons, List.length_nil, Nat.zero_add, List.append_assoc]
  have e : 32 - l.length = (32 - (l.length + 1)) + 1 := by omega
  rw [e, List.replicate_succ, List.set_append_right _ _ (by simp)]
  simp
theorem bpart_has (l : List UInt8) (h : l.length ≤ 32) (i : Nat) (hi : i < 32) : ∃ v, (bpart l)[i]? = some v := ⟨_, Array.getElem?_eq_getElem (by rw [bpart_size l h]; exact hi)⟩
/-- The first n bytes of the hash, one more. -/
theorem bpart_next (S : List Wd) (n : Nat) (h : n < 32) : (bpart ((List.range n).map (hashByte S))).setIfInBounds n (bval (hashByte S n)) = bpart ((List.range (n + 1)).map (hashByte S)) := by
  have := bpart_push ((List.range n).map (hashByte S)) (hashByte S n) (by simpa using h)
  rw [List.length_map, List.length_range] at this
  rw [this, List.range_succ, List.map_append]
  rfl

set_option maxRecDepth 10000 in
set_option maxHeartbeats 1000000 in
theorem sum_any {W w : World} {I : Nat → Option Obj} {F L : List (Nat × Obj)} {g : Nat} {bs : List UInt8} (hd : Dig g bs L) (hst : St W w I (L ++ F)) (hlen : bs.length ≤ 549755813888) :
    Calls Tryd.prog 72 #[.pointer (some ⟨g, 0, none⟩)] w fun e w' => e = .returned (.agg (bpart (hashOf bs))) ∧ St W w' I (L ++ F) := by
  have h0 : St W (w.alloc (.cells (bpart []) 26)) I (L ++ ((w.heap.size, .cells (bpart []) 26) :: F)) := St.swap (A := [(w.heap.size, _)]) (B := L) (hst.alloc _)
  rw [zero32_cells] at h0
  generalize hF' : (w.heap.size, Obj.cells #[.int .u8 0, .int .u8 0, .int .u8 0, .int .u8 0, .int .u8 0, .int .u8 0, .int .u8 0, .int .u8 0, .int .u8 0, .int .u8 0, .int .u8 0, .int .u8 0, .int .u8 0, .int .u8 0, .int .u8 0, .int .u8 0, .int .u8 0, .int .u8 0, .int .u8 0, .int .u8 0, .int .u8 0, .int .u8 0, .int .u8 0, .int .u8 0, .int .u8 0, .int .u8 0, .int .u8 0, .int .u8 0, .int .u8 0, .int .u8 0, .int .u8 0, .int .u8 0] 26) :: F = F' at h0
  have HF' := Lib.hid hF'; clear hF'
  have H0 := Lib.hid h0; clear h0 hst
  have e8 : ((bs.length : Int) * 8) % 18446744073709551616 = bs.length * 8 := Int.emod_eq_of_lt (by omega) (by omega)
  go_enter Tryd.func72, Tryd.ntmps72
  go_wp2_with fail
  refine (copy_any hd H0.out).mono ?_
  rintro e w1 ⟨g1, rfl, hd1⟩
  have qm := hd1.many
  go_wp2_with (go_at_call 71; refine Hid.out ?_)
  refine Lib.hid ?_
  refine (write_oneV 128 128 (by decide) hd1 (by omega) rfl).mono ?_
  rintro e w2 ⟨rfl, hd2⟩
  clear qm hd1
  go_wp2_with fail
  go_loopw [] (fun wr => ∃ j, j ≤ padZ bs.length ∧ DigSt W wr I g1 (bs ++ [128] ++ List.replicate j 0) (L ++ F')) (fun wr => (120 - restLen g1 wr) % 64)
  case atStart => exact ⟨0, by omega, by simpa using hd2⟩
  case round =>
    obtain ⟨j, hj, hd3⟩ := hrel
    obtain ⟨A3, c3, n3, hn3, q3⟩ := hd3.rest
    have hn3' : n3 = (bs.length + 1 + j) % 64 := by rw [hn3]; simp only [List.length_append, List.length_replicate, List.length_cons, List.length_nil]; try omega
    by_cases h56 : n3 = 56
    · have hjp : j = padZ bs.length := by unfold padZ at hj ⊢; omega
      subst hjp
      clear hn3 hn3' hj hd2
      subst h56
      go_wp2_with fail
      clear q3
      go_loopw [29] (fun i wr => ∃ k : Nat, k ≤ 8 ∧ i = .int .i64 k ∧ DigSt W wr I g1 (endTo bs k) (L ++ F')) (fun i _ => 8 - (intOf i).toNat)
      case atStart => exact ⟨0, by omega, rfl, by simpa [endTo] using hd3⟩
      case round =>
        obtain ⟨k, hk, rfl, hd5⟩ := hrel
        by_cases hk8 : k < 8
        · have hlk : (endTo bs k).length < 1099511627776 := by
            simp only [endTo, List.length_append, List.length_replicate, List.length_cons, List.length_nil, List.length_map, List.length_range]
            unfold padZ; omega
          have hnext : ∀ w', DigSt W w' I g1 (endTo bs k ++ [lenByte bs.length k]) (L ++ F') → DigSt W w' I g1 (endTo bs (k + 1)) (L ++ F') := fun w' h => by
            rw [endTo, List.range_succ, List.map_append, ← List.append_assoc]
            exact h
          clear hd3
          generalize hby : lenByte bs.length k = by8 at hnext
          rcases (show k = 0 ∨ k = 1 ∨ k = 2 ∨ k = 3 ∨ k = 4 ∨ k = 5 ∨ k = 6 ∨ k = 7 by omega) with rfl | rfl | rfl | rfl | rfl | rfl | rfl | rfl
          all_goals
            go_wp2_with (go_at_call 71; refine Hid.out ?_)
            refine Lib.hid ?_
            refine (write_oneV by8 _ ?_ hd5 hlk rfl).mono ?_
            · rw [← hby]; unfold lenByte; simp only [UInt8.toNat_ofNat']; first | omega | (simp; omega)
            rintro e w6 ⟨rfl, hd6⟩
            have hd7 := hnext _ hd6
            go_wp2_with fail
            go_roundw
            case rel => refine ⟨_, ?_, ?_, hd7⟩ <;> first | omega | go_num | simp
            case measure => simp [intOf]
        · have : k = 8 := by omega
          subst this
          obtain ⟨s0, s1, s2, s3, s4, s5, s6, s7, es⟩ := eight _ (took_state (endTo bs 8))
          have hd6 := hd5.alloc (.cells #[.int .u8 0, .int .u8 0, .int .u8 0, .int .u8 0, .int .u8 0, .int .u8 0, .int .u8 0, .int .u8 0, .int .u8 0, .int .u8 0, .int .u8 0, .int .u8 0, .int .u8 0, .int .u8 0, .int .u8 0, .int .u8 0, .int .u8 0, .int .u8 0, .int .u8 0, .int .u8 0, .int .u8 0, .int .u8 0, .int .u8 0, .int .u8 0, .int .u8 0, .int .u8 0, .int .u8 0, .int .u8 0, .int .u8 0, .int .u8 0, .int .u8 0, .int .u8 0] 26)
          obtain ⟨q0, q1, q2, q3, q4, q5, q6, q7⟩ := (hd5.alloc_ (.cells #[.int .u8 0, .int .u8 0, .int .u8 0, .int .u8 0, .int .u8 0, .int .u8 0, .int .u8 0, .int .u8 0, .int .u8 0, .int .u8 0, .int .u8 0, .int .u8 0, .int .u8 0, .int .u8 0, .int .u8 0, .int .u8 0, .int .u8 0, .int .u8 0, .int .u8 0, .int .u8 0, .int .u8 0, .int .u8 0, .int .u8 0, .int .u8 0, .int .u8 0, .int .u8 0, .int .u8 0, .int .u8 0, .int .u8 0, .int .u8 0, .int .u8 0, .int .u8 0] 26)).state es
          have es' : endState bs = [s0, s1, s2, s3, s4, s5, s6, s7] := es
          have ES := Lib.hid es'
          have hst6 := hd6.frame
          clear es es' hd5 hd6 hd3
          go_wp2_with fail
          have hst7 : St W (wr.alloc (.cells #[.int .u8 0, .int .u8 0, .int .u8 0, .int .u8 0, .int .u8 0, .int .u8 0, .int .u8 0, .int .u8 0, .int .u8 0, .int .u8 0, .int .u8 0, .int .u8 0, .int .u8 0, .int .u8 0, .int .u8 0, .int .u8 0, .int .u8 0, .int .u8 0, .int .u8 0, .int .u8 0, .int .u8 0, .int .u8 0, .int .u8 0, .int .u8 0, .int .u8 0, .int .u8 0, .int .u8 0, .int .u8 0, .int .u8 0, .int .u8 0, .int .u8 0, .int .u8 0] 26)) I ((wr.heap.size, .cells (bpart ((List.range (4 * 0)).map (hashByte [s0, s1, s2, s3, s4, s5, s6, s7]))) 26) :: (L ++ F')) := hst6
          clear hst6 q0 q1 q2 q3 q4 q5 q6 q7
          generalize wr.heap.size = g6 at *
          go_loopw [46] (fun i wq => ∃ k : Nat, k ≤ 8 ∧ i = .int .i64 k ∧ St W wq I ((g6, .cells (bpart ((List.range (4 * k)).map (hashByte [s0, s1, s2, s3, s4, s5, s6, s7]))) 26) :: (L ++ F'))) (fun i _ => 8 - (intOf i).toNat)
          case atStart => exact ⟨0, by omega, rfl, hst7⟩
          case round =>
            obtain ⟨k, hk, rfl, hs7⟩ := hrel
            clear hst7
            by_cases hk8 : k < 8
            · have ixk : ∀ w, (Instr.index 129 (.agg #[Value.int .u32 (wv s0), Value.int .u32 (wv s1), Value.int .u32 (wv s2), Value.int .u32 (wv s3), Value.int .u32 (wv s4), Value.int .u32 (wv s5), Value.int .u32 (wv s6), Value.int .u32 (wv s7)]) (.int .i64 (k : Int))).run Tryd.prog w = .ok (.int .u32 (wv ([s0, s1, s2, s3, s4, s5, s6, s7].getD k 0))) w := by
                intro w
                rcases (show k = 0 ∨ k = 1 ∨ k = 2 ∨ k = 3 ∨ k = 4 ∨ k = 5 ∨ k = 6 ∨ k = 7 by omega) with rfl | rfl | rfl | rfl | rfl | rfl | rfl | rfl <;> kernel_rfl
              obtain ⟨X, hX⟩ : ∃ X, X = [s0, s1, s2, s3, s4, s5, s6, s7].getD k 0 := ⟨_, rfl⟩
              rw [← hX] at ixk
              have HX := Lib.hid hX
              clear hX
              go_wp2_with fail
              clear ixk
              go_loopw [50] (fun i wq => ∃ j : Nat, j ≤ 4 ∧ i = .int .i64 j ∧ St W wq I ((g6, .cells (bpart ((List.range (4 * k + j)).map (hashByte [s0, s1, s2, s3, s4, s5, s6, s7]))) 26) :: (L ++ F'))) (fun i _ => 4 - (intOf i).toNat)
              case atStart => exact ⟨0, by omega, rfl, hs7⟩
              case round =>
                obtain ⟨j, hj, rfl, hs8⟩ := hrel
                by_cases hj4 : j < 4
                · have hK4 : 4 * k + j < 32 := by omega
                  obtain ⟨v0, hv0⟩ := bpart_has ((List.range (4 * k + j)).map (hashByte [s0, s1, s2, s3, s4, s5, s6, s7])) (by simp; omega) (4 * k + j) hK4
                  have q := hs8.cell (g := g6) (cs := bpart ((List.range (4 * k + j)).map (hashByte [s0, s1, s2, s3, s4, s5, s6, s7]))) (t := 26) (fr := (0, 0)) (by simp) (4 * k + j)
                  rw [hv0] at q
                  have f := hs8.frozen (g := g6) (cs := bpart ((List.range (4 * k + j)).map (hashByte [s0, s1, s2, s3, s4, s5, s6, s7]))) (t := 26) (by simp) (4 * k + j)
                  have hby : wv X / 2 ^ (24 - 8 * j) % 256 = ((hashByte [s0, s1, s2, s3, s4, s5, s6, s7] (4 * k + j)).toNat : Int) := by
                    unfold hashByte
                    rw [show (4 * k + j) / 4 = k by omega, show (4 * k + j) % 4 = j by omega, ← HX.out, UInt8.toNat_ofNat', wv_nat]
                    simp
                  have hset : St W (wr.setCell ⟨g6, 4 * k + j, none⟩ (.int .u8 (wv X / 2 ^ (24 - 8 * j) % 256))) I ((g6, .cells (bpart ((List.range (4 * k + (j + 1))).map (hashByte [s0, s1, s2, s3, s4, s5, s6, s7]))) 26) :: (L ++ F')) := by
                    rw [hby, show 4 * k + (j + 1) = (4 * k + j) + 1 by omega, ← bpart_next _ _ hK4]
                    exact St.set (A := []) hs8 (4 * k + j) _
                  clear hs8 hs7 hv0 hK4 hby
                  have HS := Lib.hid hset
                  clear hset
                  go_wp2_with fail
                  go_roundw
                  case rel => exact ⟨j + 1, by omega, by go_num, HS.out⟩
                  case measure => simp [intOf]; omega
                · obtain rfl : j = 4 := by omega
                  go_wp2_with fail
                  go_roundw
                  case rel => exact ⟨k + 1, by omega, by go_num, hs8⟩
                  case measure => simp [intOf]; omega
            · obtain rfl : k = 8 := by omega
              have eF := HF'.out
              rw [← eF] at hs7
              rw [← zero32_cells] at hs7
              have hs' : St W wr I ((w.heap.size, .cells (bpart []) 26) :: ((g6, .cells (bpart ((List.range (4 * 8)).map (hashByte [s0, s1, s2, s3, s4, s5, s6, s7]))) 26) :: (L ++ F))) := St.perm hs7 (List.perm_middle (l₁ := (g6, _) :: L))
              have hp : (g6, Obj.cells (bpart ((List.range (4 * 8)).map (hashByte [s0, s1, s2, s3, s4, s5, s6, s7]))) 26 (0, 0)) ∈ (g6, Obj.cells (bpart ((List.range (4 * 8)).map (hashByte [s0, s1, s2, s3, s4, s5, s6, s7]))) 26 (0, 0)) :: (L ++ ((w.heap.size, Obj.cells (bpart []) 26 (0, 0)) :: F)) := by simp
              have hCS : bpart ((List.range (4 * 8)).map (hashByte [s0, s1, s2, s3, s4, s5, s6, s7])) = bpart (hashOf bs) := by rw [hashOf, ES.out]
              have z1 : (bpart ((List.range (4 * 8)).map (hashByte [s0, s1, s2, s3, s4, s5, s6, s7]))).size = 32 := bpart_size _ (by simp)
              have z0 : (bpart []).size = 32 := bpart_size _ (by simp)
              have o1 : (bpart ((List.range (4 * 8)).map (hashByte [s0, s1, s2, s3, s4, s5, s6, s7]))).all (·.oneCell') = true := by
                unfold bpart
                exact all_oneCell_toArray (by simp [bval, Value.oneCell'])
              have HCS := Lib.hid hCS
              clear hCS HF' eF
              generalize bpart ((List.range (4 * 8)).map (hashByte [s0, s1, s2, s3, s4, s5, s6, s7])) = CS at *
              have hy : ∀ j, j < CS.size → CS[0 + j]? = CS[j]? := fun j _ => by rw [Nat.zero_add]
              have i1 : (Tryd.prog.info? 26).map (·.size) = some CS.size := by rw [z1]; kernel_rfl
              have ew : setMany (bpart []) 0 CS.toList = CS := by rw [setMany_whole _ _ (by simp [z0, z1])]
              have f1 : 0 + CS.size ≤ (bpart []).size := by omega
              have Z1 := Lib.hid z1; have Z0 := Lib.hid z0; have EW := Lib.hid ew
              clear z1 z0 ew H0
              generalize bpart [] = C0 at *
              go_wp2_with (first
                | (with_reducible refine wpList_load_st rfl 26 (.tmp 6) rfl (g := g6) (off := 0) rfl hs7 hp CS hy _ Tryd.underlying26 rfl i1 ?_)
                | (with_reducible refine wpList_store_st rfl 26 (.tmp 2) (.tmp 66) rfl (g := w.heap.size) (off := 0) CS rfl rfl hs' f1 i1 o1 ?_; intro w9 h9))
              rw [EW.out] at h9
              clear hs7 hs' hp
              go_wp2_with fail
              refine bodyPost_ret (results_cell_row rfl _ w9 w.heap.size 26 CS (0, 0) _ rfl (h9.own (w.heap.size, .cells CS 26 (0, 0)) (by simp)) Tryd.underlying26 (by kernel_rfl) i1) rfl ?_
              exact ⟨by rw [HCS.out], h9.weaken (A := [_, _])⟩
    · have h56' : ¬ ((n3 : Int) = 56) := by omega
      go_wp2_with (go_at_call 71; refine Hid.out ?_)
      refine Lib.hid ?_
      refine (write_oneV 0 0 (by decide) hd3 (by simp; unfold padZ at hj; omega) rfl).mono ?_
      rintro e w4 ⟨rfl, hd4⟩
      obtain ⟨A4, c4, n4, hn4, q4⟩ := hd4.rest
      have hn4' : n4 = (bs.length + 2 + j) % 64 := by rw [hn4]; simp only [List.length_append, List.length_replicate, List.length_cons, List.length_nil]; omega
      have hd5 : DigSt W w4 I g1 (bs ++ [128] ++ List.replicate (j + 1) 0) (L ++ F') := by
        rw [List.replicate_succ', ← List.append_assoc]; exact hd4
      go_wp2_with fail
      go_roundw
      case rel => exact ⟨j + 1, by unfold padZ at hj ⊢; omega, hd5⟩
      case measure =>
        rw [restLen, restLen, q3, q4]
        simp only []
        omega
end

section
set_option linter.unusedVariables false
set_option linter.unusedSimpArgs false
open Go.RowKit

theorem bpart_one (l : List UInt8) : (bpart l).all (·.oneCell') = true := by
  unfold bpart
  apply all_oneCell_toArray
  intro v hv
  rcases List.mem_append.1 hv with h | h
  · obtain ⟨b, _, rfl⟩ := List.mem_map.1 h; rfl
  · rw [List.eq_of_mem_replicate h]; rfl

set_option maxRecDepth 10000 in
set_option maxHeartbeats 1000000 in
theorem all_any {W w : World} {I : Nat → Option Obj} {F : List (Nat × Obj)} (ps : List Part) {gp op cp n : Nat} (hst : St W w I F) (hn : n = ps.length)
    (hcell : ∀ w' L', St W w' I (L' ++ F) → ∀ i p, ps[i]? = some p → w'.cell? ⟨gp, op + i, none⟩ = some p.val)
    (hsrc : ∀ w' L', St W w' I (L' ++ F) → ∀ p ∈ ps, Src w' 1 p.A p.bs.length (p.bs.map bval)) (hlen : (cat ps).length ≤ 549755813888) (hpl : n ≤ 9223372036854775806) :
    Calls Tryd.prog 43 #[.slice (some ⟨gp, op, none⟩) n cp] w fun e w' => e = .returned (.agg (bpart (hashOf (cat ps)))) ∧ St W w' I F := by
  subst hn
  have h0 : St W (w.alloc (.cells (bpart []) 26)) I ((w.heap.size, .cells (bpart []) 26) :: F) := hst.alloc _
  rw [zero32_cells] at h0
  generalize hF' : (w.heap.size, Obj.cells #[.int .u8 0, .int .u8 0, .int .u8 0, .int .u8 0, .int .u8 0, .int .u8 0, .int .u8 0, .int .u8 0, .int .u8 0, .int .u8 0, .int .u8 0, .int .u8 0, .int .u8 0, .int .u8 0, .int .u8 0, .int .u8 0, .int .u8 0, .int .u8 0, .int .u8 0, .int .u8 0, .int .u8 0, .int .u8 0, .int .u8 0, .int .u8 0, .int .u8 0, .int .u8 0, .int .u8 0, .int .u8 0, .int .u8 0, .int .u8 0, .int .u8 0, .int .u8 0] 26) :: F = F' at h0
  have hcell' : ∀ w' L', St W w' I (L' ++ F') → ∀ i p, ps[i]? = some p → w'.cell? ⟨gp, op + i, none⟩ = some p.val := by
    intro w' L' h'
    rw [← hF'] at h'
    exact hcell w' (L' ++ [_]) (by rw [List.append_assoc]; exact h')
  have hsrc' : ∀ w' L', St W w' I (L' ++ F') → ∀ p ∈ ps, Src w' 1 p.A p.bs.length (p.bs.map bval) := by
    intro w' L' h'
    rw [← hF'] at h'
    exact hsrc w' (L' ++ [_]) (by rw [List.append_assoc]; exact h')
  have HF' := Lib.hid hF'; clear hF' hcell hsrc hst
  have HC := Lib.hid hcell'; have HS := Lib.hid hsrc'; clear hcell' hsrc'
  go_enter Tryd.func43, Tryd.ntmps43
  go_wp2_with fail
  refine (new_any h0).mono ?_
  rintro e w1 ⟨g1, L1, rfl, hd1, h1⟩
  have hd : DigSt W w1 I g1 [] F' := ⟨L1, hd1, h1⟩
  clear h0 hd1 h1
  go_wp2_with fail
  go_loopw [9] (fun i wr => ∃ k : Nat, k ≤ ps.length ∧ i = .int .i64 k ∧ DigSt W wr I g1 (cat (ps.take k)) F') (fun i _ => ps.length - (intOf i).toNat)
  case atStart => exact ⟨0, by omega, rfl, hd⟩
  case round =>
    obtain ⟨k, hk, rfl, hd2⟩ := hrel
    clear hd
    by_cases hlt : k < ps.length
    · obtain ⟨p, hp⟩ : ∃ p, ps[k]? = some p := ⟨_, List.getElem?_eq_getElem hlt⟩
      have q : wr.cell? ⟨gp, op + k, none⟩ = some (.slice p.A p.bs.length p.c) := by
        obtain ⟨L, _, hs⟩ := hd2
        exact HC.out _ L hs k p hp
      have hle := cat_take_le ps (k + 1)
      rw [cat_take ps k p hp, List.length_append] at hle
      have hmem : p ∈ ps := List.mem_of_getElem? hp
      have hw := write_any (W := W) (w := wr) (I := I) (F := F') (g := g1) (bs := cat (ps.take k)) p.bs p.A p.c hd2 (fun w' L' h' => HS.out w' L' h' p hmem) (by omega)
      rw [← cat_take ps k p hp] at hw
      clear hle hd2 hp hmem
      generalize p.bs.length = np at *
      generalize p.A = Ap at *
      generalize p.c = cpp at *
      go_wp2_with fail
      refine hw.mono ?_
      clear hw
      rintro e w4 ⟨rfl, hd4⟩
      go_wp2_with fail
      go_roundw
      case rel => exact ⟨k + 1, by omega, by go_num, hd4⟩
      case measure => simp [intOf]; omega
    · obtain rfl : k = ps.length := by omega
      rw [List.take_length] at hd2
      obtain ⟨L, hdg, hs⟩ := hd2
      go_wp2_with fail
      refine (sum_any hdg hs hlen).mono ?_
      rintro e w5 ⟨rfl, h5⟩
      have h6 := h5.weaken
      have eF := HF'.out
      rw [← eF, ← zero32_cells] at h6
      have z1 : (bpart (hashOf (cat ps))).size = 32 := bpart_size _ (by simp [hashOf])
      have z0 : (bpart []).size = 32 := bpart_size _ (by simp)
      have o1 : (bpart (hashOf (cat ps))).all (·.oneCell') = true := bpart_one _
      obtain ⟨CS, hCS⟩ : ∃ CS, CS = bpart (hashOf (cat ps)) := ⟨_, rfl⟩
      rw [← hCS] at z1 o1 ⊢
      have HCS := Lib.hid hCS; clear hCS
      have i1 : (Tryd.prog.info? 26).map (·.size) = some CS.size := by rw [z1]; kernel_rfl
      have ew : setMany (bpart []) 0 CS.toList = CS := by rw [setMany_whole _ _ (by simp [z0, z1])]
      have f1 : 0 + CS.size ≤ (bpart []).size := by omega
      have EW := Lib.hid ew
      clear z1 z0 ew eF HF' hs h5 hdg
      generalize bpart [] = C0 at *
      go_wp2_with (with_reducible refine wpList_store_st rfl 26 (.tmp 2) (.tmp 18) rfl (g := w.heap.size) (off := 0) CS rfl rfl h6 f1 i1 o1 ?_; intro w9 h9)
      rw [EW.out] at h9
      clear h6
      go_wp2_with fail
      refine bodyPost_ret (results_cell_row rfl _ w9 w.heap.size 26 CS (0, 0) _ rfl (h9.own (w.heap.size, .cells CS 26 (0, 0)) (by simp)) Tryd.underlying26 (by kernel_rfl) i1) rfl ?_
      exact ⟨by rw [HCS.out], h9.weaken (A := [_])⟩
end
end Go.Proofs.YtfbffmckmchbbaaDoor
