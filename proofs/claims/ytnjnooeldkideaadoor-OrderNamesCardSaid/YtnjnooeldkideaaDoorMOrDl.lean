/- slices.Delete of one span, in a slice of the proof's own. slices.Delete of one span: the walk. order: a span's entry, done by a copy. order: a span's entry, done by a copy: case 1. -/
import Derived.Test.YtnjnooeldkideaaDoorMOrNw
import Derived.OwnWalk
import Derived.Test.YtnjnooeldkideaaDoorMOrDo
import Derived.Test.YtnjnooeldkideaaDoorMOrT
namespace Go.Proofs.YtnjnooeldkideaaDoor
section
set_option linter.unusedVariables false
set_option linter.unusedSimpArgs false
open Go.RowKit Go.Lib Go.Deep
section
variable {W w : World} {J : Nat → Option Obj} {t : Tb} {F : List (Nat × Obj)}
def subS (A : Option Addr) (c k s : Nat) : Option Addr := if c = k then A else A.map (·.add (k * s))
theorem run_slice_toS {P : Program} {t e : TypeId} {s : Nat} (ht : P.underlying t = some (.slice e)) (hs : ∀ w, (sizeOf e).run P w = .ok s w) (A : Option Addr) (n c k : Nat) (hk : k ≤ c) (w : World) :
  (Instr.slice t (.slice A n c) none (some (.int .i64 (k : Int))) none).run P w = .ok (.slice A k c) w := by
 have h1 : (0 : Int) ≤ k ∧ (k : Int) ≤ c := by omega
 simp [Instr.slice, run_underlying ht, Instr.sliceBounds, Instr.sliceBound, asIntOf, h1, hs, addr_add0]
 intro h2
 omega
theorem run_slice_fromS {P : Program} {t e : TypeId} {s : Nat} (ht : P.underlying t = some (.slice e)) (hs : ∀ w, (sizeOf e).run P w = .ok s w) (A : Option Addr) (n c k : Nat) (hk : k ≤ n) (hc : n ≤ c) (w : World) :
  (Instr.slice t (.slice A n c) (some (.int .i64 (k : Int))) none none).run P w = .ok (.slice (subS A c k s) (n - k) (c - k)) w := by
 have h1 : (0 : Int) ≤ k ∧ (k : Int) ≤ n := by omega
 simp [Instr.slice, run_underlying ht, Instr.sliceBounds, Instr.sliceBound, asIntOf, h1, hs, subS]
 intro h2
 omega
theorem run_slice_midS {P : Program} {t e : TypeId} {s : Nat} (ht : P.underlying t = some (.slice e)) (hs : ∀ w, (sizeOf e).run P w = .ok s w) (A : Option Addr) (n c l h : Nat) (hl : l ≤ h) (hc : h ≤ c) (w : World) :
  (Instr.slice t (.slice A n c) (some (.int .i64 (l : Int))) (some (.int .i64 (h : Int))) none).run P w = .ok (.slice (subS A c l s) (h - l) (c - l)) w := by
 have h1 : (0 : Int) ≤ h ∧ (h : Int) ≤ c := by omega
 have h2 : (0 : Int) ≤ l ∧ (l : Int) ≤ h := by omega
 have h3 : (l : Int) ≤ h := by omega
 simp [Instr.slice, run_underlying ht, Instr.sliceBounds, Instr.sliceBound, asIntOf, hs, subS, hl, hc]
theorem run_slice_three {P : Program} {t e : TypeId} {s : Nat} (ht : P.underlying t = some (.slice e)) (hs : ∀ w, (sizeOf e).run P w = .ok s w) (A : Option Addr) (n c l h m : Nat) (hl : l ≤ h) (hh : h ≤ m) (hc : m ≤ c) (w : World) :
  (Instr.slice t (.slice A n c) (some (.int .i64 (l : Int))) (some (.int .i64 (h : Int))) (some (.int .i64 (m : Int)))).run P w = .ok (.slice (subS A m l s) (h - l) (m - l)) w := by
 have h1 : (0 : Int) ≤ m ∧ (m : Int) ≤ c := by omega
 have h2 : (0 : Int) ≤ h ∧ (h : Int) ≤ m := by omega
 have h3 : (0 : Int) ≤ l ∧ (l : Int) ≤ h := by omega
 simp [Instr.slice, run_underlying ht, Instr.sliceBounds, Instr.sliceBound, asIntOf, hs, subS, hl, hc, hh]
theorem size_span (w : World) : (sizeOf 40).run Tryd.prog w = .ok 88 w := by simp [Tryd.sizeOf40 w]
section
variable {P : Program} {W w : World} {I : Nat → Option Obj} {F : List (Nat × Obj)}
theorem run_append_room (t ty e : TypeId) (z : Value) (size bytes : Nat) (ht : P.underlying t = some (.slice e)) (hi : (P.info? e).map (fun i => (i.zero, i.size, i.bytes)) = some (some z, size, bytes))
  {g off n cap m c : Nat} {A : Option Addr} {cur : Array Value} {news : List Value} (hfit : off + cap * size ≤ cur.size) (hst : St W w I ((g, .cells cur e (0, 0)) :: F)) (hroom : n + m ≤ cap) (hsrc : Src w size A m news) (h1 : ∀ u ∈ news, u.oneCell' = true) (hsz : 0 < size) :
  ∃ w', (Builtin.append_ #[t, t] ty #[.slice (some ⟨g, off, none⟩) n cap, .slice A m c]).run P w = .ok (.slice (some ⟨g, off, none⟩) (n + m) cap) w' ∧ St W w' I ((g, .cells (cur.toList.take (off + n * size) ++ news ++ cur.toList.drop (off + n * size + news.length)).toArray e (0, 0)) :: F) := by
 obtain ⟨i, hi0, hz, hsize, hby⟩ := info_parts hi
 subst hsize
 by_cases hm : m = 0
 ·subst hm
  have hn : news = [] := List.eq_nil_of_length_eq_zero (by simpa using hsrc.1)
  subst hn
  refine ⟨w, ?_, by simpa using hst⟩
  have hf : (Builtin.firstCells i.size 0 (.slice A 0 c)).run P w = .ok #[] w := by
   cases A with
   | none => simp [Builtin.firstCells]
   | some a => simp [Builtin.firstCells, loadCells, loadCellsFrom]
  have hnc : n ≤ cap := by omega
  simp [Builtin.append_, run_underlying ht, sizeOf, typeInfo, hi0, Builtin.lenOf, hnc, hf, storeCells]
 ·have hA : ∃ ad, A = some ad := by
   have hl := hsrc.1
   have : 0 < news.length := by rw [hl]; exact Nat.mul_pos (by omega) hsz
   obtain ⟨ad, h, _⟩ := hsrc.2 0 _ (List.getElem?_eq_getElem this)
   exact ⟨ad, h⟩
  obtain ⟨ad, rfl⟩ := hA
  have hnews : ∀ j u, news[j]? = some u → w.cell? (ad.add j) = some u := by
   intro j u hj
   obtain ⟨ad', h, h'⟩ := hsrc.2 j u hj
   injection h with h
   subst h
   exact h'
  have hg : w.heap[g]? = some (.cells cur e (0, 0)) := hst.own (g, .cells cur e (0, 0)) (by simp)
  have hle : (n + m) * i.size ≤ cap * i.size := Nat.mul_le_mul_right _ hroom
  have hcs : off + n * i.size + news.length ≤ cur.size := by rw [hsrc.1]; rw [Nat.add_mul] at hle; omega
  have hf := run_firstCells_some (P := P) w i.size m ad m c news hsrc.1 hnews
  have hs := run_storeCells_at P g (off + n * i.size) e news 0 cur w hg (by simpa using hcs) h1
  simp only [Nat.add_zero] at hs
  refine ⟨_, ?_, St.setRow (F := F) hst _⟩
  simp [Builtin.append_, run_underlying ht, sizeOf, typeInfo, hi0, Builtin.lenOf, hroom, hf, Addr.add_lit, hs]
theorem step_append_room {ops : Array Oper} {o : Oper} {a : Act} {K : Act → World → Prop} {Q : Exit → Act → World → Prop} {E : Prop} (hgd : o.guard = none) (s x : Operand) (t : TypeId)
  (ho : o.op = .call { callee := .builtin .append, args := #[s, x], argTypes := #[t, t] })
  (e : TypeId) (z : Value) (size bytes : Nat) (ht : P.underlying t = some (.slice e)) (hi : (P.info? e).map (fun i => (i.zero, i.size, i.bytes)) = some (some z, size, bytes)) (hsz : 0 < size)
  {g off n cap m c : Nat} {A : Option Addr} {cur : Array Value} {news : List Value} (hs : a.eval s = .slice (some ⟨g, off, none⟩) n cap) (hfit : off + cap * size ≤ cur.size) (hst : St W w I ((g, .cells cur e (0, 0)) :: F)) (hx : a.eval x = .slice A m c) (hroom : n + m ≤ cap) (hsrc : Src w size A m news) (h1 : ∀ u ∈ news, u.oneCell' = true)
  (k : Nat) (hk : n + m = k)
  (h : ∀ w', St W w' I ((g, .cells (cur.toList.take (off + n * size) ++ news ++ cur.toList.drop (off + n * size + news.length)).toArray e (0, 0)) :: F) → K (a.put o.dst (.slice (some ⟨g, off, none⟩) k cap)) w') :
  if Region.wanted o (yielded ops a.tmps) = true then Oper.wp P o a w K Q else E := by
 have hw : Region.wanted o (yielded ops a.tmps) = true := by simp [Region.wanted, hgd]
 rw [if_pos hw]
 subst hk
 obtain ⟨w', hr, h3⟩ := run_append_room (P := P) t o.type e z size bytes ht hi hfit hst hroom (c := c) hsrc h1 hsz
 unfold Oper.wp execOp
 simp only [ho, resolve, invoke, builtin, Sem.run_bind, Sem.run_pure, Result.andThen_ok, List.map_toArray, List.map_cons, List.map_nil, hs, hx, hr]
 exact h w' h3
end
theorem run_clear_one (g o c : Nat) (cur : Array Value) (w : World) {F : List (Nat × Obj)} (h : St W w J ((g, .cells cur 40 (0, 0)) :: F)) (hfit : o + 88 ≤ cur.size) (n1 : Nat) (hn1 : n1 = 1) (ty : TypeId) :
  (Builtin.clear_ #[42] ty #[.slice (some ⟨g, o, none⟩) n1 c]).run Tryd.prog w = .ok (.tuple #[]) (w.setCells g o Tryd.zeroCells40.toList) := by
 subst hn1
 have hzl : Tryd.zeroCells40.toList.length = 88 := by kernel_rfl
 have hst := run_storeCells_cells (P := Tryd.prog) g o Tryd.zeroCells40.toList 0 w (fun j hj => by
   rw [h.cell (g := g) (cs := cur) (t := 40) (fr := (0, 0)) (by simp), Array.getElem?_eq_getElem (by omega)]
   rfl) (fun j hj => h.frozen (g := g) (cs := cur) (t := 40) (by simp) _) (fun v hv => by
   have h1 : Tryd.zeroCells40.toList.all (·.oneCell') = true := by kernel_rfl
   exact List.all_eq_true.1 h1 v hv)
 simp only [Nat.add_zero] at hst
 have hu := Tryd.underlying42
 have hz : (zeroValue 40).run Tryd.prog w = .ok (.agg Tryd.zeroCells40) w := by kernel_rfl
 have hzz : Builtin.zeroCells Tryd.zeroCells40 1 = Tryd.zeroCells40 := by kernel_rfl
 simp [Builtin.clear_, run_underlying hu, hz, Value.cells, hzz]
 rw [hst]
 rfl
end
end

section
set_option linter.unusedVariables false
set_option linter.unusedSimpArgs false
open Go.RowKit Go.Lib Go.Deep
section
variable {W w : World} {J : Nat → Option Obj} {t : Tb} {F : List (Nat × Obj)}
set_option maxRecDepth 100000 in
set_option maxHeartbeats 4000000 in
theorem o_delete {A : Option Addr} {N c k : Nat} {xs : List Value} {L : List (Nat × Obj)} (hr : Row 40 88 (.slice A N c) N xs L) (h1 : ∀ u ∈ xs, u.oneCell' = true) (hk : k < N) (hN : N ≤ 1000) (h : St W w J (L ++ F)) :
  Calls Tryd.prog 37 #[.slice A N c, .int .i64 (k : Int), .int .i64 ((k : Int) + 1)] w fun e w' => ∃ A' c' L', e = .returned (.slice A' (N - 1) c') ∧ Row 40 88 (.slice A' (N - 1) c') (N - 1) (xs.take (k * 88) ++ xs.drop ((k + 1) * 88)) L' ∧ St W w' J (L' ++ F) := by
 obtain ⟨hxl, ⟨-, h0, -⟩ | ⟨g, off, cap, cur, hv, rfl, hnc, hcm, hfit, hx⟩⟩ := hr
 ·omega
 injection hv with e1 e2 e3
 subst e1 e3
 have ek : (((k + 1 : Nat)) : Int) = (k : Int) + 1 := by omega
 have sl3 := fun v => run_slice_three (P := Tryd.prog) (s := 88) Tryd.underlying42 size_span (some ⟨g, off, none⟩) N c k (k + 1) N (by omega) (by omega) hnc v
 have sl1 := fun v => run_slice_toS (P := Tryd.prog) (s := 88) Tryd.underlying42 size_span (some ⟨g, off, none⟩) N c k (by omega) v
 have sl2 := fun v => run_slice_fromS (P := Tryd.prog) (s := 88) Tryd.underlying42 size_span (some ⟨g, off, none⟩) N c (k + 1) (by omega) hnc v
 have sl4 := fun v => run_slice_midS (P := Tryd.prog) (s := 88) Tryd.underlying42 size_span (some ⟨g, off, none⟩) (N - 1) c (N - 1) N (by omega) hnc v
 have e4 : subS (some ⟨g, off, none⟩) c (N - 1) 88 = some ⟨g, off + (N - 1) * 88, none⟩ := by
  unfold subS
  rw [if_neg (by omega)]
  simp [Addr.add]
 rw [e4, show N - (N - 1) = 1 by omega] at sl4
 rw [ek] at sl3 sl2
 have hst : St W w J ((g, .cells cur 40 (0, 0)) :: F) := h
 have hrw : Row 40 88 (.slice (some ⟨g, off, none⟩) N c) N xs [(g, .cells cur 40 (0, 0))] := ⟨hxl, .inr ⟨g, off, c, cur, rfl, rfl, hnc, hcm, hfit, hx⟩⟩
 have hsz : (xs.drop ((k + 1) * 88)).length = (N - (k + 1)) * 88 := by rw [List.length_drop, hxl, Nat.sub_mul]
 have src : ∀ v, St W v J ((g, .cells cur 40 (0, 0)) :: F) → Src v 88 (subS (some ⟨g, off, none⟩) c (k + 1) 88) (N - (k + 1)) (xs.drop ((k + 1) * 88)) := fun v hv => by
  refine ⟨hsz, fun j u hj => ?_⟩
  have hj2 : xs[(k + 1) * 88 + j]? = some u := by rw [← List.getElem?_drop]; exact hj
  have hlt := (List.getElem?_eq_some_iff.1 hj).1
  rw [hsz] at hlt
  unfold subS
  by_cases hck : c = k + 1
  ·exfalso
   have : N - (k + 1) = 0 := by omega
   rw [this] at hlt
   omega
  ·rw [if_neg hck]
   obtain ⟨g', off', cap', cur', hv', hL', hc'⟩ := hrw.cells hj2
   injection hv' with q1 q2 q3
   injection q1 with q1
   injection q1 with q4 q5
   subst q4 q5
   injection hL' with q6 q7
   injection q6 with q8 q9
   injection q9 with q10
   subst q10
   refine ⟨_, rfl, ?_⟩
   rw [show ((⟨g, off, none⟩ : Addr).add ((k + 1) * 88)).add j = ⟨g, off + ((k + 1) * 88 + j), none⟩ by simp [Addr.add, Nat.add_assoc], hv.cell (g := g) (cs := cur) (t := 40) (fr := (0, 0)) (by simp)]
   exact hc'
 have hone : ∀ u ∈ xs.drop ((k + 1) * 88), u.oneCell' = true := fun u hu => h1 u (List.mem_of_mem_drop hu)
 have hle : (N - 1) * 88 + 88 ≤ c * 88 := by have : (N - 1 + 1) * 88 ≤ c * 88 := Nat.mul_le_mul_right _ (by omega); rw [Nat.add_mul] at this; omega
 have hkn : k * 88 + (N - (k + 1)) * 88 = (N - 1) * 88 := by rw [← Nat.add_mul]; congr 1; omega
 have zlen : Tryd.zeroCells40.toList.length = 88 := by kernel_rfl
 -- the row behind all of it
 have fin : ∀ (v : World) (cur' : Array Value), cur' = (cur.toList.take (off + k * 88) ++ xs.drop ((k + 1) * 88) ++ cur.toList.drop (off + k * 88 + (xs.drop ((k + 1) * 88)).length)).toArray → St W v J ((g, .cells (setMany cur' (off + (N - 1) * 88) Tryd.zeroCells40.toList) 40 (0, 0)) :: F) → ∃ A' c' L', Ending.returned (.slice (some ⟨g, off, none⟩) (N - 1) c) = .returned (.slice A' (N - 1) c') ∧ Row 40 88 (.slice A' (N - 1) c') (N - 1) (xs.take (k * 88) ++ xs.drop ((k + 1) * 88)) L' ∧ St W v J (L' ++ F) := fun v cur' hc' hv => by
  have hcs : cur'.size = cur.size := by
   rw [hc']
   simp only [List.size_toArray, List.length_append, List.length_take, List.length_drop, Array.length_toList, hxl]
   rw [Nat.min_eq_left (by omega)]
   have : N * 88 - (k + 1) * 88 = (N - (k + 1)) * 88 := by rw [Nat.sub_mul]
   omega
  refine ⟨some ⟨g, off, none⟩, c, [(g, .cells (setMany cur' (off + (N - 1) * 88) Tryd.zeroCells40.toList) 40 (0, 0))], rfl, ⟨?_, .inr ⟨g, off, c, _, rfl, rfl, by omega, hcm, by rw [setMany_size, hcs]; exact hfit, ?_⟩⟩, hv⟩
  ·rw [List.length_append, hsz, List.length_take, hxl, Nat.min_eq_left (Nat.mul_le_mul_right _ (by omega))]
   omega
  ·apply List.ext_getElem?
   intro j
   rw [List.getElem?_take]
   by_cases hj : j < (N - 1) * 88
   ·rw [if_pos hj, List.getElem?_drop, Array.getElem?_toList, setMany_get _ _ _ _ (by rw [zlen, hcs]; omega), if_neg (by omega), hc', List.getElem?_toArray, List.append_assoc]
    have ht : (cur.toList.take (off + k * 88)).length = off + k * 88 := by rw [List.length_take, Array.length_toList]; exact Nat.min_eq_left (by omega)
    have hx2 : ∀ i, i < N * 88 → cur[off + i]? = xs[i]? := fun i hi => by
     rw [← hx, List.getElem?_take, if_pos hi, List.getElem?_drop, Array.getElem?_toList]
    have hxt : (xs.take (k * 88)).length = k * 88 := by rw [List.length_take, hxl]; exact Nat.min_eq_left (Nat.mul_le_mul_right _ (by omega))
    by_cases hjk : j < k * 88
    ·rw [List.getElem?_append_left (by rw [ht]; omega), List.getElem?_append_left (by rw [hxt]; exact hjk), List.getElem?_take, if_pos (by omega), List.getElem?_take, if_pos hjk, Array.getElem?_toList]
     exact hx2 j (by omega)
    ·have a1 : (cur.toList.take (off + k * 88) ++ (xs.drop ((k + 1) * 88) ++ cur.toList.drop (off + k * 88 + (xs.drop ((k + 1) * 88)).length)))[off + j]? = (xs.drop ((k + 1) * 88))[j - k * 88]? := by
      rw [List.getElem?_append_right (by rw [ht]; omega), ht, show off + j - (off + k * 88) = j - k * 88 by omega, List.getElem?_append_left (by rw [hsz]; omega)]
     have a2 : (xs.take (k * 88) ++ xs.drop ((k + 1) * 88))[j]? = (xs.drop ((k + 1) * 88))[j - k * 88]? := by
      rw [List.getElem?_append_right (by rw [hxt]; omega), hxt]
     exact a1.trans a2.symm
   ·rw [if_neg hj, List.getElem?_eq_none]
    rw [List.length_append, hsz, List.length_take, hxl, Nat.min_eq_left (Nat.mul_le_mul_right _ (by omega))]
    omega
 have spi : (Tryd.prog.info? 40).map (fun i => (i.zero, i.size, i.bytes)) = some (some (.agg Tryd.zeroCells40), 88, 264) := by kernel_rfl
 have hcs0 : off + (N - 1) * 88 + 88 ≤ cur.size := by omega
 have csz : ∀ cur', cur' = (cur.toList.take (off + k * 88) ++ xs.drop ((k + 1) * 88) ++ cur.toList.drop (off + k * 88 + (xs.drop ((k + 1) * 88)).length)).toArray → off + (N - 1) * 88 + 88 ≤ cur'.size := fun cur' hc' => by
  rw [hc']
  simp only [List.size_toArray, List.length_append, List.length_take, List.length_drop, Array.length_toList, hxl]
  rw [Nat.min_eq_left (by omega)]
  have : N * 88 - (k + 1) * 88 = (N - (k + 1)) * 88 := by rw [Nat.sub_mul]
  omega
 have hroom : k + (N - (k + 1)) ≤ c := by omega
 have hkk : k + (N - (k + 1)) = N - 1 := by omega
 have bk : ((k : Int) == (k : Int) + 1) = false := by simp; omega
 have HSRC := Lib.hid src; have HONE := Lib.hid hone; have FIN := Lib.hid fin; have HST := Lib.hid hst; have SPI := Lib.hid spi; have CSZ := Lib.hid csz; have HFIT := Lib.hid hfit; have HROOM := Lib.hid hroom; have HKK := Lib.hid hkk
 obtain ⟨B, hB⟩ : ∃ B, subS (some ⟨g, off, none⟩) c (k + 1) 88 = B := ⟨_, rfl⟩
 obtain ⟨B3, hB3⟩ : ∃ B, subS (some ⟨g, off, none⟩) N k 88 = B := ⟨_, rfl⟩
 rw [hB] at HSRC sl2
 rw [hB3] at sl3
 have hN1 : ((N - 1 : Nat) : Int) = (N : Int) - 1 := by omega
 clear src hone fin hst spi csz hfit hroom hkk hB hB3 h h1 hx hxl hrw hsz hle hkn zlen hcs0 e4 ek
 go_enter Tryd.func37, Tryd.ntmps37
 go_wp2_with fail
 refine wp_region_held_drew (S := fun v => True) (by kernel_rfl) trivial (fun hHeld => ?_)
 refine tk op0 (v := ?_) (by kernel_rfl) ?_ (by assumption) ?_ fun _ _ _ h => h
 rotate_left
 ·(refine ya rfl fun w hSw => ?_; (try dsimp only at hSw); go_simp; try with_reducible rfl)
 try simp only [Act.put, pu1, pu2, pu3]
 refine tk op1 (v := ?_) (by kernel_rfl) ?_ (by assumption) ?_ fun _ _ _ h => h
 rotate_left
 ·(refine ya rfl fun w hSw => ?_; (try dsimp only at hSw); go_simp; try with_reducible rfl)
 try simp only [Act.put, pu1, pu2, pu3]
 refine tk op2 (v := ?_) (by kernel_rfl) ?_ (by assumption) ?_ fun _ _ _ h => h
 rotate_left
 ·(refine ya rfl fun w hSw => ?_; (try dsimp only at hSw); go_simp; try with_reducible rfl)
 try simp only [Act.put, pu1, pu2, pu3]
 refine tk op3 (v := ?_) (by kernel_rfl) ?_ (by assumption) ?_ fun _ _ _ h => h
 rotate_left
 ·(refine ya rfl fun w hSw => ?_; (try dsimp only at hSw); go_simp; try with_reducible rfl)
 try simp only [Act.put, pu1, pu2, pu3]
 refine tk op4 (v := ?_) (by kernel_rfl) ?_ (by assumption) ?_ fun _ _ _ h => h
 rotate_left
 ·(refine ya rfl fun w hSw => ?_; (try dsimp only at hSw); go_simp; try with_reducible rfl)
 try simp only [Act.put, pu1, pu2, pu3]
 refine tk op5 (v := ?_) (by kernel_rfl) ?_ (by assumption) ?_ fun _ _ _ h => h
 rotate_left
 ·(refine ya rfl fun w hSw => ?_; (try dsimp only at hSw); go_simp; try with_reducible rfl)
 try simp only [Act.put, pu1, pu2, pu3]
 refine rd1 op6 (by kernel_rfl) fun K hK => ?_
 ((refine step_append_room rfl (.tmp 22) (.tmp 25) 42 rfl 40 (.agg Tryd.zeroCells40) 88 264 Tryd.underlying42 SPI.out (by omega) rfl HFIT.out HST.out.drew1 rfl HROOM.out (HSRC.out _ HST.out.drew1) HONE.out (N - 1) HKK.out ?_; intro wf hf; dsimp only))
 refine hK.out _ _ ?_ fun hHeld => ?_
 ·(try dsimp only) <;> (fail)
 clear hK K
 try simp only [Act.put, pu1, pu2, pu3]
 refine tk op7 (v := ?_) (by kernel_rfl) ?_ (by assumption) ?_ fun _ _ _ h => h
 rotate_left
 ·(refine ya rfl fun w hSw => ?_; (try dsimp only at hSw); go_simp; try with_reducible rfl)
 try simp only [Act.put, pu1, pu2, pu3]
 refine wpAnyH_done (by kernel_rfl) ?_ _
 obtain ⟨cur', hcur⟩ : ∃ y, (cur.toList.take (off + k * 88) ++ xs.drop ((k + 1) * 88) ++ cur.toList.drop (off + k * 88 + (xs.drop ((k + 1) * 88)).length)).toArray = y := ⟨_, rfl⟩
 rw [hcur] at hf
 have hcl := run_clear_one g (off + (N - 1) * 88) (c - (N - 1)) cur' wf hf (CSZ.out cur' hcur.symm) (N - (N - 1)) (by omega)
 have HZ := Lib.hid (FIN.out _ cur' hcur.symm (St.setCells _ _ _ _ hf))
 clear hf hcur
 go_wp2_with fail
 go_ret
 exact HZ.out
end
end

section
set_option linter.unusedVariables false
set_option linter.unusedSimpArgs false
open Go.RowKit Go.Lib Go.Deep
section
variable {W w : World} {J : Nat → Option Obj} {t : Tb} {F : List (Nat × Obj)}
variable {m : Md} {gm n c : Nat} {A : Option Addr} {ns : List ByteArray} {Ln : List (Nat × Obj)}
def storeOf (x : Sp) : Int := if (decide (0 < x.upto) && ((x.rep.err != 0) && keptB x.rep.err)) = true then x.rep.err else 0
def placeM (m : Md) (ns : List ByteArray) (x : Sp) : Option Md := if (replyM m ns x.call (storeOf x)).2 = true ∧ (decide (0 < x.upto) = true → eqRy (replyM m ns x.call (storeOf x)).1 x.rep = true) then doM m ns (⟨1, x.serial, x.call, (replyM m ns x.call (storeOf x)).1, storeOf x, 0, 0, zS⟩ : En) else none
def PlPost (W : World) (J : Nat → Option Obj) (F : List (Nat × Obj)) (ns : List ByteArray) (n : Nat) (r : Option Md) (m : Md) (e : Ending) (w' : World) : Prop := match r with
 | none => e = .returned (.pointer none) ∧ St W w' J F
 | some m' => ∃ g' A' c' L', e = .returned (.pointer (some ⟨g', 0, none⟩)) ∧ MOk J m ns A' n c' L' ∧ St W w' J ((g', .cells (m'.cells (.slice A' n c')) 71 (0, 0)) :: (L' ++ F))
theorem zRy_ok : zRy.Ok := rep0_ok 0 (by decide) (by decide)
theorem storeOf_b {x : Sp} (ok : x.Ok) : -9223372036854775808 ≤ storeOf x ∧ storeOf x ≤ 9223372036854775807 := by
 unfold storeOf
 split
 ·exact ⟨ok.rep.e0, ok.rep.e1⟩
 ·exact ⟨by decide, by decide⟩
theorem plEn_ok {x : Sp} (ok : x.Ok) {r : Ry} (rok : r.Ok) {s : Int} (h0 : -9223372036854775808 ≤ s) (h1 : s ≤ 9223372036854775807) : (⟨1, x.serial, x.call, r, s, 0, 0, zS⟩ : En).Ok := ⟨by show -9223372036854775808 ≤ (1 : Int); decide, by show (1 : Int) ≤ 9223372036854775807; decide, ok.s0, ok.s1, ok.call, rok, h0, h1, by show -9223372036854775808 ≤ (0 : Int); decide, by show (0 : Int) ≤ 9223372036854775807; decide, by show -9223372036854775808 ≤ (0 : Int); decide, by show (0 : Int) ≤ 9223372036854775807; decide, zS_ok⟩
theorem replyM_ok (mo : MOk J m ns A n c Ln) (q : Cl) (qok : q.Ok) (x : Int) (hx0 : -9223372036854775808 ≤ x) (hx1 : x ≤ 9223372036854775807) : (replyM m ns q x).1.Ok := by
 unfold replyM
 split
 ·exact (storedA_good mo.ok mo.b0 mo.b1 (askA_good mo q qok) x hx0 hx1).rep
 ·exact zRy_ok
set_option maxRecDepth 100000 in
theorem run_build_pl (s : Int) (q : Cl) (w : World) : (Instr.build 38 #[(0, .int .i64 1), (1, .int .i64 s), (2, .agg q.cells)]).run Tryd.prog w = .ok (.agg (⟨1, s, q, zRy, 0, 0, 0, zS⟩ : En).cells) w := run_build w _ _ _ (by kernel_rfl)
theorem setMany_same (cs : Array Value) (k : Nat) (v : Value) (h : cs[k]? = some v) : setMany cs k [v] = cs := by
 show cs.setIfInBounds k v = cs
 apply Array.ext_getElem?
 intro j
 by_cases hj : j = k
 ·subst hj
  have := (Array.getElem?_eq_some_iff.1 h).1
  rw [h]
  simp [this]
 ·rw [Array.getElem?_setIfInBounds_ne (by omega)]
theorem En.put_store {e : En} (ok : e.Ok) (b : Int) : setMany e.cells 87 [.int .i64 b] = ({ e with store := b } : En).cells := by
 have h := Ry.size ok.rep.t
 have h3 := Cl.size e.call
 have e1 := setMany_mid ([Value.int .i64 e.kind, .int .i64 e.serial] ++ (e.call.cells.toList ++ e.rep.cells.toList)) [.int .i64 e.store] [.int .i64 b] ([.int .i64 e.state, .int .i64 e.fault] ++ e.slot.cells.toList) rfl
 have hl : ([Value.int .i64 e.kind, .int .i64 e.serial] ++ (e.call.cells.toList ++ e.rep.cells.toList)).length = 87 := by simp [h, h3]
 rw [hl] at e1
 simp only [List.append_assoc] at e1
 exact e1
theorem En.put_rep {e : En} (ok : e.Ok) (r : Ry) (rok : r.Ok) : setMany e.cells 7 r.cells.toList = ({ e with rep := r } : En).cells := by
 have h := Ry.size ok.rep.t
 have h2 := Ry.size rok.t
 have h3 := Cl.size e.call
 have e1 := setMany_mid ([Value.int .i64 e.kind, .int .i64 e.serial] ++ e.call.cells.toList) e.rep.cells.toList r.cells.toList ([Value.int .i64 e.store, .int .i64 e.state, .int .i64 e.fault] ++ e.slot.cells.toList) (by simp [h, h2])
 have hl : ([Value.int .i64 e.kind, .int .i64 e.serial] ++ e.call.cells.toList).length = 7 := by simp [h3]
 rw [hl] at e1
 simp only [List.append_assoc] at e1
 exact e1
structure SpAt (v : World) (g : Nat) (x : Sp) : Prop where
 serial : v.cell? ⟨g, 0, none⟩ = some (.int .i64 x.serial)
 frm : v.cell? ⟨g, 1, none⟩ = some (.int .i64 x.frm)
 upto : v.cell? ⟨g, 2, none⟩ = some (.int .i64 x.upto)
 call : v.rangeAt g 3 x.call.cells.toList
 rep : v.rangeAt g 8 x.rep.cells.toList
 err : v.cell? ⟨g, 8, none⟩ = some (.int .i64 x.rep.err)
theorem St.spAt {v : World} {X : List (Nat × Obj)} {g : Nat} {x : Sp} {T : TypeId} {fr : Nat × Nat} (ok : x.Ok) (h : St W v J X) (hm : (g, Obj.cells x.cells T fr) ∈ X) : SpAt v g x := by
 have h3 := Cl.size x.call
 have h4 := Ry.size ok.rep.t
 refine ⟨h.cell hm 0, h.cell hm 1, h.cell hm 2, ?_, ?_, h.cell hm 8⟩
 ·intro j u hj
  have hl : j < 5 := by have := (List.getElem?_eq_some_iff.1 hj).1; rw [Array.length_toList, h3] at this; exact this
  rw [h.cell hm (3 + j)]
  unfold Sp.cells
  rw [List.getElem?_toArray, List.getElem?_append_right (by simp), List.getElem?_append_left (by simp; omega)]
  simpa using hj
 ·intro j u hj
  rw [h.cell hm (8 + j)]
  unfold Sp.cells
  rw [List.getElem?_toArray, List.getElem?_append_right (by simp; omega), List.getElem?_append_right (by simp; omega)]
  simp only [List.length_cons, List.length_nil, Array.length_toList, h3]
  rw [show 8 + j - (0 + 1 + 1 + 1) - 5 = j by omega]
  simpa using hj
end
end

section
set_option linter.unusedVariables false
set_option linter.unusedSimpArgs false
open Go.RowKit Go.Lib Go.Deep
section
variable {W w : World} {J : Nat → Option Obj} {t : Tb} {F : List (Nat × Obj)}
variable {m : Md} {gm n c : Nat} {A : Option Addr} {ns : List ByteArray} {Ln : List (Nat × Obj)}
set_option maxRecDepth 100000 in
set_option maxHeartbeats 8000000 in
theorem o_place1 (tb : Go.Proofs.YtnjnooeldkideaaDoor.TB W J) (mo : MOk J m ns A n c Ln) (x : Sp) (xok : x.Ok) (hs : x.call.name.size ≤ 1000000) (hLn : ∀ p ∈ Ln, p ∈ F) (h : St W w J F) (hm : (gm, Obj.cells (m.cells (.slice A n c)) 71 (0, 0)) ∈ F) (hup : decide (0 < x.upto) = false) :
  Calls Tryd.prog 36 #[.pointer (some ⟨gm, 0, none⟩), x.val] w (PlPost W J F ns n (placeM m ns x) m) := by
 have hst : storeOf x = 0 := by unfold storeOf; rw [hup]; rfl
 have h1 := h.alloc (.cells x.cells 40)
 obtain ⟨g, hg⟩ : ∃ g, w.heap.size = g := ⟨_, rfl⟩
 rw [hg] at h1
 have h1' := (h1.alloc (.cells Tryd.zeroCells38 38))
 rw [World.size_alloc, hg] at h1'
 have xa := h1.spAt xok (List.mem_cons_self ..)
 have e0 := xa.serial; have e2 := xa.upto; have er3 := xa.call; have e8 := xa.err
 have fs := fun (v : World) (X : List (Nat × Obj)) (hv : St W v J X) (hx : (g, Obj.cells x.cells 40 (0, 0)) ∈ X) => (⟨⟨(hv.spAt xok hx).upto, (hv.spAt xok hx).err, (hv.spAt xok hx).call⟩, (hv.spAt xok hx).rep⟩ : (v.cell? ⟨g, 2, none⟩ = some (.int .i64 x.upto) ∧ v.cell? ⟨g, 8, none⟩ = some (.int .i64 x.rep.err) ∧ v.rangeAt g 3 x.call.cells.toList) ∧ v.rangeAt g 8 x.rep.cells.toList)
 have b0ok : (⟨1, x.serial, x.call, zRy, 0, 0, 0, zS⟩ : En).Ok := plEn_ok xok zRy_ok (by decide) (by decide)
 have sb0 : -9223372036854775808 ≤ storeOf x := (storeOf_b xok).1
 have sb1 : storeOf x ≤ 9223372036854775807 := (storeOf_b xok).2
 have b1ok : (⟨1, x.serial, x.call, zRy, storeOf x, 0, 0, zS⟩ : En).Ok := plEn_ok xok zRy_ok sb0 sb1
 have rok : (replyM m ns x.call (storeOf x)).1.Ok := replyM_ok mo x.call xok.call _ sb0 sb1
 have fok : (⟨1, x.serial, x.call, (replyM m ns x.call (storeOf x)).1, storeOf x, 0, 0, zS⟩ : En).Ok := plEn_ok xok rok sb0 sb1
 have bz := run_build_pl x.serial x.call
 have bsz := En.size b0ok; have bai := en_info b0ok; have bao := En.one (⟨1, x.serial, x.call, zRy, 0, 0, 0, zS⟩ : En)
 have p87 : setMany (⟨1, x.serial, x.call, zRy, 0, 0, 0, zS⟩ : En).cells 87 [.int .i64 (storeOf x)] = (⟨1, x.serial, x.call, zRy, storeOf x, 0, 0, zS⟩ : En).cells := En.put_store b0ok (storeOf x)
 have pf : setMany (⟨1, x.serial, x.call, zRy, storeOf x, 0, 0, zS⟩ : En).cells 7 (replyM m ns x.call (storeOf x)).1.cells.toList = (⟨1, x.serial, x.call, (replyM m ns x.call (storeOf x)).1, storeOf x, 0, 0, zS⟩ : En).cells := En.put_rep b1ok _ rok
 have b1sz := En.size b1ok
 have c87 : (⟨1, x.serial, x.call, zRy, 0, 0, 0, zS⟩ : En).cells[87]? = some (.int .i64 0) := En.gt b0ok 0
 have d87 : (⟨1, x.serial, x.call, zRy, storeOf x, 0, 0, zS⟩ : En).cells[87]? = some (.int .i64 (storeOf x)) := En.gt b1ok 0
 have fai := en_info fok
 have qi := cl_info x.call
 have rai := ry_info rok.t; have rao := Ry.one (replyM m ns x.call (storeOf x)).1; have rsz := Ry.size rok.t
 have xri := ry_info xok.rep.t
 have heq := run_eq_ry (replyM m ns x.call (storeOf x)).1 x.rep rok xok.rep
 have kr := fun (v : World) (X : List (Nat × Obj)) (hv : St W v J X) (hF : ∀ p ∈ Ln, p ∈ X) (hx : (gm, Obj.cells (m.cells (.slice A n c)) 71 (0, 0)) ∈ X) => o_reply tb mo x.call xok.call hs (storeOf x) sb0 sb1 hF hv hx
 have ky := fun (v : World) (X : List (Nat × Obj)) (hv : St W v J X) (hF : ∀ p ∈ Ln, p ∈ X) (hx : (gm, Obj.cells (m.cells (.slice A n c)) 71 (0, 0)) ∈ X) => o_copy mo hF hv hx
 have kd := fun (g7 : Nat) (A7 : Option Addr) (c7 : Nat) (L7 : List (Nat × Obj)) (mo7 : MOk J m ns A7 n c7 L7) (v : World) (X : List (Nat × Obj)) (hF : ∀ p ∈ L7, p ∈ X) (hv : St W v J ((g7, .cells (m.cells (.slice A7 n c7)) 71 (0, 0)) :: X)) => o_do tb mo7 (⟨1, x.serial, x.call, (replyM m ns x.call (storeOf x)).1, storeOf x, 0, 0, zS⟩ : En) fok hs hF hv
 have hD : placeM m ns x = if (replyM m ns x.call (storeOf x)).2 = true ∧ (decide (0 < x.upto) = true → eqRy (replyM m ns x.call (storeOf x)).1 x.rep = true) then doM m ns (⟨1, x.serial, x.call, (replyM m ns x.call (storeOf x)).1, storeOf x, 0, 0, zS⟩ : En) else none := rfl
 generalize placeM m ns x = RES at *
 have fin0 : RES = none → ∀ (v : World) (X : List (Nat × Obj)), St W v J (X ++ F) → PlPost W J F ns n RES m (.returned (.pointer none)) v := fun hn v X hv => by
  rw [hn]
  exact ⟨rfl, hv.weaken⟩
 have fin1 : ∀ m', RES = some m' → ∀ (v : World) (g7 : Nat) (A7 : Option Addr) (c7 : Nat) (L7 D : List (Nat × Obj)), MOk J m ns A7 n c7 L7 → doM m ns (⟨1, x.serial, x.call, (replyM m ns x.call (storeOf x)).1, storeOf x, 0, 0, zS⟩ : En) = some m' → St W v J ((g7, .cells (m'.cells (.slice A7 n c7)) 71 (0, 0)) :: (L7 ++ (D ++ F))) → PlPost W J F ns n RES m (.returned (.pointer (some ⟨g7, 0, none⟩))) v := fun m' hn v g7 A7 c7 L7 D mo7 hdo hv => by
  rw [hn]
  exact ⟨g7, A7, c7, L7, rfl, mo7, hv.keep D (fun i a => by simp only [List.count_append, List.count_cons, List.count_nil]; omega)⟩
 obtain ⟨up, hupx⟩ : ∃ y, x.upto = y := ⟨_, rfl⟩
 obtain ⟨er, herx⟩ : ∃ y, x.rep.err = y := ⟨_, rfl⟩
 have HD : Hid (RES = if (replyM m ns x.call (storeOf x)).2 = true ∧ (decide (0 < up) = true → eqRy (replyM m ns x.call (storeOf x)).1 x.rep = true) then doM m ns (⟨1, x.serial, x.call, (replyM m ns x.call (storeOf x)).1, storeOf x, 0, 0, zS⟩ : En) else none) := Lib.hid (by rw [← hupx]; exact hD)
 rw [hupx] at e2 fs hup
 rw [herx] at e8 fs
 unfold Sp.val
 unfold En.val Cl.val at *
 obtain ⟨SX, hSX⟩ : ∃ y, x.cells = y := ⟨_, rfl⟩
 obtain ⟨B0, hB0⟩ : ∃ y, (⟨1, x.serial, x.call, zRy, 0, 0, 0, zS⟩ : En).cells = y := ⟨_, rfl⟩
 obtain ⟨B1, hB1⟩ : ∃ y, (⟨1, x.serial, x.call, zRy, storeOf x, 0, 0, zS⟩ : En).cells = y := ⟨_, rfl⟩
 obtain ⟨FX, hFX⟩ : ∃ y, (⟨1, x.serial, x.call, (replyM m ns x.call (storeOf x)).1, storeOf x, 0, 0, zS⟩ : En).cells = y := ⟨_, rfl⟩
 obtain ⟨cc, hcc⟩ : ∃ y, x.call.cells = y := ⟨_, rfl⟩
 obtain ⟨XR, hXR⟩ : ∃ y, x.rep.cells = y := ⟨_, rfl⟩
 obtain ⟨RR, hRR⟩ : ∃ y, (replyM m ns x.call (storeOf x)).1.cells = y := ⟨_, rfl⟩
 obtain ⟨ob, hob⟩ : ∃ y, (replyM m ns x.call (storeOf x)).2 = y := ⟨_, rfl⟩
 obtain ⟨rb, hrb⟩ : ∃ y, eqRy (replyM m ns x.call (storeOf x)).1 x.rep = y := ⟨_, rfl⟩
 rw [hSX] at h1 h1' e0 e2 er3 e8 fs ⊢
 rw [hB0] at bz bsz bai bao p87 c87
 rw [hB1] at p87 pf b1sz d87
 rw [hFX] at pf fai kd
 rw [hcc] at er3 bz qi kr fs
 rw [hXR] at fs xri heq
 rw [hRR] at pf rai rao rsz heq kr
 rw [hrb] at heq
 rw [hob] at kr
 have HD : Hid (RES = if ob = true ∧ (decide (0 < up) = true → rb = true) then doM m ns (⟨1, x.serial, x.call, (replyM m ns x.call (storeOf x)).1, storeOf x, 0, 0, zS⟩ : En) else none) := Lib.hid (by rw [← hob, ← hrb]; exact HD.out)
 rw [hup] at HD
 have bfit : 0 + B0.size ≤ Tryd.zeroCells38.size := by rw [bsz, zent]; omega
 have bmany : setMany Tryd.zeroCells38 0 B0.toList = B0 := by rw [setMany_whole _ _ (by rw [Array.length_toList, bsz, zent]), Array.toArray_toList]
 have rfit : 0 + RR.size ≤ Tryd.zeroCells36.size := by rw [rsz, zry]; omega
 have rmany : setMany Tryd.zeroCells36 0 RR.toList = RR := by rw [setMany_whole _ _ (by rw [Array.length_toList, rsz, zry]), Array.toArray_toList]
 have l87 : 87 < B0.size := by rw [bsz]; omega
 have f7 : 7 + RR.size ≤ B1.size := by rw [rsz, b1sz]; omega
 have I3 : Hid ((Tryd.prog.info? 34).map (·.size) = some 1) := Lib.hid (by kernel_rfl)
 have H1 := Lib.hid h1'; have HBZ := Lib.hid bz; have BAI := Lib.hid bai; have BAO := Lib.hid bao; have BFIT := Lib.hid bfit; have BMANY := Lib.hid bmany; have QI := Lib.hid qi; have RI := Lib.hid rai; have RO := Lib.hid rao; have RFIT := Lib.hid rfit; have RMANY := Lib.hid rmany; have XRI := Lib.hid xri; have FI := Lib.hid fai
 have ER3 := Lib.hid er3; have FSx := Lib.hid fs; have KR := Lib.hid kr; have KY := Lib.hid ky; have KD := Lib.hid kd; have FIN0 := Lib.hid fin0; have FIN1 := Lib.hid fin1; have P87 := Lib.hid p87; have PF := Lib.hid pf; have C87 := Lib.hid c87; have D87 := Lib.hid d87; have L87 := Lib.hid l87; have F7 := Lib.hid f7; have HLN := Lib.hid hLn; have HM := Lib.hid hm; have HST := Lib.hid hst
 clear h1 h1' h bz bai bao bfit bmany qi rai rao rfit rmany xri fai er3 fs kr ky kd fin0 fin1 p87 pf c87 d87 l87 f7 hLn hm hst xa b0ok b1ok fok rok bsz b1sz rsz hD hupx herx hSX hB0 hB1 hFX hcc hXR hRR hob hrb xok mo tb hs sb0 sb1
 go_enter Tryd.func36, Tryd.ntmps36
 go_wp2_with (first | (with_reducible refine wpList_load_midg 12 rfl (by kernel_rfl) 24 (.tmp 11) rfl g 3 rfl cc _ ER3.out Tryd.underlying24 rfl QI.out ?_) | (with_reducible refine wpList_build_go rfl 38 _ rfl _ ?_ (HBZ.out _) ?_; · go_simp) | (with_reducible refine wpList_store_st rfl 38 (.tmp 5) (.tmp 13) rfl (g := g + 1) (off := 0) B0 rfl rfl H1.out BFIT.out BAI.out BAO.out ?_; intro w2 h2; refine Hid.out ?_))
 refine Lib.hid ?_
 rw [BMANY.out] at h2
 obtain ⟨⟨c2, c8, r3⟩, -⟩ := FSx.out _ _ h2 (by simp)
 have e01 : B0 = B1 := by have q := P87.out; rw [HST.out, setMany_same B0 87 _ C87.out] at q; exact q
 rw [e01] at h2
 have H3 := Lib.hid h2
 clear h2 H1
 have K4 := Lib.hid (KR.out _ _ H3.out (fun p hp => by simp [HLN.out p hp]) (by simp [HM.out]))
 have ch : w2.cell? ⟨g + 1, 87, none⟩ = some (.int .i64 (storeOf x)) := (H3.out.cell (g := g + 1) (cs := B1) (t := 38) (fr := (0, 0)) (List.mem_cons_self ..) 87).trans D87.out
 obtain ⟨-, -, r3'⟩ := (FSx.out _ _ H3.out (by simp)).1
 have R3 := Lib.hid r3'
 clear r3' KR
 go_wp2_with ((with_reducible refine wpList_load_midg 36 rfl (by kernel_rfl) 24 (.tmp 35) rfl g 3 rfl cc _ R3.out Tryd.underlying24 rfl QI.out ?_))
 refine K4.out.mono ?_
 rintro e w4 ⟨rfl, h4⟩
 have c2' := (FSx.out _ _ h4 (by simp)).1.1
 have H4 := Lib.hid (h4.alloc (.cells Tryd.zeroCells36 36))
 clear h4 H3 K4 R3 ch
 go_wp2_with (with_reducible refine wpList_store_st rfl 36 (.tmp 6) (.tmp 40) rfl (g := w4.heap.size) (off := 0) RR rfl rfl H4.out RFIT.out RI.out RO.out ?_; intro w5 h5; refine Hid.out ?_)
 refine Lib.hid ?_
 rw [RMANY.out] at h5
 obtain ⟨b6, hb6⟩ : ∃ y, w4.heap.size = y := ⟨_, rfl⟩
 rw [hb6] at h5 ⊢
 have c2'' := (FSx.out _ _ h5 (by simp)).1.1
 clear hb6 c2'
 have RX7 := Lib.hid (FSx.out _ _ h5 (by simp)).2
 have R6 : Hid (w5.rangeAt b6 0 RR.toList) := Lib.hid (fun j u hj => by rw [Nat.zero_add, h5.cell (g := b6) (cs := RR) (t := 36) (fr := (0, 0)) (List.mem_cons_self ..) j]; simpa using hj)
 have H5 := Lib.hid h5
 clear h5 H4
 cases ob with
 | false =>
  go_wp2_with fail
  go_ret
  exact FIN0.out (by rw [HD.out]; simp) _ [(b6, .cells RR 36 (0, 0)), (g + 1, .cells B1 38 (0, 0)), (g, .cells SX 40 (0, 0))] H5.out
 | true =>
  have HD2 : Hid (RES = doM m ns (⟨1, x.serial, x.call, (replyM m ns x.call (storeOf x)).1, storeOf x, 0, 0, zS⟩ : En)) := Lib.hid (by rw [HD.out]; simp)
  have H5E := Lib.hid (H5.out.perm (L' := (g + 1, .cells B1 38 (0, 0)) :: (b6, .cells RR 36 (0, 0)) :: (g, .cells SX 40 (0, 0)) :: F) (perm_count (fun i a => by simp only [List.count_append, List.count_cons, List.count_nil]; omega)))
  clear HD
  go_wp2_with (first | (with_reducible refine wpList_load_midg 55 rfl (by kernel_rfl) 36 (.tmp 6) rfl b6 0 rfl RR _ R6.out Tryd.underlying36 rfl RI.out ?_) | (with_reducible refine wpList_store_st rfl 36 (.tmp 56) (.tmp 55) rfl (g := g + 1) (off := 7) RR rfl rfl H5E.out F7.out RI.out RO.out ?_; intro w6 h6; refine Hid.out ?_))
  refine Lib.hid ?_
  rw [PF.out] at h6
  have KY2 := Lib.hid (KY.out _ _ h6 (fun p hp => by simp [HLN.out p hp]) (by simp [HM.out]))
  clear H5 H5E R6 RX7 h6
  go_wp2_with fail
  refine KY2.out.mono ?_
  rintro e w7 ⟨g7, A7, c7, L7, rfl, mo7, h7⟩
  have RE : Hid (w7.rangeAt (g + 1) 0 FX.toList) := Lib.hid (fun j u hj => by rw [Nat.zero_add, h7.cell (g := g + 1) (cs := FX) (t := 38) (fr := (0, 0)) (by simp) j]; simpa using hj)
  have KD2 := Lib.hid (KD.out _ _ _ _ mo7 _ _ (fun p hp => by simp [hp]) h7)
  clear KY2 h7
  go_wp2_with (with_reducible refine wpList_load_midg 60 rfl (by kernel_rfl) 38 (.tmp 5) rfl (g + 1) 0 rfl FX _ RE.out Tryd.underlying38 rfl FI.out ?_)
  refine KD2.out.mono ?_
  rintro e w8 ⟨rfl, h8⟩
  have H8 := Lib.hid h8; have MO7 := Lib.hid mo7
  clear h8 mo7 KD2 RE
  cases hdo : doM m ns (⟨1, x.serial, x.call, (replyM m ns x.call (storeOf x)).1, storeOf x, 0, 0, zS⟩ : En) with
  | none =>
   have hq := H8.out
   rw [hdo, Option.getD_none] at hq
   have H9 := Lib.hid hq
   have hres : Hid (RES = none) := Lib.hid (by rw [HD2.out, hdo])
   clear hq H8 hdo HD2
   simp only [Option.isSome_none]
   go_wp2_with fail
   go_ret
   exact FIN0.out hres.out _ ((g7, .cells (m.cells (.slice A7 n c7)) 71 (0, 0)) :: (L7 ++ [(g + 1, .cells FX 38 (0, 0)), (b6, .cells RR 36 (0, 0)), (g, .cells SX 40 (0, 0))])) (St.perm H9.out (perm_count (fun i a => by simp only [List.count_append, List.count_cons, List.count_nil]; omega)))
  | some m' =>
   have hq := H8.out
   rw [hdo] at hq
   rw [Option.getD_some] at hq
   have hres : RES = some m' := by rw [HD2.out, hdo]
   have HF := Lib.hid (FIN1.out m' hres _ g7 A7 c7 L7 [(g + 1, .cells FX 38 (0, 0)), (b6, .cells RR 36 (0, 0)), (g, .cells SX 40 (0, 0))] MO7.out hdo (St.perm hq (perm_count (fun i a => by simp only [List.count_append, List.count_cons, List.count_nil]; omega))))
   clear hq H8 hdo HD2 hres
   simp only [Option.isSome_some]
   go_wp2_with fail
   go_ret
   exact HF.out
end
end
end Go.Proofs.YtnjnooeldkideaaDoor
