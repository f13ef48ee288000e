/- order: an entry. order: clones; a model's copy. slices that can be read, as rows; order: a model anew. A region that draws its order, whose last operation waits for all the others: the others under one condition on the world, then the last one. -/
import Derived.Test.YtnjnooeldkideaaDoorOrEd
import Derived.Test.YtnjnooeldkideaaDoorMGlyphC
import Derived.OwnWalk
import Derived.Lib.MinMax
import Derived.Test.YtnjnooeldkideaaDoorBase
import Derived.StillTail
import Derived.Deep.RegionWith
import Derived.Deep.RegionHeld3
namespace Go.Proofs.YtnjnooeldkideaaDoor
section
set_option linter.unusedVariables false
set_option linter.unusedSimpArgs false
open Go.RowKit Go.Lib Go.Deep
section
variable {W w : World} {J : Nat → Option Obj} {t : Tb} {F : List (Nat × Obj)}
variable {m : Md} {gm n c : Nat} {A : Option Addr} {ns : List ByteArray} {Ln : List (Nat × Obj)}
def doM (m : Md) (ns : List ByteArray) (e : En) : Option Md := if e.kind = 1 then calledM m ns e else if e.kind = 2 then endedM m e else none
set_option maxRecDepth 100000 in
set_option maxHeartbeats 8000000 in
theorem o_do (tb : Go.Proofs.YtnjnooeldkideaaDoor.TB W J) (mo : MOk J m ns A n c Ln) (e : En) (eok : e.Ok) (hs : e.call.name.size ≤ 1000000) (hLn : ∀ p ∈ Ln, p ∈ F) (h : St W w J ((gm, .cells (m.cells (.slice A n c)) 71 (0, 0)) :: F)) :
  Calls Tryd.prog 16 #[.pointer (some ⟨gm, 0, none⟩), e.val] w fun e' w' => e' = .returned (.bool (doM m ns e).isSome) ∧ St W w' J ((gm, .cells (((doM m ns e).getD m).cells (.slice A n c)) 71 (0, 0)) :: F) := by
 have h1 := h.alloc (.cells e.cells 38)
 obtain ⟨g, hg⟩ : ∃ g, w.heap.size = g := ⟨_, rfl⟩
 rw [hg] at h1
 have ea := h1.en eok (List.mem_cons_self ..)
 have e0 := ea.kind
 have er0 := ea.all
 have eai := en_info eok
 have h2 := h1.perm (L' := (gm, .cells (m.cells (.slice A n c)) 71 (0, 0)) :: (g, .cells e.cells 38 (0, 0)) :: F) (perm_count fun i a => by simp only [List.count_cons]; omega)
 have kc := o_called tb mo e eok hs (F := (g, .cells e.cells 38 (0, 0)) :: F) (fun p hp => List.mem_cons_of_mem _ (hLn p hp)) h2
 have ke := o_ended mo.ok e eok h2
 have hD : doM m ns e = if e.kind = 1 then calledM m ns e else if e.kind = 2 then endedM m e else none := rfl
 unfold En.val at *
 obtain ⟨EX, hEX⟩ : ∃ y, e.cells = y := ⟨_, rfl⟩
 obtain ⟨kd, hkd⟩ : ∃ y, e.kind = y := ⟨_, rfl⟩
 rw [hEX] at h1 er0 eai kc ke e0 h2 ⊢
 rw [hkd] at e0 hD
 have H2 := Lib.hid h2; have RA := Lib.hid er0; have EAI := Lib.hid eai; have KC := Lib.hid kc; have KE := Lib.hid ke
 clear h1 h2 h er0 eai kc ke ea hEX hkd
 by_cases h1 : kd = 1
 ·subst h1
  rw [if_pos rfl] at hD
  rw [hD]
  clear hD KE
  generalize calledM m ns e = R at *
  go_enter Tryd.func16, Tryd.ntmps16
  go_wp2_with (with_reducible refine wpList_load_midg 10 rfl (by kernel_rfl) 38 (.tmp 3) rfl g 0 rfl EX _ RA.out Tryd.underlying38 rfl EAI.out ?_)
  refine KC.out.mono ?_
  rintro e' w3 ⟨rfl, h3⟩
  go_wp2_with fail
  go_ret
  exact ⟨rfl, h3.keep [(g, .cells EX 38 (0, 0))] (fun i a => by simp only [List.count_append, List.count_cons, List.count_nil]; omega)⟩
 ·have b1 : (kd == 1) = false := by simpa using h1
  rw [if_neg h1] at hD
  clear KC
  by_cases h2 : kd = 2
  ·subst h2
   rw [if_pos rfl] at hD
   rw [hD]
   clear hD h1
   generalize endedM m e = R at *
   go_enter Tryd.func16, Tryd.ntmps16
   go_wp2_with (with_reducible refine wpList_load_midg 15 rfl (by kernel_rfl) 38 (.tmp 3) rfl g 0 rfl EX _ RA.out Tryd.underlying38 rfl EAI.out ?_)
   refine KE.out.mono ?_
   rintro e' w3 ⟨rfl, h3⟩
   go_wp2_with fail
   go_ret
   exact ⟨rfl, h3.keep [(g, .cells EX 38 (0, 0))] (fun i a => by simp only [List.count_append, List.count_cons, List.count_nil]; omega)⟩
  ·have b2 : (kd == 2) = false := by simpa using h2
   rw [if_neg h2] at hD
   rw [hD]
   clear hD KE h1 h2
   go_enter Tryd.func16, Tryd.ntmps16
   go_wp2_with fail
   go_ret
   have h3 := H2.out
   (try rw [Option.getD_none])
   exact ⟨rfl, h3.keep [(g, .cells EX 38 (0, 0))] (fun i a => by simp only [List.count_append, List.count_cons, List.count_nil]; omega)⟩
end
end

section
set_option linter.unusedVariables false
set_option linter.unusedSimpArgs false
open Go.RowKit Go.Lib Go.Deep
section
variable {W w : World} {J : Nat → Option Obj} {t : Tb} {F : List (Nat × Obj)}
theorem run_eqlnil {P : Program} (t : TypeId) {e : TypeId} (h : P.underlying t = some (.slice e)) (a : Option Addr) (l c : Nat) (w : World) : (binOp .eql t (.slice a l c) (.slice none 0 0)).run P w = .ok (.bool a.isNone) w := by
 simp [binOp, Sem.run_bind, run_equal_slice_nil w t e a l c h, Result.andThen]
set_option maxRecDepth 100000 in
set_option maxHeartbeats 4000000 in
theorem clone_strs (A : Option Addr) (n c : Nat) (xs : List Value) (Lx : List (Nat × Obj)) (hp : ∀ (v : World) (X : List (Nat × Obj)), St W v J X → (∀ p ∈ Lx, p ∈ X) → Src v 1 A n xs) (hone : ∀ u ∈ xs, u.oneCell' = true) (hn : n ≤ 1000) (h : St W w J F) (hL : ∀ p ∈ Lx, p ∈ F) :
  Calls Tryd.prog 60 #[.slice A n c] w fun e w' => ∃ A' c' L', e = .returned (.slice A' n c') ∧ Row 9 1 (.slice A' n c') n xs L' ∧ St W w' J (L' ++ F) := by
 cases A with
 | none =>
  have hs := hp w F h hL
  have hx : xs = [] := by
   cases hb : xs with
   | nil => rfl
   | cons x l =>
    obtain ⟨ad, h1, _⟩ := hs.2 0 x (by rw [hb]; rfl)
    cases h1
  have h0 : n = 0 := by
   have q := hs.1
   rw [hx] at q
   simp at q
   omega
  subst hx h0
  have H := Lib.hid h
  have hq := fun c => run_eqlnil (P := Tryd.prog) 43 Tryd.underlying43 none 0 c
  clear h hp hs hone
  go_enter Tryd.func60, Tryd.ntmps60
  go_wp2_with fail
  go_ret
  exact ⟨none, 0, [], rfl, Row.nil _ _, H.out⟩
 | some ad =>
  have h2 := h.alloc (.cells #[] 9)
  have hsrc := hp _ _ h2 (fun p hp => List.mem_cons_of_mem _ (hL p hp))
  have hr := Row.empty 9 1 w.heap.size
  have hq := fun l c => run_eqlnil (P := Tryd.prog) 43 Tryd.underlying43 (some ad) l c
  clear hp h
  go_enter Tryd.func60, Tryd.ntmps60
  go_wp2_with (at_builtin; refine Hid.out ?_)
  refine Lib.hid ?_
  refine wpList_append_row0 (F := F) rfl (.tmp 5) (.tmp 6) 43 rfl 9 (.string ⟨#[]⟩) 1 16 Tryd.underlying43 (by kernel_rfl) (by kernel_rfl) (by omega) rfl hr (by exact h2) rfl (by exact hsrc) hone n (by omega) xs rfl (by unfold maxLen; omega) (by omega) ?_
  intro A1 c1 w2 L1 hr1 h3 ho
  have H3 := Lib.hid h3; have HR := Lib.hid hr1
  clear h3 hr1 ho h2 hsrc hr hone
  go_wp2_with fail
  go_ret
  exact ⟨_, _, _, rfl, HR.out, H3.out⟩
set_option maxRecDepth 100000 in
set_option maxHeartbeats 4000000 in
theorem clone_spans (A : Option Addr) (n c : Nat) (xs : List Value) (Lx : List (Nat × Obj)) (hp : ∀ (v : World) (X : List (Nat × Obj)), St W v J X → (∀ p ∈ Lx, p ∈ X) → Src v 88 A n xs) (hone : ∀ u ∈ xs, u.oneCell' = true) (hn : n ≤ 1000) (h : St W w J F) (hL : ∀ p ∈ Lx, p ∈ F) :
  Calls Tryd.prog 38 #[.slice A n c] w fun e w' => ∃ A' c' L', e = .returned (.slice A' n c') ∧ Row 40 88 (.slice A' n c') n xs L' ∧ St W w' J (L' ++ F) := by
 cases A with
 | none =>
  have hs := hp w F h hL
  have hx : xs = [] := by
   cases hb : xs with
   | nil => rfl
   | cons x l =>
    obtain ⟨ad, h1, _⟩ := hs.2 0 x (by rw [hb]; rfl)
    cases h1
  have h0 : n = 0 := by
   have q := hs.1
   rw [hx] at q
   simp at q
   omega
  subst hx h0
  have H := Lib.hid h
  have hq := fun c => run_eqlnil (P := Tryd.prog) 42 Tryd.underlying42 none 0 c
  clear h hp hs hone
  go_enter Tryd.func38, Tryd.ntmps38
  go_wp2_with fail
  go_ret
  exact ⟨none, 0, [], rfl, Row.nil _ _, H.out⟩
 | some ad =>
  have h2 := h.alloc (.cells #[] 40)
  have hsrc := hp _ _ h2 (fun p hp => List.mem_cons_of_mem _ (hL p hp))
  have hr := Row.empty 40 88 w.heap.size
  have hq := fun l c => run_eqlnil (P := Tryd.prog) 42 Tryd.underlying42 (some ad) l c
  clear hp h
  go_enter Tryd.func38, Tryd.ntmps38
  go_wp2_with (at_builtin; refine Hid.out ?_)
  refine Lib.hid ?_
  refine wpList_append_row0 (F := F) rfl (.tmp 5) (.tmp 6) 42 rfl 40 (.agg Tryd.zeroCells40) 88 264 Tryd.underlying42 (by kernel_rfl) (by kernel_rfl) (by omega) rfl hr (by exact h2) rfl (by exact hsrc) hone n (by omega) xs rfl (by unfold maxLen; omega) (by omega) ?_
  intro A1 c1 w2 L1 hr1 h3 ho
  have H3 := Lib.hid h3; have HR := Lib.hid hr1
  clear h3 hr1 ho h2 hsrc hr hone
  go_wp2_with fail
  go_ret
  exact ⟨_, _, _, rfl, HR.out, H3.out⟩
variable {m : Md} {gm n c : Nat} {A : Option Addr} {ns : List ByteArray} {Ln : List (Nat × Obj)}
theorem Nms.src (h : Nms A n c ns Ln) (v : World) (X : List (Nat × Obj)) (hv : St W v J X) (hL : ∀ p ∈ Ln, p ∈ X) : Src v 1 A n (ns.map Value.string) := Row.src h (fun p hp => hv.own p (hL p hp))
theorem zmd : Tryd.zeroCells71.size = 84 := by kernel_rfl
theorem Md.one (m : Md) {v : Value} (hv : v.oneCell' = true) : (m.cells v).all (·.oneCell') = true := by
 have h0 : m.known.cells.toList.all (·.oneCell') = true := by have h := m.known.one; rw [← Array.all_toList] at h; exact h
 unfold Md.cells
 rw [List.all_toArray, List.all_append, List.all_append, List.all_append, h0]
 simp [Jb.list, hv]
 exact ⟨rfl, ⟨rfl, rfl, rfl, rfl, rfl, rfl⟩, rfl⟩
theorem Md.put_names {m : Md} (ok : m.known.Ok) (v v' : Value) : (m.cells v).setIfInBounds 75 v' = m.cells v' := by
 have h := Tb.size ok
 unfold Md.cells
 rw [List.setIfInBounds_toArray, List.set_append_right _ _ (by simp; omega)]
 congr 2
 simp [h]
set_option maxRecDepth 100000 in
set_option maxHeartbeats 4000000 in
theorem o_copy (mo : MOk J m ns A n c Ln) (hLn : ∀ p ∈ Ln, p ∈ F) (h : St W w J F) (hm : (gm, Obj.cells (m.cells (.slice A n c)) 71 (0, 0)) ∈ F) :
  Calls Tryd.prog 34 #[.pointer (some ⟨gm, 0, none⟩)] w fun e w' => ∃ g' A' c' L', e = .returned (.pointer (some ⟨g', 0, none⟩)) ∧ MOk J m ns A' n c' L' ∧ St W w' J ((g', .cells (m.cells (.slice A' n c')) 71 (0, 0)) :: (L' ++ F)) := by
 have ka := fun (v : World) (X : List (Nat × Obj)) (hv : St W v J X) (hL : ∀ p ∈ Ln, p ∈ X) => clone_strs A n c (ns.map Value.string) Ln (fun v X hv hL => Nms.src mo.names v X hv hL) (fun u hu => by obtain ⟨b, _, rfl⟩ := List.mem_map.1 hu; rfl) mo.few hv hL
 have ra : w.rangeAt gm 0 (m.cells (.slice A n c)).toList := fun j u hj => by rw [Nat.zero_add, h.cell hm j]; simpa using hj
 have m75 := (h.md mo.ok hm).names
 have msz := Md.size mo.ok.known (.slice A n c)
 have mai := md_info mo.ok.known (.slice A n c)
 have mao := Md.one m (v := .slice A n c) rfl
 have h1 := h.alloc (.cells Tryd.zeroCells71 71)
 have pn := fun v' => Md.put_names mo.ok.known (.slice A n c) v'
 have fin : ∀ (v : World) (g' : Nat) (A' : Option Addr) (c' : Nat) (L' : List (Nat × Obj)), Row 9 1 (.slice A' n c') n (ns.map Value.string) L' → St W v J ((g', .cells (m.cells (.slice A' n c')) 71 (0, 0)) :: (L' ++ F)) → ∃ g'' A' c' L', Ending.returned (.pointer (some ⟨g', 0, none⟩)) = .returned (.pointer (some ⟨g'', 0, none⟩)) ∧ MOk J m ns A' n c' L' ∧ St W v J ((g'', .cells (m.cells (.slice A' n c')) 71 (0, 0)) :: (L' ++ F)) := fun v g' A' c' L' hr hv => ⟨g', A', c', L', rfl, ⟨mo.ok, mo.b0, mo.b1, hr, mo.few⟩, hv⟩
 obtain ⟨MC, hMC⟩ : ∃ y, m.cells (.slice A n c) = y := ⟨_, rfl⟩
 rw [hMC] at ra msz mai mao pn
 have fit : 0 + MC.size ≤ Tryd.zeroCells71.size := by rw [msz, zmd]; omega
 have many : setMany Tryd.zeroCells71 0 MC.toList = MC := by rw [setMany_whole _ _ (by rw [Array.length_toList, msz, zmd]), Array.toArray_toList]
 have l75 : 75 < MC.size := by rw [msz]; omega
 have FIN := Lib.hid fin; have KA := Lib.hid ka; have RA := Lib.hid ra; have MAI := Lib.hid mai; have MAO := Lib.hid mao; have H1 := Lib.hid h1; have FIT := Lib.hid fit; have MANY := Lib.hid many; have PN := Lib.hid pn; have HLN := Lib.hid hLn; have L75 := Lib.hid l75; have HM := Lib.hid hm
 have m75' := fun (v : World) (X : List (Nat × Obj)) (hv : St W v J X) (hx : (gm, Obj.cells (m.cells (.slice A n c)) 71 (0, 0)) ∈ X) => (hv.md mo.ok hx).names
 have M75 := Lib.hid m75'
 clear fin ka ra mai mao h1 fit many pn hLn l75 hm h m75 m75' hMC msz mo
 go_enter Tryd.func34, Tryd.ntmps34
 go_wp2_with (first | (with_reducible refine wpList_load_midg 6 rfl (by kernel_rfl) 71 (.tmp 5) rfl gm 0 rfl MC _ RA.out Tryd.underlying71 rfl MAI.out ?_) | (with_reducible refine wpList_store_st rfl 71 (.tmp 3) (.tmp 6) rfl (g := w.heap.size) (off := 0) MC rfl rfl H1.out FIT.out MAI.out MAO.out ?_; intro w2 h2; refine Hid.out ?_))
 refine Lib.hid ?_
 rw [MANY.out] at h2
 obtain ⟨g3, hg3⟩ : ∃ y, w.heap.size = y := ⟨_, rfl⟩
 rw [hg3] at h2 ⊢
 have c75 := M75.out _ _ h2 (List.mem_cons_of_mem _ HM.out)
 have KA2 := Lib.hid (KA.out _ _ h2 (fun p hp => List.mem_cons_of_mem _ (HLN.out p hp)))
 clear h2 H1 KA RA hg3
 go_wp2_with fail
 refine KA2.out.mono ?_
 rintro e w3 ⟨A', c', L', rfl, hr, h3⟩
 have h4 := h3.perm (L' := (g3, .cells MC 71 (0, 0)) :: (L' ++ F)) (perm_count fun i a => by simp only [List.count_append, List.count_cons]; omega)
 have I1 : Hid ((Tryd.prog.info? 43).map (·.size) = some 1) := Lib.hid (by kernel_rfl)
 have H4 := Lib.hid h4; have HR := Lib.hid hr
 clear h3 h4 hr KA2 c75
 go_wp2_with (with_reducible refine wpList_store_one rfl 43 (.tmp 12) (.tmp 11) rfl (g := g3) (off := 75) (.slice A' n c') rfl rfl rfl H4.out L75.out I1.out rfl ?_; intro w5 h5; refine Hid.out ?_)
 refine Lib.hid ?_
 have h6 : St W w5 J ((g3, .cells (MC.setIfInBounds 75 (.slice A' n c')) 71 (0, 0)) :: (L' ++ F)) := h5
 rw [PN.out] at h6
 have H6 := Lib.hid h6
 clear h5 h6 H4
 go_wp2_with fail
 go_ret
 exact FIN.out _ _ _ _ _ HR.out H6.out
end
end

section
set_option linter.unusedVariables false
set_option linter.unusedSimpArgs false
open Go.RowKit Go.Lib Go.Deep
section
variable {W w : World} {J : Nat → Option Obj} {t : Tb} {F : List (Nat × Obj)}
structure Rd (W : World) (J : Nat → Option Obj) (Lx : List (Nat × Obj)) (k : Nat) (A : Option Addr) (rows : List (List Value)) : Prop where
 len : ∀ r ∈ rows, r.length = k
 at_ : ∀ (v : World) (X : List (Nat × Obj)), St W v J X → (∀ p ∈ Lx, p ∈ X) → ∀ i r, rows[i]? = some r → ∃ b off, A = some ⟨b, off, none⟩ ∧ v.rangeAt b (off + i * k) r
theorem flat_len {k : Nat} : ∀ (rows : List (List Value)), (∀ r ∈ rows, r.length = k) → rows.flatten.length = rows.length * k
 | [], _ => by simp
 | r :: rows, h => by
  rw [List.flatten_cons, List.length_append, flat_len rows (fun q hq => h q (List.mem_cons_of_mem _ hq)), h r (List.mem_cons_self ..), List.length_cons, Nat.add_mul]
  omega
theorem flat_get {k : Nat} : ∀ (rows : List (List Value)), (∀ r ∈ rows, r.length = k) → ∀ i r, rows[i]? = some r → ∀ j, j < k → rows.flatten[i * k + j]? = r[j]?
 | [], _, i, r, hi, _, _ => by simp at hi
 | q :: rows, h, 0, r, hi, j, hj => by
  simp at hi
  subst hi
  rw [List.flatten_cons, Nat.zero_mul, Nat.zero_add, List.getElem?_append_left (by rw [h q (List.mem_cons_self ..)]; exact hj)]
 | q :: rows, h, i + 1, r, hi, j, hj => by
  have hq := h q (List.mem_cons_self ..)
  rw [List.flatten_cons, List.getElem?_append_right (by rw [hq, Nat.add_mul]; omega), hq, show (i + 1) * k + j - k = i * k + j by rw [Nat.add_mul]; omega]
  exact flat_get rows (fun x hx => h x (List.mem_cons_of_mem _ hx)) i r (by simpa using hi) j hj
theorem flat_ex {k : Nat} (hk : 0 < k) : ∀ (rows : List (List Value)), (∀ r ∈ rows, r.length = k) → ∀ j u, rows.flatten[j]? = some u → ∃ i r l, rows[i]? = some r ∧ l < k ∧ j = i * k + l ∧ r[l]? = some u := fun rows h j u hj => by
 have hl := (List.getElem?_eq_some_iff.1 hj).1
 rw [flat_len rows h] at hl
 have hi : j / k < rows.length := Nat.div_lt_of_lt_mul (by rw [Nat.mul_comm]; exact hl)
 refine ⟨j / k, rows[j / k], j % k, List.getElem?_eq_getElem hi, Nat.mod_lt _ hk, by rw [Nat.mul_comm, Nat.div_add_mod], ?_⟩
 rw [← flat_get rows h (j / k) rows[j / k] (List.getElem?_eq_getElem hi) (j % k) (Nat.mod_lt _ hk), Nat.mul_comm, Nat.div_add_mod]
 exact hj
section
variable {Lx : List (Nat × Obj)} {k : Nat} {A : Option Addr} {rows : List (List Value)}
theorem Rd.src (hk : 0 < k) (h : Rd W J Lx k A rows) (v : World) (X : List (Nat × Obj)) (hv : St W v J X) (hL : ∀ p ∈ Lx, p ∈ X) : Src v k A rows.length rows.flatten := by
 refine ⟨flat_len rows h.len, fun j u hj => ?_⟩
 obtain ⟨i, r, l, hi, hl, rfl, hr⟩ := flat_ex hk rows h.len j u hj
 obtain ⟨b, off, rfl, hc⟩ := h.at_ v X hv hL i r hi
 refine ⟨_, rfl, ?_⟩
 rw [show (⟨b, off, none⟩ : Addr).add (i * k + l) = ⟨b, off + (i * k + l), none⟩ by unfold Addr.add; split <;> simp_all, ← Nat.add_assoc]
 exact hc l u hr
theorem Rd.of_row (hk : 0 < k) {T : TypeId} {n c : Nat} {xs : List Value} {L' : List (Nat × Obj)} (hr : Row T k (.slice A n c) n xs L') (hx : rows.flatten = xs) (hlen : ∀ r ∈ rows, r.length = k) : Rd W J L' k A rows := by
 refine ⟨hlen, fun v X hv hL i r hi => ?_⟩
 ·have hrl := hlen r (List.mem_of_getElem? hi)
  have h0 : xs[i * k + 0]? = some (r[0]'(by omega)) := by
   rw [← hx, flat_get rows hlen i r hi 0 hk]
   exact List.getElem?_eq_getElem _
  obtain ⟨g, off, cap, cur, hv', hL', -⟩ := hr.cells h0
  injection hv' with e1 e2 e3
  subst e1
  refine ⟨g, off, rfl, fun j u hj => ?_⟩
  have hj' : j < k := by have := (List.getElem?_eq_some_iff.1 hj).1; omega
  have h1 : xs[i * k + j]? = some u := by rw [← hx, flat_get rows hlen i r hi j hj']; exact hj
  obtain ⟨g', off', cap', cur', hv2, hL2, hc⟩ := hr.cells h1
  injection hv2 with q1 q2 q3
  injection q1 with q1
  injection q1 with q4 q5
  subst q4 q5
  have hin := hL (g, .cells cur' T (0, 0)) (by rw [hL2]; exact List.mem_singleton.2 rfl)
  rw [show off + i * k + j = off + (i * k + j) by omega, hv.cell hin (off + (i * k + j))]
  exact hc
theorem Rd.mono {J' : Nat → Option Obj} {Ly : List (Nat × Obj)} (h : Rd W J Lx k A rows) (hle : Le J J') (hL : ∀ p ∈ Lx, p ∈ Ly) : Rd W J' Ly k A rows := ⟨h.len, fun v X hv hX => h.at_ v X (hv.less hle) (fun p hp => hX p (hL p hp))⟩
theorem Rd.tail {b off : Nat} {r : List Value} (h : Rd W J Lx k (some ⟨b, off, none⟩) (r :: rows)) : Rd W J Lx k (some ⟨b, off + k, none⟩) rows := ⟨fun q hq => h.len q (List.mem_cons_of_mem _ hq), fun v X hv hL i q hi => by
 obtain ⟨b', off', e, hc⟩ := h.at_ v X hv hL (i + 1) q (by simpa using hi)
 injection e with e
 injection e with e1 e2
 subst e1 e2
 exact ⟨b, off + k, rfl, by rw [show off + k + i * k = off + (i + 1) * k by rw [Nat.add_mul]; omega]; exact hc⟩⟩
end
variable {m : Md} {gm n c : Nat} {A : Option Addr} {ns : List ByteArray} {Ln : List (Nat × Obj)}
def nmRows (ns : List ByteArray) : List (List Value) := ns.map (fun s => [Value.string s])
def filtN (ns : List ByteArray) : List ByteArray := (ns.filter nameOk).map foldB
def newM (t : Tb) (tries : Int) : Md := ⟨t, max 1 (min tries 7), zJ, 0⟩
theorem filtN_take (ns : List ByteArray) (k : Nat) (s : ByteArray) (h : ns[k]? = some s) : filtN (ns.take (k + 1)) = if nameOk s = true then filtN (ns.take k) ++ [foldB s] else filtN (ns.take k) := by
 unfold filtN
 rw [List.take_add_one, h, Option.toList_some, List.filter_append, List.map_append]
 by_cases hs : nameOk s = true
 ·simp [hs]
 ·simp [hs]
theorem filtN_len (ns : List ByteArray) : (filtN ns).length ≤ ns.length := by
 unfold filtN
 rw [List.length_map]
 exact List.length_filter_le _ _
set_option maxRecDepth 100000 in
theorem run_build_new (t : Tb) (ok : t.Ok) (x : Int) (w : World) : (Instr.build 71 #[(0, .agg t.cells), (2, .int .i64 x)]).run Tryd.prog w = .ok (.agg ((⟨t, x, zJ, 0⟩ : Md).cells (.slice none 0 0))) w := by
 obtain ⟨⟨st, tr, ver, sz, ds⟩, ⟨st', tr', ver', sz', ds'⟩, ac, bo, fl⟩ := t
 have h0 := ok.s0.dig
 have h1 := ok.s1.dig
 simp only at h0 h1
 obtain ⟨d0, d1, d2, d3, d4, d5, d6, d7, d8, d9, d10, d11, d12, d13, d14, d15, d16, d17, d18, d19, d20, d21, d22, d23, d24, d25, d26, d27, d28, d29, d30, d31, rfl⟩ := thirtytwo ds h0
 obtain ⟨e0, e1, e2, e3, e4, e5, e6, e7, e8, e9, e10, e11, e12, e13, e14, e15, e16, e17, e18, e19, e20, e21, e22, e23, e24, e25, e26, e27, e28, e29, e30, e31, rfl⟩ := thirtytwo ds' h1
 exact run_build w _ _ _ (by kernel_rfl)
end
end

section
set_option linter.unusedVariables false
set_option linter.unusedSimpArgs false
open Go.RowKit
section
variable {P : Program} {ops ops' : Array Oper} {md : Region.Mode} {Q : Exit → Act → World → Prop} {N : Act → World → Prop} {n : Nat}
def SinkQ (Q : Exit → Act → World → Prop) (N : Act → World → Prop) : Exit → Act → World → Prop := fun e a w => match e with
 | .normal => N a w
 | e => Q e a w
theorem upon_sink {o : Oper} {a : Act} {K : Act → World → Prop} {r : Result Next} (h : o.upon P a K (SinkQ Q N) r) : o.upon P a K Q r := by
 cases r with
 | ok x w' =>
  cases x <;> simp only [Oper.upon] at h ⊢ <;> (exact h)
 | halt x w' => cases x <;> simp only [Oper.upon] at h ⊢ <;> exact h
def Region.sinkOK (md : Region.Mode) (ops : Array Oper) (n : Nat) : Bool :=
 decide (ops.size = n + 1) && Region.sinkB md ops n && ((List.range (n + 1)).all fun i => match ops[i]? with
  | none => false
  | some o => (o.after.all fun e => decide (e.on < i)) && (match o.guard with | none => true | some (g, _) => decide (g < i)))
structure SinkFits (md : Region.Mode) (ops ops' : Array Oper) (n : Nat) : Prop where
 size : ops.size = n + 1
 size' : ops'.size = n
 same : ∀ i, i < n → ops'[i]? = ops[i]?
 sink : Region.sinkB md ops n = true
 after : ∀ (i : Nat) (o : Oper), ops[i]? = some o → ∀ e ∈ o.after, e.on < i
 guard : ∀ (i : Nat) (o : Oper) (g : Nat) (b : Bool), ops[i]? = some o → o.guard = some (g, b) → g < i
theorem SinkFits.of {l : List Oper} (h : Region.sinkOK md l.toArray n = true) : SinkFits md l.toArray (l.take n).toArray n := by
 unfold Region.sinkOK at h
 simp only [Bool.and_eq_true, decide_eq_true_eq] at h
 obtain ⟨⟨h1, h2⟩, h3⟩ := h
 have hl : l.length = n + 1 := by simpa using h1
 have key : ∀ (i : Nat) (o : Oper), l.toArray[i]? = some o → (∀ e ∈ o.after, e.on < i) ∧ (∀ g b, o.guard = some (g, b) → g < i) := fun i o ho => by
  have hi : i < n + 1 := by have := (Array.getElem?_eq_some_iff.1 ho).1; omega
  have := List.all_eq_true.1 h3 i (List.mem_range.2 hi)
  rw [ho] at this
  simp only [Bool.and_eq_true] at this
  refine ⟨fun e he => by simpa using Array.all_eq_true_iff_forall_mem.1 this.1 e he, fun g b hg => ?_⟩
  have h5 := this.2
  rw [hg] at h5
  simpa using h5
 refine ⟨h1, by simp; omega, fun i hi => ?_, h2, fun i o ho => (key i o ho).1, fun i o g b ho hg => (key i o ho).2 g b hg⟩
 simp [hi]
theorem SinkFits.ready (F : SinkFits md ops ops' n) {listed listed' : Array Bool} (hs : listed.size = n + 1) (hs' : listed'.size = n) (hl : ∀ i, i < n → listed'[i]? = listed[i]?) {i : Nat} (hi : i < n) :
  i ∈ Region.ready md ops' listed' ↔ i ∈ Region.ready md ops listed := by
 have hg : ∀ j d, j < n → listed'.getD j d = listed.getD j d := fun j d hj => by
  have := hl j hj
  rw [Array.getD_eq_getD_getElem?, Array.getD_eq_getD_getElem?, this]
 rw [mem_ready, mem_ready, hg i true hi, F.same i hi]
 constructor
 ·rintro ⟨h1, o, ho, h2⟩
  exact ⟨h1, o, ho, fun e he hb => by rw [← hg e.on false (by have := F.after i o ho e he; omega)]; exact h2 e he hb⟩
 ·rintro ⟨h1, o, ho, h2⟩
  exact ⟨h1, o, ho, fun e he hb => by rw [hg e.on false (by have := F.after i o ho e he; omega)]; exact h2 e he hb⟩
theorem SinkFits.all (F : SinkFits md ops ops' n) {listed : Array Bool} (hs : listed.size = n + 1) (h : ∀ i, i < n → i ∉ Region.ready md ops listed) : ∀ i, i < n → listed.getD i false = true := by
 intro i
 induction i using Nat.strongRecOn with
 | _ i ih =>
  intro hi
  cases hc : listed.getD i false with
  | true => rfl
  | false =>
   refine absurd (mem_ready.2 ⟨getD_in (by omega) hc, ops[i]'(by rw [F.size]; omega), Array.getElem?_eq_getElem _, fun e he hb => ?_⟩) (h i hi)
   have := F.after i _ (Array.getElem?_eq_getElem (by rw [F.size]; omega)) e he
   exact ih e.on this (by omega)
theorem SinkFits.last (F : SinkFits md ops ops' n) {listed : Array Bool} (hs : listed.size = n + 1) (hn : listed.getD n false = false) (h : ∀ i, i < n → listed.getD i false = true) : n ∈ Region.ready md ops listed :=
 mem_ready.2 ⟨getD_in (by omega) hn, ops[n]'(by rw [F.size]; omega), Array.getElem?_eq_getElem _, fun e he hb => h e.on (F.after n _ (Array.getElem?_eq_getElem (by rw [F.size]; omega)) e he)⟩
theorem SinkFits.none (F : SinkFits md ops ops' n) {listed : Array Bool} (h : ∀ i, i < n + 1 → listed.getD i false = true) : Region.ready md ops listed = [] := by
 rw [List.eq_nil_iff_forall_not_mem]
 intro i hi
 obtain ⟨h1, o, ho, _⟩ := mem_ready.1 hi
 have hlt := (Array.getElem?_eq_some_iff.1 ho).1
 have := h i (by rw [F.size] at hlt; exact hlt)
 rw [getD_both h1] at this
 cases this
theorem wpAny_over {listed : Array Bool} {a : Act} {w : World} (h0 : Region.ready md ops listed = []) (h : Q .normal a w) : ∀ f, wpAny P md ops Q f listed a w
 | 0 => ⟨h0, h⟩
 | f + 1 => ⟨fun _ => h, fun i hi => by rw [h0] at hi; cases hi⟩
theorem wpOp_sink (F : SinkFits md ops ops' n) {i : Nat} (hi : i < n) {K : Act → World → Prop} {a : Act} {w : World} (h : wpOp P ops' (SinkQ Q N) i K a w) : wpOp P ops Q i K a w := by
 unfold wpOp at *
 rw [F.same i hi] at h
 cases ho : ops[i]? with
 | none => rw [ho] at h; exact h
 | some o =>
  rw [ho] at h
  dsimp only at h ⊢
  have hw : Region.wanted o (yielded ops' a.tmps) = Region.wanted o (yielded ops a.tmps) := by
   unfold Region.wanted
   cases hg : o.guard with
   | none => rfl
   | some p =>
    obtain ⟨g, b⟩ := p
    have := F.guard i o g b ho hg
    dsimp only
    unfold yielded
    rw [F.same g (by omega)]
  rw [hw] at h
  split
  ·rename_i hc
   rw [if_pos hc] at h
   exact h.imp upon_sink id
  ·rename_i hc
   rw [if_neg hc] at h
   exact h
theorem wpAny_sink (F : SinkFits md ops ops' n) {o : Oper} (ho : ops[n]? = some o) : ∀ (f : Nat) (listed listed' : Array Bool) (a : Act) (w : World), HeadInv md ops n listed → listed'.size = n → (∀ i, i < n → listed'[i]? = listed[i]?) →
  wpAny P md ops' (SinkQ Q (wpList P ops Q [o])) f listed' a w → wpAny P md ops Q (f + 1) listed a w := by
 intro f
 have hc : Region.chainB md ops n = true := List.all_eq_true.2 fun t ht => by
  have := List.mem_range.1 ht
  rw [F.size] at this
  simp
  exact .inl (by omega)
 have step : ∀ (g : Nat) (listed listed' : Array Bool) (a : Act) (w : World), HeadInv md ops n listed → listed'.size = n → (∀ i, i < n → listed'[i]? = listed[i]?) →
   (Region.ready md ops' listed' = [] → wpList P ops Q [o] a w) → (∀ i, i < n → i ∈ Region.ready md ops listed → wpOp P ops Q i (wpAny P md ops Q g (listed.setIfInBounds i true)) a w) → wpAny P md ops Q (g + 1) listed a w := by
  intro g listed listed' a w inv hs' hl h0 h1
  have hs : listed.size = n + 1 := by rw [inv.size, F.size]
  have hn : listed.getD n false = false := getD_both (inv.tail n (Nat.le_refl _) (by rw [F.size]; omega))
  have hready : ∀ i, i ∈ Region.ready md ops listed → i < n + 1 := fun i hi => by
   obtain ⟨_, x, hx, _⟩ := mem_ready.1 hi
   have := (Array.getElem?_eq_some_iff.1 hx).1
   rw [F.size] at this
   exact this
  refine ⟨fun h2 => ?_, fun i hi => ?_⟩
  ·have hall := F.all hs (fun i _ hi => by rw [h2] at hi; cases hi)
   have := F.last hs hn hall
   rw [h2] at this
   cases this
  ·have hin := hready i hi
   by_cases hlt : i < n
   ·exact h1 i hlt hi
   ·have e : i = n := by omega
    subst e
    have hno : ∀ j, j < i → j ∉ Region.ready md ops listed := fun j hj hr => by
     obtain ⟨hun, _⟩ := mem_ready.1 hr
     exact tail_waits F.sink hc (by rw [F.size]; omega) inv _ j rfl hj hun i (Nat.le_refl _) hi
    have hall := F.all hs hno
    have h2 : Region.ready md ops' listed' = [] := by
     rw [List.eq_nil_iff_forall_not_mem]
     intro j hj
     obtain ⟨_, x, hx, _⟩ := mem_ready.1 hj
     have hj2 : j < i := by have := (Array.getElem?_eq_some_iff.1 hx).1; rw [F.size'] at this; exact this
     exact hno j hj2 ((F.ready hs hs' hl hj2).1 hj)
    have h3 := h0 h2
    have hw : wpOp P ops Q i (Q .normal) a w := by unfold wpOp; simp only [ho]; exact h3
    refine wpOp_mono (fun a' w' h' => wpAny_over (F.none fun j hj => ?_) h' g) hw
    by_cases hji : j = i
    ·subst hji
     rw [Array.getD_eq_getD_getElem?, Array.getElem?_setIfInBounds_self_of_lt (by omega)]
     rfl
    ·rw [getD_set_ne false (Ne.symm hji)]
     exact hall j (by omega)
 induction f with
 | zero =>
  intro listed listed' a w inv hs' hl h
  have hs : listed.size = n + 1 := by rw [inv.size, F.size]
  exact step 0 listed listed' a w inv hs' hl (fun _ => h.2) (fun i hi hr => by
   have := (F.ready hs hs' hl hi).2 hr
   rw [h.1] at this
   cases this)
 | succ f ih =>
  intro listed listed' a w inv hs' hl h
  have hs : listed.size = n + 1 := by rw [inv.size, F.size]
  refine step (f + 1) listed listed' a w inv hs' hl h.1 (fun i hi hr => ?_)
  have hr' := (F.ready hs hs' hl hi).2 hr
  refine wpOp_mono (fun a' w' h' => ih (listed.setIfInBounds i true) (listed'.setIfInBounds i true) a' w' (inv.set hr hi) (by simp [hs']) (fun j hj => ?_) h') (wpOp_sink F hi (h.2 i hr'))
  by_cases hji : i = j
  ·subst hji
   rw [Array.getElem?_setIfInBounds_self_of_lt (by omega), Array.getElem?_setIfInBounds_self_of_lt (by omega)]
  ·rw [Array.getElem?_setIfInBounds_ne hji, Array.getElem?_setIfInBounds_ne hji]
   exact hl j hj
theorem wp_region_sink {S : World → Prop} {id : Nat} {a : Act} {w : World} {l : List Oper} {o : Oper} (n : Nat) (hm : P.follows .mixedOrders = true) (hB : Region.sinkOK .any l.toArray n = true) (ho : l.toArray[n]? = some o) (hS : S w.drew)
  (h : S w.drew → wpAnyH P .any (l.take n).toArray (SinkQ Q (wpList P l.toArray Q [o])) S n (Array.replicate n false) a w.drew) : (Code.region id l.toArray true).wp P Q a w := by
 have F := SinkFits.of hB
 refine wp_region_any hm ?_
 have hsz : l.toArray.size = n + 1 := F.size
 rw [hsz]
 exact wpAny_sink F ho n (Array.replicate (n + 1) false) (Array.replicate n false) a _
  ⟨by rw [Array.size_replicate, F.size], fun j oj _ hl => (by rw [getD_replicate_false] at hl; cases hl), fun t _ ht => getD_in (by rw [Array.size_replicate]; rw [F.size] at ht; exact ht) (getD_replicate_false _ _)⟩
  (Array.size_replicate ..) (fun i hi => by rw [Array.getElem?_replicate, Array.getElem?_replicate, if_pos hi, if_pos (by omega)]) (wpAny_of_held n _ a _ (h hS))
end
end
end Go.Proofs.YtnjnooeldkideaaDoor
