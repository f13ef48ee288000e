/- RingWalks: the walk of the law. -/
import Derived.Test.YtlhplndngfffoaaAll
import Derived.Test.YtlhplndngfffoaaArgs
import Derived.Test.YtlhplndngfffoaaSlices
import Derived.Test.YtlhplndngfffoaaQtail
namespace Go.Proofs.Ytlhplndngfffoaa
set_option linter.unusedVariables false
set_option linter.unusedSimpArgs false
open Go.RowKit Go.Shelf
attribute [local go_sem] Oper.semAt_some

theorem tail_quiet_len' {ρ : Ring} {σ : Ref} {r g n : Nat} (h : Both ρ σ r g n) {W w : World} {I : Nat → Option Obj} {F : List (Nat × Obj)} (hs : St W w I (ρ.L 89 9 ++ F)) (m : Nat) : Calls Try.prog 31 #[.pointer (some ⟨r, 0, none⟩)] (w.drewN m) fun e w'' => e = .returned (.int .i64 (σ.xs.length : Int)) ∧ ∃ k, w'' = w.drewN k :=
  quiet_left (b_len h (hs.drew m))

section
variable {W w w' : World} {L : List (Nat × Obj)}
theorem St.grown {B : Nat} {row : Option Nat} (h : St W w (fun b => W.heap[b]?) L) (hB : W.heap.size ≤ B) (hL : ∀ p ∈ L, p.1 < B) (hg : w.grownBy w' row) (hr : ∀ r, row = some r → B ≤ r) : St W w' (fun b => W.heap[b]?) L :=
  ⟨hg.os.trans h.os, hg.tape.trans h.tape, hg.output.trans h.output, fun p hp => (hg.block p.1 (h.lt hp) (fun e => by have := hr _ e.symm; have := hL p hp; omega)).trans (h.own p hp), h.nodup,
   fun b o hb => (hg.block b (Array.getElem?_eq_some_iff.1 (h.imm b o hb)).1 (fun e => by have := hr _ e.symm; have := (Array.getElem?_eq_some_iff.1 hb).1; omega)).trans (h.imm b o hb), h.apart⟩
theorem ownFrom_St {β : Type} {B : Nat} (L : β → List (Nat × Obj)) (hB : W.heap.size ≤ B) (hL : ∀ s, ∀ p ∈ L s, p.1 < B) : OwnFrom B (fun s w => St W w (fun b => W.heap[b]?) (L s)) :=
  fun s X Y row hs hg hr => hs.grown hB (hL s) hg (fun r e => (hr r e).1)
theorem St.more {B D : Nat} {o : Obj} (h : St W w (fun b => W.heap[b]?) L) (hB : W.heap.size ≤ B) (hL : ∀ p ∈ L, p.1 < B) (hD : B ≤ D) (hd : w.heap[D]? = some o) : St W w (fun b => W.heap[b]?) ((D, o) :: L) :=
  ⟨h.os, h.tape, h.output, fun p hp => by
    rcases List.mem_cons.1 hp with rfl | hp
    · exact hd
    · exact h.own p hp, by
    simp only [List.map_cons, List.nodup_cons]
    refine ⟨fun hm => ?_, h.nodup⟩
    obtain ⟨p, hp, he⟩ := List.mem_map.1 hm
    have := hL p hp
    omega, h.imm, fun p hp => by
    rcases List.mem_cons.1 hp with rfl | hp
    · exact Array.getElem?_eq_none (by simp; omega)
    · exact h.apart p hp⟩
theorem St.ge (h : St W w (fun b => W.heap[b]?) L) : W.heap.size ≤ w.heap.size := (h.below (Le.refl _)).size
end

/-- ring.All. -/
theorem ring_all {W w : World} {I : Nat → Option Obj} {L : List (Nat × Obj)} (r : Nat) (h : St W w I L) : Calls Try.prog 39 #[.pointer (some ⟨r, 0, none⟩)] w fun e w' =>
    ∃ b, e = .returned (.func (.func 51) #[] #[.pointer (some ⟨b, 0, none⟩)]) ∧ b = w.heap.size ∧ w'.heap.size = w.heap.size + 1 ∧ St W w' I ((b, .cells #[.pointer (some ⟨r, 0, none⟩)] 52 (0, 0)) :: L) := by
  go_enter Try.func39, Try.ntmps39
  go_wp2_with fail
  go_ret
  exact ⟨_, rfl, rfl, by simp, h.alloc _⟩

theorem Both.at_ {ρ : Ring} {σ : Ref} {r g n : Nat} {W w : World} {I : Nat → Option Obj} {F : List (Nat × Obj)} (h : Both ρ σ r g n) (hs : St W w I (σ.L ++ F)) (i : Nat) (hi : i < σ.xs.length) :
    ∃ g' off c, w.cell? ⟨g, 1, none⟩ = some (.slice (some ⟨g', off, none⟩) σ.xs.length c) ∧ w.cell? ⟨g', off + i, none⟩ = some (.string (σ.xs[i]?.getD ⟨#[]⟩)) := by
  obtain ⟨g', off, cap, cur, hv, hB, hcell⟩ := h.oks.row.cells (j := i) (u := .string (σ.xs[i]?.getD ⟨#[]⟩)) (by rw [strs, List.getElem?_map, List.getElem?_eq_getElem hi]; rfl)
  have h1 := Ref.c1 hs
  rw [h.g, hv] at h1
  refine ⟨g', off, cap, h1, ?_⟩
  rw [hs.cell (g := g') (cs := cur) (t := 9) (fr := (0, 0)) (by simp [Ref.L, hB]) (off + i)]
  simpa using hcell

def fAt (xs : List ByteArray) (j : Nat) : Nat × ByteArray := (j, xs[j]?.getD ⟨#[]⟩)

theorem all_stops (n : Nat) (hn : 1 ≤ n) (Bs : Nat) (ρ : Ring) (ok : ρ.Ok) (xs : List ByteArray) (hxs : ρ.xs = strs xs) (w : World) (h1 : ρ.r < w.heap.size) (h2 : ρ.ab < w.heap.size) (h3 : Bs < w.heap.size) (hR : RingAt ρ Bs w) :
    SeqStopsK Fence.wide n Try.prog 51 #[.pointer (some ⟨Bs, 0, none⟩)] (fun x : Nat × ByteArray => #[Value.int .i64 (x.1 : Int), Value.string x.2]) (Kr ρ.r ρ.ab Bs) (fun ys => ys = upto (fAt xs) xs.length) (fun pre => ∃ k, k ≤ xs.length ∧ pre = upto (fAt xs) k) xs.length w := fun l J Jx W hW hJ _ hY h0 => by
  refine all1_in n hn l Bs ρ ok xs hxs J Jx (fun pre W1 m hj => hJ pre W1 _ none hj ⟨rfl, rfl, rfl, Nat.le_refl _, fun _ _ _ => rfl⟩ (fun r e => by cases e)) hY W ?_ h0
  exact ⟨(hW.block _ h1).trans hR.r, (hW.block _ h2).trans hR.ab, (hW.block _ h3).trans hR.box⟩

/-- A return, no mark being left. -/
theorem leave0 {fn : Func} {R : Ending → World → Prop} {tmps : Array Value} {w : World} {v : Value} (hr : (results fn tmps).run Try.prog w = .ok v w) (h : R (.returned v) w) : bodyPostM Fence.wide 3 Try.prog fn R .ret { tmps, defers := [] } w := by
  show LeavesInM Fence.wide 3 Try.prog fn tmps R [] .returning w
  exact ⟨v, hr, h⟩

theorem St.putObj {W w : World} {I : Nat → Option Obj} {D : Nat} {o o' : Obj} {L : List (Nat × Obj)} (h : St W w I ((D, o) :: L)) : St W (w.putObj D o') I ((D, o') :: L) := by
  have hn := h.nodup
  simp only [List.map_cons, List.nodup_cons] at hn
  refine ⟨h.os, h.tape, h.output, fun p hp => ?_, h.nodup, fun b o hb => ?_, fun p hp => ?_⟩
  · rcases List.mem_cons.1 hp with rfl | hp
    · exact World.putObj_heap_same (h.lt (p := (D, o)) (by simp))
    · rw [World.putObj_heap_other (fun e => hn.1 (by rw [← e]; exact List.mem_map_of_mem (f := (·.1)) hp))]
      exact h.own p (by simp [hp])
  · rw [World.putObj_heap_other (fun e => ?_)]
    · exact h.imm b o hb
    · have := h.apart (D, _) (List.mem_cons_self ..)
      simp only at this
      rw [e, this] at hb
      cases hb
  · rcases List.mem_cons.1 hp with rfl | hp
    · exact h.apart (D, o) (by simp)
    · exact h.apart p (by simp [hp])

/-- A return, two marks being left. -/
theorem leave2 {fn : Func} {R : Ending → World → Prop} {tmps : Array Value} {W w : World} {v : Value} {D1 D2 : Nat} {L : List (Nat × Obj)} (h : St W w (fun b => W.heap[b]?) ((D2, .deferred (some [])) :: (D1, .deferred (some [])) :: L))
    (hr : ∀ w', St W w' (fun b => W.heap[b]?) ((D1, .deferred none) :: (D2, .deferred none) :: L) → (results fn tmps).run Try.prog w' = .ok v w') (hR : ∀ w', Below W.heap.size W w' → R (.returned v) w') :
    bodyPostM Fence.wide 3 Try.prog fn R .ret { tmps, defers := [{ target := .collected D2, args := #[] }, { target := .collected D1, args := #[] }] } w := by
  have h1 : w.heap[D2]? = some (.deferred (some [])) := h.own (D2, _) (by simp)
  have h2 := (h.putObj (o' := .deferred none)).perm (List.Perm.swap _ _ _)
  have h3 : (w.putObj D2 (.deferred none)).heap[D1]? = some (.deferred (some [])) := h2.own (D1, _) (by simp)
  have h4 := h2.putObj (o' := .deferred none)
  exact ⟨by simp, .inl ⟨_, _, rfl, run_takeDeferred h1, ⟨by simp, .inl ⟨_, _, rfl, run_takeDeferred h3, ⟨v, hr _ h4, hR _ (h4.below (Le.refl _))⟩⟩⟩⟩⟩

set_option maxRecDepth 100000 in
set_option maxHeartbeats 4000000 in
theorem walk_ringWalks (W : World) {H : Type} {enc : TypeId × Value → H} {v0 v1 v2 : Value} (a0 : Arg enc Try.prog W 3 v0) (a1 : Arg enc Try.prog W 59 v1) (a2 : Arg enc Try.prog W 3 v2) :
    Calls Try.prog 7 #[v0, v1, v2] W fun e w' => e = .returned (.bool true) ∧ Below W.heap.size W w' := by
  obtain ⟨room, rfl, _⟩ := a0.int Try.underlying3
  obtain ⟨z, rfl, hz⟩ := a2.int Try.underlying3
  obtain ⟨A, len, cap, acts, rfl, hsl⟩ := a1.slice (α := Int × ByteArray) (Q := fun cs p => cs = [.int .i64 p.1, .string p.2] ∧ p.2.size ≤ maxLen) (size := 2) Try.underlying59 (by kernel_rfl) (by omega) (fun cs h => by
    obtain ⟨hl, hf⟩ := h.ones Try.underlying63 (by kernel_rfl) (by kernel_rfl)
    obtain ⟨c0, e0, h0⟩ := hf 0 _ rfl
    obtain ⟨c1, e1, h1⟩ := hf 1 _ rfl
    obtain ⟨k, hk, _⟩ := Cel.int (t := 3) Try.underlying3 h0
    obtain ⟨s, hs, hm⟩ := Cel.string (t := 9) Try.underlying9 h1
    have hl' : cs.length = 2 := hl
    match cs, hl' with
    | [x0, x1], _ =>
      simp at e0 e1 hk hs
      exact ⟨(k, s), by rw [e0, e1, hk, hs], hm⟩)
  have hlen := hsl.len
  have hcap := hsl.cap
  have hcap' := hsl.cap'
  unfold maxLen at hcap'
  have hat : ∀ k, k < len → ∃ b off kind s, A = some ⟨b, off, none⟩ ∧ s.size ≤ maxLen ∧ W.cell? ⟨b, off + k * 2, none⟩ = some (.int .i64 kind) ∧ W.cell? ⟨b, off + k * 2 + 1, none⟩ = some (.string s) := by
    intro k hk
    obtain ⟨b, off, cs, h1, h2, h3, h4, h5⟩ := hsl.at_ k (acts[k]'(by omega)) (List.getElem?_eq_getElem _)
    subst h4
    exact ⟨b, off, _, _, h1, h5, by have := h3 0 (by omega); rw [roCell_start] at this; simpa using this, by have := h3 1 (by omega); rw [roCell_start] at this; simpa using this⟩
  clear hsl hlen
  have Hat := Lib.hid hat; clear hat
  obtain ⟨b5, hb5⟩ : ∃ b, b = W.heap.size := ⟨_, rfl⟩
  have hst0 := ((St.start W).alloc (.cells #[.int .i64 z] 3)).alloc (.cells #[.bool false] 4)
  have hz2 : (W.alloc (.cells #[.int .i64 z] 3)).heap.size = W.heap.size + 1 := by simp
  rw [hz2, ← hb5] at hst0
  clear hz2
  refine (callsIn_wide (n := 3)).1 ?_
  refine callsIn_of_wp_marks Try.func7 rfl trivial ?_ rfl
  simp only [Try.ntmps7, List.size_toArray, List.length_cons, List.length_nil, Nat.reduceAdd, Nat.reduceSub, Array.replicate_succ, Array.replicate_zero, List.push_toArray, List.append_toArray, List.nil_append, List.cons_append]
  rw [wpIn_wide]
  go_wp2_with fail
  refine (alive hst0).mono ?_
  rintro e w1 ⟨rfl, hst1⟩
  rw [← hb5]
  have HB5 := Lib.hid hb5
  clear hb5
  have c6 : ∀ w2 F, St W w2 (fun b => W.heap[b]?) ([(b5 + 1, Obj.cells #[.bool false] 4 (0, 0)), (b5, .cells #[.int .i64 z] 3 (0, 0))] ++ F) → w2.cell? ⟨b5 + 1, 0, none⟩ = some (.bool false) ∧ w2.frozen? ⟨b5 + 1, 0, none⟩ = false := fun w2 F h => ⟨h.cell (g := b5 + 1) (cs := #[.bool false]) (t := 4) (fr := (0, 0)) (by simp) 0, h.frozen (cs := #[.bool false]) (t := 4) (by simp) 0⟩
  obtain ⟨d6, f6⟩ := c6 w1 [] (by simpa using hst1)
  clear c6
  by_cases h200 : (60 : Int) < len
  · have hst2 := St.set (A := []) hst1 0 (.bool true)
    have hc' : (w1.setCell ⟨b5 + 1, 0, none⟩ (.bool true)).cell? ⟨b5 + 1, 0, none⟩ = some (.bool true) := hst2.cell (g := b5 + 1) (cs := #[.bool true]) (t := 4) (fr := (0, 0)) (by simp) 0
    have hb' := hst2.below (Le.refl _)
    go_wp2_with fail
    exact leave0 (v := .bool true) (by simp [results, Try.f7, go_sem, hc']) ⟨rfl, hb'⟩
  have hst1 : St W w1 (fun b => W.heap[b]?) [(b5 + 1, Obj.cells #[.bool false] 4 (0, 0)), (b5, .cells #[.int .i64 z] 3 (0, 0))] := hst1
  clear d6 f6 hst0 a0 a1 a2
  go_wp2_with fail
  refine (new_str' room hst1).mono ?_
  rintro e w2 ⟨ρ0, hnew, rfl, hst2⟩
  go_wp2_with fail
  refine (ref_new room hst2).mono ?_
  rintro e w3 ⟨σ0, oks, hms, hxs, hcs, rfl, hst3⟩
  have both0 : Both ρ0 σ0 ρ0.r σ0.g (roomOf room) := ⟨hnew.ok, oks, rfl, rfl, hnew.n, hms, by rw [hnew.closed, hcs], by rw [hnew.xs, hxs]; rfl⟩
  clear hnew oks hms hxs hcs hst2 hst1
  have hst4 : St W w3 (fun b => W.heap[b]?) (ρ0.L 89 9 ++ (σ0.L ++ [(b5 + 1, Obj.cells #[.bool false] 4 (0, 0)), (b5, .cells #[.int .i64 z] 3 (0, 0))])) := St.swap hst3
  clear hst3
  generalize roomOf room = nn at *
  generalize ρ0.r = r at *
  generalize σ0.g = g at *
  obtain ⟨b8, hb8⟩ : ∃ b, b = w3.heap.size := ⟨_, rfl⟩
  have hst5 := hst4.alloc (.cells #[.pointer (some ⟨g, 0, none⟩)] 60)
  rw [← hb8] at hst5
  have hst6 : St W (w3.alloc (.cells #[.pointer (some ⟨g, 0, none⟩)] 60)) (fun b => W.heap[b]?) (ρ0.L 89 9 ++ (σ0.L ++ [(b8, Obj.cells #[.pointer (some ⟨g, 0, none⟩)] 60 (0, 0)), (b5 + 1, Obj.cells #[.bool false] 4 (0, 0)), (b5, .cells #[.int .i64 z] 3 (0, 0))])) := by
    refine hst5.perm ?_
    rw [← List.append_assoc, ← List.append_assoc]
    exact List.perm_middle.symm
  clear hst4 hst5
  go_wp2_with fail
  rw [← hb8]
  have HB8 := Lib.hid hb8
  clear hb8
  go_loopw [27] (fun i wr => ∃ (k : Nat) (ρ : Ring) (σ : Ref), k ≤ len ∧ i = .int .i64 k ∧ Both ρ σ r g nn ∧ St W wr (fun b => W.heap[b]?) (ρ.L 89 9 ++ (σ.L ++ [(b8, Obj.cells #[.pointer (some ⟨g, 0, none⟩)] 60 (0, 0)), (b5 + 1, Obj.cells #[.bool false] 4 (0, 0)), (b5, .cells #[.int .i64 z] 3 (0, 0))])))
    (fun i _ => len - (intOf i).toNat)
  case atStart => exact ⟨0, ρ0, σ0, by omega, rfl, both0, hst6⟩
  case round =>
    obtain ⟨k, ρ, σ, hk, rfl, both, hst⟩ := hrel
    clear both0 hst6
    by_cases hlt : k < len
    · obtain ⟨b, off, kind, s, rfl, hs, hc0, hc1⟩ := Hat.out k hlt
      unfold maxLen at hs
      have hcw0 := hst.ro (by rw [roCell_start]; exact hc0)
      have hcw1 := hst.ro (by rw [roCell_start]; exact hc1)
      clear hc0 hc1
      have hstA := hst.alloc (.cells #[.int .i64 kind, .string s] 63)
      have c8 : ∀ w2 F, St W w2 (fun b => W.heap[b]?) (F ++ [(b8, Obj.cells #[.pointer (some ⟨g, 0, none⟩)] 60 (0, 0)), (b5 + 1, Obj.cells #[.bool false] 4 (0, 0)), (b5, .cells #[.int .i64 z] 3 (0, 0))]) → w2.cell? ⟨b8, 0, none⟩ = some (.pointer (some ⟨g, 0, none⟩)) ∧ w2.cell? ⟨b5 + 1, 0, none⟩ = some (.bool false) ∧ w2.frozen? ⟨b5 + 1, 0, none⟩ = false := fun w2 F h =>
        ⟨h.cell (g := b8) (cs := #[.pointer (some ⟨g, 0, none⟩)]) (t := 60) (fr := (0, 0)) (by simp) 0, h.cell (g := b5 + 1) (cs := #[.bool false]) (t := 4) (fr := (0, 0)) (by simp) 0, h.frozen (cs := #[.bool false]) (t := 4) (by simp) 0⟩
      by_cases h50 : (50 : Int) < s.size
      · obtain ⟨d8, d6, f6⟩ := c8 wr (ρ.L 89 9 ++ σ.L) (by simpa using hst)
        have hstB : St W _ _ (((wr.heap.size, Obj.cells #[.int .i64 kind, .string s] 63 (0, 0)) :: (ρ.L 89 9 ++ (σ.L ++ [(b8, Obj.cells #[.pointer (some ⟨g, 0, none⟩)] 60 (0, 0))]))) ++ (b5 + 1, Obj.cells #[.bool false] 4 (0, 0)) :: [(b5, .cells #[.int .i64 z] 3 (0, 0))]) := hstA.perm (by simp)
        have hst2 := St.set hstB 0 (.bool true)
        obtain ⟨d61, f61⟩ : (wr.alloc (.cells #[.int .i64 kind, .string s] 63)).cell? ⟨b5 + 1, 0, none⟩ = some (.bool false) ∧ (wr.alloc (.cells #[.int .i64 kind, .string s] 63)).frozen? ⟨b5 + 1, 0, none⟩ = false := ⟨hstB.cell (g := b5 + 1) (cs := #[.bool false]) (t := 4) (fr := (0, 0)) (by simp) 0, hstB.frozen (cs := #[.bool false]) (t := 4) (by simp) 0⟩
        have hc' : ((wr.alloc (.cells #[.int .i64 kind, .string s] 63)).setCell ⟨b5 + 1, 0, none⟩ (.bool true)).cell? ⟨b5 + 1, 0, none⟩ = some (.bool true) := hst2.cell (g := b5 + 1) (cs := #[.bool true]) (t := 4) (fr := (0, 0)) (by simp) 0
        have hb' := hst2.below (Le.refl _)
        go_wp2_with fail
        exact leave0 (v := .bool true) (by simp [results, Try.f7, go_sem, hc']) ⟨rfl, hb'⟩
      have hstB : St W (wr.alloc (.cells #[.int .i64 kind, .string s] 63)) (fun b => W.heap[b]?) (ρ.L 89 9 ++ ([(wr.heap.size, .cells #[.int .i64 kind, .string s] 63)] ++ (σ.L ++ [(b8, Obj.cells #[.pointer (some ⟨g, 0, none⟩)] 60 (0, 0)), (b5 + 1, Obj.cells #[.bool false] 4 (0, 0)), (b5, .cells #[.int .i64 z] 3 (0, 0))]))) := St.swap (A := [(wr.heap.size, _)]) hstA
      clear hstA
      by_cases k1 : kind = 1
      · subst k1
        go_wp2_with fail
        refine (b_recv both hstB).mono ?_
        rintro e w4 ⟨rfl, hst4⟩
        obtain ⟨d8, d6, f6⟩ := c8 w4 ((ρ.recv (.string ⟨#[]⟩)).L 89 9 ++ ([(wr.heap.size, .cells #[.int .i64 1, .string s] 63)] ++ σ.L)) (by simpa using hst4)
        have hst5 := St.swap (A := Ring.L 89 9 _ ++ [(wr.heap.size, _)]) (B := σ.L) (F := [(b8, Obj.cells #[.pointer (some ⟨g, 0, none⟩)] 60 (0, 0)), (b5 + 1, Obj.cells #[.bool false] 4 (0, 0)), (b5, .cells #[.int .i64 z] 3 (0, 0))]) (by simpa using hst4)
        go_wp2_with fail
        refine (b_ref_recv both hst5).mono ?_
        rintro e w5 ⟨rfl, σ', both', hst6⟩
        have s6 := St.mid (A := σ'.L ++ (ρ.recv (.string ⟨#[]⟩)).L 89 9) (B := [(wr.heap.size, _)]) (F := [(b8, Obj.cells #[.pointer (some ⟨g, 0, none⟩)] 60 (0, 0)), (b5 + 1, Obj.cells #[.bool false] 4 (0, 0)), (b5, .cells #[.int .i64 z] 3 (0, 0))]) (by simpa using hst6)
        have hend := St.swap (A := σ'.L) (B := (ρ.recv (.string ⟨#[]⟩)).L 89 9) (by simpa using s6)
        clear hst6 s6 hst5 hst4
        go_wp2_with fail
        go_roundw
        case rel => exact ⟨k + 1, _, _, by omega, by go_num, both', hend⟩
        case measure => simp [intOf]; omega
      · obtain ⟨d8, d6, f6⟩ := c8 (wr.alloc (.cells #[.int .i64 kind, .string s] 63)) (ρ.L 89 9 ++ ([(wr.heap.size, .cells #[.int .i64 kind, .string s] 63)] ++ σ.L)) (by simpa using hstB)
        go_wp2_with fail
        refine (b_send both s hstB).mono ?_
        rintro e w4 ⟨rfl, hst4⟩
        obtain ⟨d8, d6, f6⟩ := c8 w4 ((ρ.put (.string s)).L 89 9 ++ ([(wr.heap.size, .cells #[.int .i64 kind, .string s] 63)] ++ σ.L)) (by simpa using hst4)
        have d2 : w4.cell? ⟨wr.heap.size, 1, none⟩ = some (.string s) := hst4.cell (g := wr.heap.size) (cs := #[.int .i64 kind, .string s]) (t := 63) (fr := (0, 0)) (by simp) 1
        have hst5 := St.swap (A := Ring.L 89 9 _ ++ [(wr.heap.size, _)]) (B := σ.L) (F := [(b8, Obj.cells #[.pointer (some ⟨g, 0, none⟩)] 60 (0, 0)), (b5 + 1, Obj.cells #[.bool false] 4 (0, 0)), (b5, .cells #[.int .i64 z] 3 (0, 0))]) (by simpa using hst4)
        go_wp2_with fail
        refine (b_ref_send both s hst5).mono ?_
        rintro e w5 ⟨rfl, σ', both', hst6⟩
        have s6 := St.mid (A := σ'.L ++ (ρ.put (.string s)).L 89 9) (B := [(wr.heap.size, _)]) (F := [(b8, Obj.cells #[.pointer (some ⟨g, 0, none⟩)] 60 (0, 0)), (b5 + 1, Obj.cells #[.bool false] 4 (0, 0)), (b5, .cells #[.int .i64 z] 3 (0, 0))]) (by simpa using hst6)
        have hend := St.swap (A := σ'.L) (B := (ρ.put (.string s)).L 89 9) (by simpa using s6)
        clear hst6 s6 hst5 hst4
        go_wp2_with fail
        go_roundw
        case rel => exact ⟨k + 1, _, _, by omega, by go_num, both', hend⟩
        case measure => simp [intOf]; omega
    obtain rfl : k = len := by omega
    clear Hat hlt hk hcap hcap'
    obtain ⟨b11, hb11⟩ : ∃ b, b = wr.heap.size := ⟨_, rfl⟩
    have hst7 := hst.alloc (.cells #[.int .i64 0] 3)
    rw [← hb11] at hst7
    clear hst
    go_wp2_with fail
    refine (ring_all r hst7).mono ?_
    rintro e w4 ⟨b12, rfl, hb12, hsz, hst8⟩
    rw [← hb11]
    have hst9 := hst8.perm (List.Perm.swap _ _ _)
    have hRA : RingAt ρ b12 w4 := ⟨hst8.own (ρ.r, _) (by simp [Ring.L]), hst8.own (ρ.ab, _) (by simp [Ring.L]), hst8.own (b12, _) (by simp [both.r])⟩
    clear hst8 hst7 hb12 hsz hb11
    obtain ⟨T0, hT0⟩ : ∃ T0, T0 = (b12, Obj.cells #[.pointer (some ⟨r, 0, none⟩)] 52 (0, 0)) :: (ρ.L 89 9 ++ (σ.L ++ [(b8, Obj.cells #[.pointer (some ⟨g, 0, none⟩)] 60 (0, 0)), (b5 + 1, Obj.cells #[.bool false] 4 (0, 0)), (b5, .cells #[.int .i64 z] 3 (0, 0))])) := ⟨_, rfl⟩
    rw [← hT0] at hst9
    have hge := hst9.ge
    have hLt : ∀ (v : Value) (p : Nat × Obj), p ∈ (b11, Obj.cells #[v] 3 (0, 0)) :: T0 → p.1 < w4.heap.size := fun v p hp => by
      rcases List.mem_cons.1 hp with rfl | hp
      · exact hst9.lt (p := (b11, Obj.cells #[.int .i64 0] 3 (0, 0))) (by simp)
      · exact hst9.lt (List.mem_cons_of_mem _ hp)
    have hrr : ρ.r < w4.heap.size := (Array.getElem?_eq_some_iff.1 hRA.r).1
    have hra : ρ.ab < w4.heap.size := (Array.getElem?_eq_some_iff.1 hRA.ab).1
    have hrb : b12 < w4.heap.size := (Array.getElem?_eq_some_iff.1 hRA.box).1
    have facts : ∀ (W1 : World) (v : Value), St W W1 (fun b => W.heap[b]?) ((b11, Obj.cells #[v] 3 (0, 0)) :: T0) →
        W1.cell? ⟨b11, 0, none⟩ = some v ∧ W1.frozen? ⟨b11, 0, none⟩ = false ∧ W1.cell? ⟨b8, 0, none⟩ = some (.pointer (some ⟨g, 0, none⟩)) ∧ W1.cell? ⟨b5, 0, none⟩ = some (.int .i64 z) ∧ W1.cell? ⟨b5 + 1, 0, none⟩ = some (.bool false) ∧ W1.frozen? ⟨b5 + 1, 0, none⟩ = false ∧
        (∀ i, i < σ.xs.length → ∃ g' off c, W1.cell? ⟨g, 1, none⟩ = some (.slice (some ⟨g', off, none⟩) σ.xs.length c) ∧ W1.cell? ⟨g', off + i, none⟩ = some (.string (σ.xs[i]?.getD ⟨#[]⟩))) ∧ ∃ A c, W1.cell? ⟨g, 1, none⟩ = some (.slice A σ.xs.length c) := fun W1 v h => by
      subst hT0
      have hS : St W W1 (fun b => W.heap[b]?) (σ.L ++ (((b11, Obj.cells #[v] 3 (0, 0)) :: (b12, Obj.cells #[.pointer (some ⟨r, 0, none⟩)] 52 (0, 0)) :: ρ.L 89 9) ++ [(b8, Obj.cells #[.pointer (some ⟨g, 0, none⟩)] 60 (0, 0)), (b5 + 1, Obj.cells #[.bool false] 4 (0, 0)), (b5, .cells #[.int .i64 z] 3 (0, 0))])) := St.swap (A := (b11, Obj.cells #[v] 3 (0, 0)) :: (b12, Obj.cells #[.pointer (some ⟨r, 0, none⟩)] 52 (0, 0)) :: ρ.L 89 9) (B := σ.L) h
      obtain ⟨A9, c9, q1, q2⟩ := both.cells hS
      exact ⟨h.cell (g := b11) (cs := #[v]) (t := 3) (fr := (0, 0)) (by simp) 0, h.frozen (g := b11) (cs := #[v]) (t := 3) (by simp) 0, h.cell (g := b8) (cs := #[.pointer (some ⟨g, 0, none⟩)]) (t := 60) (fr := (0, 0)) (by simp) 0, h.cell (g := b5) (cs := #[.int .i64 z]) (t := 3) (fr := (0, 0)) (by simp) 0, h.cell (g := b5 + 1) (cs := #[.bool false]) (t := 4) (fr := (0, 0)) (by simp) 0, h.frozen (g := b5 + 1) (cs := #[.bool false]) (t := 4) (by simp) 0, fun i hi => both.at_ hS i hi, A9, c9, q1⟩
    have x16 : σ.xs.length ≤ 16 := Nat.le_trans both.oks.many both.oks.m16
    have hne : b11 ≠ ρ.r ∧ b11 ≠ ρ.ab ∧ b11 ≠ b12 := by
      subst hT0
      have hn := hst9.nodup
      simp only [Ring.L, List.map_cons, List.map_append, List.cons_append, List.nodup_cons, List.mem_cons, List.mem_append, not_or] at hn
      obtain ⟨⟨n1, n2, n3, _⟩, _⟩ := hn
      exact ⟨n2, n3, n1⟩
    have HST := Lib.hid hst9; have HRA := Lib.hid hRA; have FACTS := Lib.hid facts
    clear hst9 hRA facts
    go_wp2_with fail
    refine (wpIn_wide (n := 3)).1 ?_
    refine' wpIn_rangeFunc_ownF (n := 3) rfl (by omega) (gf := 51) (lb := #[.pointer (some ⟨b12, 0, none⟩)]) rfl trivial (enters_of Try.func51 (by kernel_rfl) rfl)
      (all_stops 2 (by omega) b12 ρ both.ok σ.xs both.xs w4 hrr hra hrb HRA.out) Kr_t (Kr_b hrr hra hrb) (Below.refl _ _) (fun _ => rfl)
      (fun pre W1 => (pre = upto (fAt σ.xs) pre.length ∧ (∀ j, j < pre.length → (j : Int) ≠ z)) ∧ St W W1 (fun b => W.heap[b]?) ((b11, Obj.cells #[.int .i64 pre.length] 3 (0, 0)) :: T0))
      (fun c pre W1 => ((c = .ret ∧ pre ≠ upto (fAt σ.xs) pre.length) ∨ (c = .exit 2 ∧ (pre.length : Int) = z + 1 ∧ 0 ≤ z)) ∧ (c = .exit 2 → St W W1 (fun b => W.heap[b]?) ((b11, Obj.cells #[.int .i64 pre.length] 3 (0, 0)) :: T0)))
      (OwnFrom.and (fun s A B row hs hg hr => hs) (ownFrom_St _ hge (fun s p hp => hLt _ p hp)))
      (fun c => OwnFrom.and (fun s A B row hs hg hr => hs) (fun s A B row hs hg hr e => ownFrom_St (fun pre : List (Nat × ByteArray) => (b11, Obj.cells #[.int .i64 pre.length] 3 (0, 0)) :: T0) hge (fun s p hp => hLt _ p hp) s A B row (hs e) hg hr))
      ⟨⟨rfl, fun j hj => absurd hj (Nat.not_lt_zero j)⟩, HST.out⟩ _ ?assign ?body ?done ?stop
    case assign =>
      intro l x W K hK
      gi_wp2
      exact hK
    case body =>
      rintro l pre x W1 ⟨⟨hp, hz1⟩, hS⟩ hlen
      obtain ⟨e1, e2, e3, e4, e5, e6, e7, _⟩ := FACTS.out W1 _ hS
      obtain ⟨g', off, c, e8, e9⟩ := e7 pre.length hlen
      clear e7
      obtain ⟨i, s⟩ := x
      obtain ⟨n0, hn0⟩ : ∃ n0, n0 = pre.length := ⟨_, rfl⟩
      rw [← hn0] at hp hz1 hS hlen e1 e9
      obtain ⟨sx, hsx⟩ : ∃ sx, sx = σ.xs[n0]?.getD ⟨#[]⟩ := ⟨_, rfl⟩
      rw [← hsx] at e9
      have hfa : fAt σ.xs n0 = (n0, sx) := by rw [hsx]; rfl
      have hS2 : ∀ v, St W (W1.setCell ⟨b11, 0, none⟩ v) (fun b => W.heap[b]?) ((b11, Obj.cells #[v] 3 (0, 0)) :: T0) := fun v => St.set (A := []) hS 0 v
      have e10 : ∀ v, (W1.setCell ⟨b11, 0, none⟩ v).cell? ⟨b5, 0, none⟩ = some (.int .i64 z) := fun v => (FACTS.out _ _ (hS2 v)).2.2.2.1
      have HS := Lib.hid hS; have HS2 := Lib.hid hS2; have HN := Lib.hid hn0; have HFA := Lib.hid hfa; have HP := Lib.hid hp
      clear hS hS2 hn0 hsx hp hfa
      by_cases h1 : i = n0
      · subst h1
        by_cases h2 : s = sx
        · subst h2
          gi_wp2
          · have h3 : (i : Int) = z := by
              rename_i hx
              simpa using hx
            have hl1 : (pre ++ [(i, s)]).length = i + 1 := by rw [List.length_append, ← HN.out]; rfl
            refine ⟨KeepsOthers.setCell _ _ _, .inr ⟨rfl, by rw [hl1]; omega, by omega⟩, fun _ => ?_⟩
            rw [hl1]
            exact HS2.out _
          · have h3 : ¬ (i : Int) = z := by
              rename_i hx
              simpa using hx
            have hl1 : (pre ++ [(i, s)]).length = i + 1 := by rw [List.length_append, ← HN.out]; rfl
            refine ⟨KeepsOthers.setCell _ _ _, fun b hb => Below.heap_setCell _ _ _ _ (fun e => by
              have e : b = b11 := e
              subst e
              rcases hb with h | h | h
              · exact hne.1 h
              · exact hne.2.1 h
              · exact hne.2.2 h), ⟨?_, fun j hj => ?_⟩, ?_⟩
            · rw [hl1, upto_succ, HFA.out, ← HP.out]
            · rw [hl1] at hj
              rcases Nat.lt_or_ge j i with h | h
              · exact hz1 j h
              · have : j = i := by omega
                rw [this]; exact h3
            · rw [hl1]
              exact HS2.out _
        · have hbq : (s.toList == sx.toList) = false := beq_eq_false_iff_ne.2 (fun e => h2 (ByteArray.ext (Array.toList_inj.1 (by rw [← ByteArray.toList_eq, ← ByteArray.toList_eq]; exact e))))
          gi_wp2
          refine ⟨KeepsOthers.setCell _ _ _, .inl ⟨rfl, fun he => h2 ?_⟩, fun h => by cases h⟩
          have hl1 : (pre ++ [(i, s)]).length = i + 1 := by rw [List.length_append, ← HN.out]; rfl
          rw [hl1, upto_succ, HFA.out] at he
          have := (List.append_inj' he rfl).2
          simp at this
          exact this
      · gi_wp2
        refine ⟨KeepsOthers.setCell _ _ _, .inl ⟨rfl, fun he => h1 ?_⟩, fun h => by cases h⟩
        have hl1 : (pre ++ [(i, s)]).length = n0 + 1 := by rw [List.length_append, ← HN.out]; rfl
        rw [hl1, upto_succ, HFA.out] at he
        have := (List.append_inj' he rfl).2
        simp at this
        exact this.1
    case done =>
      rintro D ys W1 hD hys ⟨⟨hp, hz1⟩, hS⟩ hK
      obtain ⟨seen, hseen⟩ : ∃ n, n = ys.length := ⟨_, rfl⟩
      have hsx : seen = σ.xs.length := by rw [hseen, hys, upto_length]
      rw [← hseen] at hz1 hS
      clear hp hseen hys
      subst hsx
      have hS1 := hS.more hge (fun p hp => hLt _ p hp) hD hK
      by_cases hz0 : 0 ≤ z
      · have hzx : σ.xs.length ≤ z := by
          rcases Int.lt_or_le z σ.xs.length with h | h
          · exact absurd (by omega) (hz1 z.toNat (by omega))
          · exact h
        obtain ⟨e1, e2, e3, e4, e5, e6, _, A9, c9, e8⟩ := FACTS.out W1 _ hS
        obtain ⟨b15, hb15⟩ : ∃ b, b = W1.heap.size := ⟨_, rfl⟩
        have hS2 := hS1.alloc (.cells #[.int .i64 0] 3)
        rw [← hb15] at hS2
        clear hS1
        go_wp2_with fail
        refine (ring_all r hS2).mono ?_
        rintro e W2 ⟨b16, rfl, hb16, hsz2, hS3⟩
        rw [← hb15]
        clear hS2 hb16 hsz2 hb15
        have hS4 := hS3.perm (List.Perm.swap _ _ _)
        have hRA2 : RingAt ρ b16 W2 := ⟨hS3.own (ρ.r, _) (by rw [hT0]; simp [Ring.L]), hS3.own (ρ.ab, _) (by rw [hT0]; simp [Ring.L]), hS3.own (b16, _) (by simp [both.r])⟩
        clear hS3 e1 e2 e3 e4 e5 e6 e8
        obtain ⟨T1, hT1⟩ : ∃ T1, T1 = (b16, Obj.cells #[.pointer (some ⟨r, 0, none⟩)] 52 (0, 0)) :: (D, Obj.deferred (some [])) :: (b11, Obj.cells #[.int .i64 σ.xs.length] 3 (0, 0)) :: T0 := ⟨_, rfl⟩
        rw [← hT1] at hS4
        have hge2 := hS4.ge
        have hLt2 : ∀ (v : Value) (p : Nat × Obj), p ∈ (b15, Obj.cells #[v] 3 (0, 0)) :: T1 → p.1 < W2.heap.size := fun v p hp => by
          rcases List.mem_cons.1 hp with rfl | hp
          · exact hS4.lt (p := (b15, Obj.cells #[.int .i64 0] 3 (0, 0))) (by simp)
          · exact hS4.lt (List.mem_cons_of_mem _ hp)
        have hrr2 : ρ.r < W2.heap.size := (Array.getElem?_eq_some_iff.1 hRA2.r).1
        have hra2 : ρ.ab < W2.heap.size := (Array.getElem?_eq_some_iff.1 hRA2.ab).1
        have hrb2 : b16 < W2.heap.size := (Array.getElem?_eq_some_iff.1 hRA2.box).1
        have hne2 : b15 ≠ ρ.r ∧ b15 ≠ ρ.ab ∧ b15 ≠ b16 := by
          have hn := hS4.nodup
          rw [hT1, hT0] at hn
          simp only [Ring.L, List.map_cons, List.map_append, List.cons_append, List.nodup_cons, List.mem_cons, List.mem_append, not_or] at hn
          obtain ⟨⟨n1, _, _, _, n2, n3, _⟩, _⟩ := hn
          exact ⟨n2, n3, n1⟩
        have HST2 := Lib.hid hS4; have HRA2 := Lib.hid hRA2
        clear hS4 hRA2
        go_wp2_with fail
        refine (wpIn_wide (n := 3)).1 ?_
        refine' wpIn_rangeFunc_ownF (n := 3) rfl (by omega) (gf := 51) (lb := #[.pointer (some ⟨b16, 0, none⟩)]) rfl trivial (enters_of Try.func51 (by kernel_rfl) rfl)
          (all_stops 2 (by omega) b16 ρ both.ok σ.xs both.xs W2 hrr2 hra2 hrb2 HRA2.out) Kr_t (Kr_b hrr2 hra2 hrb2) (Below.refl _ _) (fun _ => rfl)
          (fun pre W1 => St W W1 (fun b => W.heap[b]?) ((b15, Obj.cells #[.int .i64 pre.length] 3 (0, 0)) :: T1))
          (fun _ _ _ => False)
          (ownFrom_St _ hge2 (fun s p hp => hLt2 _ p hp))
          (fun c s A B row hs hg hr => hs) HST2.out _ ?assign2 ?body2 ?done2 ?stop2
        case assign2 =>
          intro l x W K hK
          gi_wp2
          exact hK
        case body2 =>
          rintro l pre x W3 hS hlen
          obtain ⟨n0, hn0⟩ : ∃ n0, n0 = pre.length := ⟨_, rfl⟩
          rw [← hn0] at hS hlen
          have e1 : W3.cell? ⟨b15, 0, none⟩ = some (.int .i64 n0) := hS.cell (g := b15) (cs := #[.int .i64 n0]) (t := 3) (fr := (0, 0)) (by simp) 0
          have e2 : W3.frozen? ⟨b15, 0, none⟩ = false := hS.frozen (g := b15) (cs := #[.int .i64 n0]) (t := 3) (by simp) 0
          have hS2 : ∀ v, St W (W3.setCell ⟨b15, 0, none⟩ v) (fun b => W.heap[b]?) ((b15, Obj.cells #[v] 3 (0, 0)) :: T1) := fun v => St.set (A := []) hS 0 v
          have HS2 := Lib.hid hS2; have HN := Lib.hid hn0
          clear hS hS2 hn0
          gi_wp2
          have hl1 : (pre ++ [x]).length = n0 + 1 := by rw [List.length_append, ← HN.out]; rfl
          refine ⟨KeepsOthers.setCell _ _ _, fun b hb => Below.heap_setCell _ _ _ _ (fun e => by
            have e : b = b15 := e
            subst e
            rcases hb with h | h | h
            · exact hne2.1 h
            · exact hne2.2.1 h
            · exact hne2.2.2 h), ?_⟩
          show St _ _ _ _
          rw [hl1]
          exact HS2.out _
        case stop2 =>
          rintro D2 c2 pre W3 hD2 _ h9 hK2
          exact h9.elim
        case done2 =>
          rintro D2 ys2 W3 hD2 hys2 hS5 hK2
          have hl2 : ys2.length = σ.xs.length := by rw [hys2, upto_length]
          rw [hl2] at hS5
          clear hl2 hys2
          have hS6 := hS5.more hge2 (fun p hp => hLt2 _ p hp) hD2 hK2
          rw [hT1] at hS6
          obtain ⟨e1, e2, e3, e4, e5, e6, _, A9, c9, e8⟩ := FACTS.out W3 _ (St.weaken (A := [_, _, _, _]) hS6)
          have e15 : W3.cell? ⟨b15, 0, none⟩ = some (.int .i64 σ.xs.length) := hS6.cell (g := b15) (cs := #[.int .i64 σ.xs.length]) (t := 3) (fr := (0, 0)) (by simp) 0
          have HS6 := Lib.hid hS6
          clear hS6 hS5
          go_wp2_with fail
          refine wp_region_quiet_tail 22 (by kernel_rfl) (by kernel_rfl) ?_
          simp only [List.take_succ_cons, List.take_zero, List.drop_succ_cons, List.drop_zero]
          repeat (go_big_quiet_step ((go_at_call 31; exact tail_quiet_len' both (F := σ.L ++ [(b8, Obj.cells #[.pointer (some ⟨g, 0, none⟩)] 60 (0, 0)), (b5 + 1, Obj.cells #[.bool false] 4 (0, 0)), (b5, .cells #[.int .i64 z] 3 (0, 0))]) (St.weaken (A := [(D2, _), (b15, _), (b16, _), (D, _), (b11, _), (b12, _)]) (hT0 ▸ HS6.out)) _)))
          refine wpQuiet_nil ?_
          rintro _ ⟨nq, rfl⟩
          have hS7 := HS6.out.drew nq
          have hS8 : St W (W3.drewN nq) (fun b => W.heap[b]?) (((D2, Obj.deferred (some [])) :: (D, Obj.deferred (some [])) :: (b15, Obj.cells #[.int .i64 σ.xs.length] 3 (0, 0)) :: (b16, Obj.cells #[.pointer (some ⟨r, 0, none⟩)] 52 (0, 0)) :: (b11, Obj.cells #[.int .i64 σ.xs.length] 3 (0, 0)) :: (b12, Obj.cells #[.pointer (some ⟨r, 0, none⟩)] 52 (0, 0)) :: (ρ.L 89 9 ++ (σ.L ++ [(b8, Obj.cells #[.pointer (some ⟨g, 0, none⟩)] 60 (0, 0))]))) ++ (b5 + 1, Obj.cells #[.bool false] 4 (0, 0)) :: [(b5, .cells #[.int .i64 z] 3 (0, 0))]) := by
            rw [hT0] at hS7
            refine hS7.perm ?_
            simp only [List.cons_append, List.append_assoc, List.nil_append, List.singleton_append]
            refine List.Perm.cons _ ?_
            exact (List.Perm.cons _ (List.Perm.swap _ _ _)).trans (List.Perm.swap _ _ _)
          have hS9 := St.set hS8 0 (.bool true)
          have e5q : (W3.drewN nq).cell? ⟨b5 + 1, 0, none⟩ = some (.bool false) := e5
          have e6q : (W3.drewN nq).frozen? ⟨b5 + 1, 0, none⟩ = false := e6
          have HS9 := Lib.hid hS9
          clear hS9 hS8 hS7
          go_wp2_with fail
          refine leave2 HS9.out (v := .bool true) (fun w' h' => ?_) (fun w' h' => ⟨rfl, h'⟩)
          have hc' : w'.cell? ⟨b5 + 1, 0, none⟩ = some (.bool true) := h'.cell (g := b5 + 1) (cs := #[.bool true]) (t := 4) (fr := (0, 0)) (by simp) 0
          simp [results, Try.f7, go_sem, hc']
      · obtain ⟨e1, e2, e3, e4, e5, e6, _, A9, c9, e8⟩ := FACTS.out W1 _ hS
        obtain ⟨b15, hb15⟩ : ∃ b, b = W1.heap.size := ⟨_, rfl⟩
        have hS2 := hS1.alloc (.cells #[.int .i64 0] 3)
        rw [← hb15] at hS2
        clear hS1
        go_wp2_with fail
        refine (ring_all r hS2).mono ?_
        rintro e W2 ⟨b16, rfl, hb16, hsz2, hS3⟩
        rw [← hb15]
        clear hS2 hb16 hsz2 hb15
        have hS4 := hS3.perm (List.Perm.swap _ _ _)
        have hRA2 : RingAt ρ b16 W2 := ⟨hS3.own (ρ.r, _) (by rw [hT0]; simp [Ring.L]), hS3.own (ρ.ab, _) (by rw [hT0]; simp [Ring.L]), hS3.own (b16, _) (by simp [both.r])⟩
        clear hS3 e1 e2 e3 e4 e5 e6 e8
        obtain ⟨T1, hT1⟩ : ∃ T1, T1 = (b16, Obj.cells #[.pointer (some ⟨r, 0, none⟩)] 52 (0, 0)) :: (D, Obj.deferred (some [])) :: (b11, Obj.cells #[.int .i64 σ.xs.length] 3 (0, 0)) :: T0 := ⟨_, rfl⟩
        rw [← hT1] at hS4
        have hge2 := hS4.ge
        have hLt2 : ∀ (v : Value) (p : Nat × Obj), p ∈ (b15, Obj.cells #[v] 3 (0, 0)) :: T1 → p.1 < W2.heap.size := fun v p hp => by
          rcases List.mem_cons.1 hp with rfl | hp
          · exact hS4.lt (p := (b15, Obj.cells #[.int .i64 0] 3 (0, 0))) (by simp)
          · exact hS4.lt (List.mem_cons_of_mem _ hp)
        have hrr2 : ρ.r < W2.heap.size := (Array.getElem?_eq_some_iff.1 hRA2.r).1
        have hra2 : ρ.ab < W2.heap.size := (Array.getElem?_eq_some_iff.1 hRA2.ab).1
        have hrb2 : b16 < W2.heap.size := (Array.getElem?_eq_some_iff.1 hRA2.box).1
        have hne2 : b15 ≠ ρ.r ∧ b15 ≠ ρ.ab ∧ b15 ≠ b16 := by
          have hn := hS4.nodup
          rw [hT1, hT0] at hn
          simp only [Ring.L, List.map_cons, List.map_append, List.cons_append, List.nodup_cons, List.mem_cons, List.mem_append, not_or] at hn
          obtain ⟨⟨n1, _, _, _, n2, n3, _⟩, _⟩ := hn
          exact ⟨n2, n3, n1⟩
        have HST2 := Lib.hid hS4; have HRA2 := Lib.hid hRA2
        clear hS4 hRA2
        go_wp2_with fail
        refine (wpIn_wide (n := 3)).1 ?_
        refine' wpIn_rangeFunc_ownF (n := 3) rfl (by omega) (gf := 51) (lb := #[.pointer (some ⟨b16, 0, none⟩)]) rfl trivial (enters_of Try.func51 (by kernel_rfl) rfl)
          (all_stops 2 (by omega) b16 ρ both.ok σ.xs both.xs W2 hrr2 hra2 hrb2 HRA2.out) Kr_t (Kr_b hrr2 hra2 hrb2) (Below.refl _ _) (fun _ => rfl)
          (fun pre W1 => St W W1 (fun b => W.heap[b]?) ((b15, Obj.cells #[.int .i64 pre.length] 3 (0, 0)) :: T1))
          (fun _ _ _ => False)
          (ownFrom_St _ hge2 (fun s p hp => hLt2 _ p hp))
          (fun c s A B row hs hg hr => hs) HST2.out _ ?assign3 ?body3 ?done3 ?stop3
        case assign3 =>
          intro l x W K hK
          gi_wp2
          exact hK
        case body3 =>
          rintro l pre x W3 hS hlen
          obtain ⟨n0, hn0⟩ : ∃ n0, n0 = pre.length := ⟨_, rfl⟩
          rw [← hn0] at hS hlen
          have e1 : W3.cell? ⟨b15, 0, none⟩ = some (.int .i64 n0) := hS.cell (g := b15) (cs := #[.int .i64 n0]) (t := 3) (fr := (0, 0)) (by simp) 0
          have e2 : W3.frozen? ⟨b15, 0, none⟩ = false := hS.frozen (g := b15) (cs := #[.int .i64 n0]) (t := 3) (by simp) 0
          have hS2 : ∀ v, St W (W3.setCell ⟨b15, 0, none⟩ v) (fun b => W.heap[b]?) ((b15, Obj.cells #[v] 3 (0, 0)) :: T1) := fun v => St.set (A := []) hS 0 v
          have HS2 := Lib.hid hS2; have HN := Lib.hid hn0
          clear hS hS2 hn0
          gi_wp2
          have hl1 : (pre ++ [x]).length = n0 + 1 := by rw [List.length_append, ← HN.out]; rfl
          refine ⟨KeepsOthers.setCell _ _ _, fun b hb => Below.heap_setCell _ _ _ _ (fun e => by
            have e : b = b15 := e
            subst e
            rcases hb with h | h | h
            · exact hne2.1 h
            · exact hne2.2.1 h
            · exact hne2.2.2 h), ?_⟩
          show St _ _ _ _
          rw [hl1]
          exact HS2.out _
        case stop3 =>
          rintro D2 c2 pre W3 hD2 _ h9 hK2
          exact h9.elim
        case done3 =>
          rintro D2 ys2 W3 hD2 hys2 hS5 hK2
          have hl2 : ys2.length = σ.xs.length := by rw [hys2, upto_length]
          rw [hl2] at hS5
          clear hl2 hys2
          have hS6 := hS5.more hge2 (fun p hp => hLt2 _ p hp) hD2 hK2
          rw [hT1] at hS6
          obtain ⟨e1, e2, e3, e4, e5, e6, _, A9, c9, e8⟩ := FACTS.out W3 _ (St.weaken (A := [_, _, _, _]) hS6)
          have e15 : W3.cell? ⟨b15, 0, none⟩ = some (.int .i64 σ.xs.length) := hS6.cell (g := b15) (cs := #[.int .i64 σ.xs.length]) (t := 3) (fr := (0, 0)) (by simp) 0
          have HS6 := Lib.hid hS6
          clear hS6 hS5
          go_wp2_with fail
          refine wp_region_quiet_tail 22 (by kernel_rfl) (by kernel_rfl) ?_
          simp only [List.take_succ_cons, List.take_zero, List.drop_succ_cons, List.drop_zero]
          repeat (go_big_quiet_step ((go_at_call 31; exact tail_quiet_len' both (F := σ.L ++ [(b8, Obj.cells #[.pointer (some ⟨g, 0, none⟩)] 60 (0, 0)), (b5 + 1, Obj.cells #[.bool false] 4 (0, 0)), (b5, .cells #[.int .i64 z] 3 (0, 0))]) (St.weaken (A := [(D2, _), (b15, _), (b16, _), (D, _), (b11, _), (b12, _)]) (hT0 ▸ HS6.out)) _)))
          refine wpQuiet_nil ?_
          rintro _ ⟨nq, rfl⟩
          have hS7 := HS6.out.drew nq
          have hS8 : St W (W3.drewN nq) (fun b => W.heap[b]?) (((D2, Obj.deferred (some [])) :: (D, Obj.deferred (some [])) :: (b15, Obj.cells #[.int .i64 σ.xs.length] 3 (0, 0)) :: (b16, Obj.cells #[.pointer (some ⟨r, 0, none⟩)] 52 (0, 0)) :: (b11, Obj.cells #[.int .i64 σ.xs.length] 3 (0, 0)) :: (b12, Obj.cells #[.pointer (some ⟨r, 0, none⟩)] 52 (0, 0)) :: (ρ.L 89 9 ++ (σ.L ++ [(b8, Obj.cells #[.pointer (some ⟨g, 0, none⟩)] 60 (0, 0))]))) ++ (b5 + 1, Obj.cells #[.bool false] 4 (0, 0)) :: [(b5, .cells #[.int .i64 z] 3 (0, 0))]) := by
            rw [hT0] at hS7
            refine hS7.perm ?_
            simp only [List.cons_append, List.append_assoc, List.nil_append, List.singleton_append]
            refine List.Perm.cons _ ?_
            exact (List.Perm.cons _ (List.Perm.swap _ _ _)).trans (List.Perm.swap _ _ _)
          have hS9 := St.set hS8 0 (.bool true)
          have e5q : (W3.drewN nq).cell? ⟨b5 + 1, 0, none⟩ = some (.bool false) := e5
          have e6q : (W3.drewN nq).frozen? ⟨b5 + 1, 0, none⟩ = false := e6
          have HS9 := Lib.hid hS9
          clear hS9 hS8 hS7
          go_wp2_with fail
          refine leave2 HS9.out (v := .bool true) (fun w' h' => ?_) (fun w' h' => ⟨rfl, h'⟩)
          have hc' : w'.cell? ⟨b5 + 1, 0, none⟩ = some (.bool true) := h'.cell (g := b5 + 1) (cs := #[.bool true]) (t := 4) (fr := (0, 0)) (by simp) 0
          simp [results, Try.f7, go_sem, hc']
    case stop =>
      rintro D c pre W1 hD ⟨k9, hk9, hys⟩ ⟨hc, hS⟩ hK
      rcases hc with ⟨rfl, hc⟩ | ⟨rfl, hz1, hz0⟩
      · exact absurd (by rw [hys, upto_length]) hc
      have hS := hS rfl
      obtain ⟨seen, hseen⟩ : ∃ n, n = pre.length := ⟨_, rfl⟩
      have hsx : seen ≤ σ.xs.length := by rw [hseen, hys, upto_length]; exact hk9
      rw [← hseen] at hz1 hS
      clear hseen hys
      have hS1 := hS.more hge (fun p hp => hLt _ p hp) hD hK
      have hzx : z < σ.xs.length := by omega
      rw [wpIn_wide]
      obtain ⟨e1, e2, e3, e4, e5, e6, _, A9, c9, e8⟩ := FACTS.out W1 _ hS
      obtain ⟨b15, hb15⟩ : ∃ b, b = W1.heap.size := ⟨_, rfl⟩
      have hS2 := hS1.alloc (.cells #[.int .i64 0] 3)
      rw [← hb15] at hS2
      clear hS1
      go_wp2_with fail
      refine (ring_all r hS2).mono ?_
      rintro e W2 ⟨b16, rfl, hb16, hsz2, hS3⟩
      rw [← hb15]
      clear hS2 hb16 hsz2 hb15
      have hS4 := hS3.perm (List.Perm.swap _ _ _)
      have hRA2 : RingAt ρ b16 W2 := ⟨hS3.own (ρ.r, _) (by rw [hT0]; simp [Ring.L]), hS3.own (ρ.ab, _) (by rw [hT0]; simp [Ring.L]), hS3.own (b16, _) (by simp [both.r])⟩
      clear hS3 e1 e2 e3 e4 e5 e6 e8
      obtain ⟨T1, hT1⟩ : ∃ T1, T1 = (b16, Obj.cells #[.pointer (some ⟨r, 0, none⟩)] 52 (0, 0)) :: (D, Obj.deferred (some [])) :: (b11, Obj.cells #[.int .i64 seen] 3 (0, 0)) :: T0 := ⟨_, rfl⟩
      rw [← hT1] at hS4
      have hge2 := hS4.ge
      have hLt2 : ∀ (v : Value) (p : Nat × Obj), p ∈ (b15, Obj.cells #[v] 3 (0, 0)) :: T1 → p.1 < W2.heap.size := fun v p hp => by
        rcases List.mem_cons.1 hp with rfl | hp
        · exact hS4.lt (p := (b15, Obj.cells #[.int .i64 0] 3 (0, 0))) (by simp)
        · exact hS4.lt (List.mem_cons_of_mem _ hp)
      have hrr2 : ρ.r < W2.heap.size := (Array.getElem?_eq_some_iff.1 hRA2.r).1
      have hra2 : ρ.ab < W2.heap.size := (Array.getElem?_eq_some_iff.1 hRA2.ab).1
      have hrb2 : b16 < W2.heap.size := (Array.getElem?_eq_some_iff.1 hRA2.box).1
      have hne2 : b15 ≠ ρ.r ∧ b15 ≠ ρ.ab ∧ b15 ≠ b16 := by
        have hn := hS4.nodup
        rw [hT1, hT0] at hn
        simp only [Ring.L, List.map_cons, List.map_append, List.cons_append, List.nodup_cons, List.mem_cons, List.mem_append, not_or] at hn
        obtain ⟨⟨n1, _, _, _, n2, n3, _⟩, _⟩ := hn
        exact ⟨n2, n3, n1⟩
      have HST2 := Lib.hid hS4; have HRA2 := Lib.hid hRA2
      clear hS4 hRA2
      go_wp2_with fail
      refine (wpIn_wide (n := 3)).1 ?_
      refine' wpIn_rangeFunc_ownF (n := 3) rfl (by omega) (gf := 51) (lb := #[.pointer (some ⟨b16, 0, none⟩)]) rfl trivial (enters_of Try.func51 (by kernel_rfl) rfl)
        (all_stops 2 (by omega) b16 ρ both.ok σ.xs both.xs W2 hrr2 hra2 hrb2 HRA2.out) Kr_t (Kr_b hrr2 hra2 hrb2) (Below.refl _ _) (fun _ => rfl)
        (fun pre W1 => St W W1 (fun b => W.heap[b]?) ((b15, Obj.cells #[.int .i64 pre.length] 3 (0, 0)) :: T1))
        (fun _ _ _ => False)
        (ownFrom_St _ hge2 (fun s p hp => hLt2 _ p hp))
        (fun c s A B row hs hg hr => hs) HST2.out _ ?assign4 ?body4 ?done4 ?stop4
      case assign4 =>
        intro l x W K hK
        gi_wp2
        exact hK
      case body4 =>
        rintro l pre x W3 hS hlen
        obtain ⟨n0, hn0⟩ : ∃ n0, n0 = pre.length := ⟨_, rfl⟩
        rw [← hn0] at hS hlen
        have e1 : W3.cell? ⟨b15, 0, none⟩ = some (.int .i64 n0) := hS.cell (g := b15) (cs := #[.int .i64 n0]) (t := 3) (fr := (0, 0)) (by simp) 0
        have e2 : W3.frozen? ⟨b15, 0, none⟩ = false := hS.frozen (g := b15) (cs := #[.int .i64 n0]) (t := 3) (by simp) 0
        have hS2 : ∀ v, St W (W3.setCell ⟨b15, 0, none⟩ v) (fun b => W.heap[b]?) ((b15, Obj.cells #[v] 3 (0, 0)) :: T1) := fun v => St.set (A := []) hS 0 v
        have HS2 := Lib.hid hS2; have HN := Lib.hid hn0
        clear hS hS2 hn0
        gi_wp2
        have hl1 : (pre ++ [x]).length = n0 + 1 := by rw [List.length_append, ← HN.out]; rfl
        refine ⟨KeepsOthers.setCell _ _ _, fun b hb => Below.heap_setCell _ _ _ _ (fun e => by
          have e : b = b15 := e
          subst e
          rcases hb with h | h | h
          · exact hne2.1 h
          · exact hne2.2.1 h
          · exact hne2.2.2 h), ?_⟩
        show St _ _ _ _
        rw [hl1]
        exact HS2.out _
      case stop4 =>
        rintro D2 c2 pre W3 hD2 _ h9 hK2
        exact h9.elim
      case done4 =>
        rintro D2 ys2 W3 hD2 hys2 hS5 hK2
        have hl2 : ys2.length = σ.xs.length := by rw [hys2, upto_length]
        rw [hl2] at hS5
        clear hl2 hys2
        have hS6 := hS5.more hge2 (fun p hp => hLt2 _ p hp) hD2 hK2
        rw [hT1] at hS6
        obtain ⟨e1, e2, e3, e4, e5, e6, _, A9, c9, e8⟩ := FACTS.out W3 _ (St.weaken (A := [_, _, _, _]) hS6)
        have e15 : W3.cell? ⟨b15, 0, none⟩ = some (.int .i64 σ.xs.length) := hS6.cell (g := b15) (cs := #[.int .i64 σ.xs.length]) (t := 3) (fr := (0, 0)) (by simp) 0
        have HS6 := Lib.hid hS6
        clear hS6 hS5
        go_wp2_with fail
        refine wp_region_quiet_tail 22 (by kernel_rfl) (by kernel_rfl) ?_
        simp only [List.take_succ_cons, List.take_zero, List.drop_succ_cons, List.drop_zero]
        repeat (go_big_quiet_step ((go_at_call 31; exact tail_quiet_len' both (F := σ.L ++ [(b8, Obj.cells #[.pointer (some ⟨g, 0, none⟩)] 60 (0, 0)), (b5 + 1, Obj.cells #[.bool false] 4 (0, 0)), (b5, .cells #[.int .i64 z] 3 (0, 0))]) (St.weaken (A := [(D2, _), (b15, _), (b16, _), (D, _), (b11, _), (b12, _)]) (hT0 ▸ HS6.out)) _)))
        refine wpQuiet_nil ?_
        rintro _ ⟨nq, rfl⟩
        have hS7 := HS6.out.drew nq
        have hS8 : St W (W3.drewN nq) (fun b => W.heap[b]?) (((D2, Obj.deferred (some [])) :: (D, Obj.deferred (some [])) :: (b15, Obj.cells #[.int .i64 σ.xs.length] 3 (0, 0)) :: (b16, Obj.cells #[.pointer (some ⟨r, 0, none⟩)] 52 (0, 0)) :: (b11, Obj.cells #[.int .i64 seen] 3 (0, 0)) :: (b12, Obj.cells #[.pointer (some ⟨r, 0, none⟩)] 52 (0, 0)) :: (ρ.L 89 9 ++ (σ.L ++ [(b8, Obj.cells #[.pointer (some ⟨g, 0, none⟩)] 60 (0, 0))]))) ++ (b5 + 1, Obj.cells #[.bool false] 4 (0, 0)) :: [(b5, .cells #[.int .i64 z] 3 (0, 0))]) := by
          rw [hT0] at hS7
          refine hS7.perm ?_
          simp only [List.cons_append, List.append_assoc, List.nil_append, List.singleton_append]
          refine List.Perm.cons _ ?_
          exact (List.Perm.cons _ (List.Perm.swap _ _ _)).trans (List.Perm.swap _ _ _)
        have hS9 := St.set hS8 0 (.bool true)
        have e5q : (W3.drewN nq).cell? ⟨b5 + 1, 0, none⟩ = some (.bool false) := e5
        have e6q : (W3.drewN nq).frozen? ⟨b5 + 1, 0, none⟩ = false := e6
        have HS9 := Lib.hid hS9
        clear hS9 hS8 hS7
        go_wp2_with fail
        refine leave2 HS9.out (v := .bool true) (fun w' h' => ?_) (fun w' h' => ⟨rfl, h'⟩)
        have hc' : w'.cell? ⟨b5 + 1, 0, none⟩ = some (.bool true) := h'.cell (g := b5 + 1) (cs := #[.bool true]) (t := 4) (fr := (0, 0)) (by simp) 0
        simp [results, Try.f7, go_sem, hc']
end Go.Proofs.Ytlhplndngfffoaa
