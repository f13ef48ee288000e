/- The reference's ring: what each of its functions makes of it. -/
import Derived.Test.YtlhplndngfffoaaSlices
import Derived.Test.YtlhplndngfffoaaRingPure
import Derived.Handy
import Derived.Deep.DeepMust
namespace Go.Proofs.Ytlhplndngfffoaa
set_option linter.unusedVariables false
set_option linter.unusedSimpArgs false
open Go.RowKit

/-- The strings that wait, as cells. -/
abbrev strs (xs : List ByteArray) : List Value := xs.map Value.string

structure Ref where
  g : Nat
  most : Nat
  v : Value
  xs : List ByteArray
  closed : Bool
  B : List (Nat × Obj)

def Ref.L (σ : Ref) : List (Nat × Obj) := (σ.g, .cells #[.int .i64 σ.most, σ.v, .bool σ.closed] 69 (0, 0)) :: σ.B
structure Ref.Ok (σ : Ref) : Prop where
  m1 : 1 ≤ σ.most
  m16 : σ.most ≤ 16
  row : Row 9 1 σ.v σ.xs.length (strs σ.xs) σ.B
  many : σ.xs.length ≤ σ.most

section
variable {W w : World} {I : Nat → Option Obj} {F : List (Nat × Obj)} {σ : Ref}
theorem Ref.c0 (h : St W w I (σ.L ++ F)) : w.cell? ⟨σ.g, 0, none⟩ = some (.int .i64 σ.most) := h.cell (cs := #[.int .i64 σ.most, σ.v, .bool σ.closed]) (t := 69) (fr := (0, 0)) (by simp [Ref.L]) 0
theorem Ref.c1 (h : St W w I (σ.L ++ F)) : w.cell? ⟨σ.g, 1, none⟩ = some σ.v := h.cell (cs := #[.int .i64 σ.most, σ.v, .bool σ.closed]) (t := 69) (fr := (0, 0)) (by simp [Ref.L]) 1
theorem Ref.c2 (h : St W w I (σ.L ++ F)) : w.cell? ⟨σ.g, 2, none⟩ = some (.bool σ.closed) := h.cell (cs := #[.int .i64 σ.most, σ.v, .bool σ.closed]) (t := 69) (fr := (0, 0)) (by simp [Ref.L]) 2
theorem Ref.lt (h : St W w I (σ.L ++ F)) : σ.g < w.heap.size := h.lt (p := (σ.g, .cells #[.int .i64 σ.most, σ.v, .bool σ.closed] 69 (0, 0))) (by simp [Ref.L])
theorem Ref.fr (h : St W w I (σ.L ++ F)) (i : Nat) : w.frozen? ⟨σ.g, i, none⟩ = false := h.frozen (cs := #[.int .i64 σ.most, σ.v, .bool σ.closed]) (t := 69) (by simp [Ref.L]) i
end

set_option maxHeartbeats 400000 in
theorem ref_new (room : Int) {W w : World} {I : Nat → Option Obj} {F : List (Nat × Obj)} (h : St W w I F) :
    Calls Try.prog 33 #[.int .i64 room] w fun e w' => ∃ σ : Ref, σ.Ok ∧ σ.most = roomOf room ∧ σ.xs = [] ∧ σ.closed = false ∧ e = .returned (.pointer (some ⟨σ.g, 0, none⟩)) ∧ St W w' I (σ.L ++ F) := by
  have key : ∀ k : Nat, k = roomOf room → St W (w.alloc (.cells #[.int .i64 k, .slice none 0 0, .bool false] 69)) I ((Ref.mk w.heap.size k (.slice none 0 0) [] false []).L ++ F) ∧ (Ref.mk w.heap.size k (.slice none 0 0) [] false []).Ok := by
    intro k hk
    have : 1 ≤ roomOf room ∧ roomOf room ≤ 16 := by unfold roomOf; omega
    exact ⟨h.alloc _, by simp only; omega, by simp only; omega, Row.nil 9 1, by simp⟩
  rcases (show room < 1 ∨ 16 < room ∨ (1 ≤ room ∧ room ≤ 16) by omega) with h1 | h1 | ⟨h1, h2⟩
  · have e : 1 = roomOf room := by unfold roomOf; omega
    obtain ⟨k1, k2⟩ := key 1 e
    have K1 := Lib.hid k1; clear k1; have E := Lib.hid e; clear e
    go_enter Try.func33, Try.ntmps33
    go_wp2_with fail
    go_ret
    exact ⟨_, k2, E.out, rfl, rfl, rfl, K1.out⟩
  · have e : 16 = roomOf room := by unfold roomOf; omega
    obtain ⟨k1, k2⟩ := key 16 e
    have K1 := Lib.hid k1; clear k1; have E := Lib.hid e; clear e
    have h3 : ¬ room < 1 := by omega
    go_enter Try.func33, Try.ntmps33
    go_wp2_with fail
    go_ret
    exact ⟨_, k2, E.out, rfl, rfl, rfl, K1.out⟩
  · obtain ⟨n, rfl⟩ := Int.eq_ofNat_of_zero_le (show 0 ≤ room by omega)
    have e : n = roomOf n := by unfold roomOf; omega
    obtain ⟨k1, k2⟩ := key n e
    have K1 := Lib.hid k1; clear k1; have E := Lib.hid e; clear e
    have h3 : ¬ (n : Int) < 1 := by omega
    have h4 : ¬ 16 < (n : Int) := by omega
    go_enter Try.func33, Try.ntmps33
    go_wp2_with fail
    go_ret
    exact ⟨_, k2, E.out, rfl, rfl, rfl, K1.out⟩

def Ref.can (σ : Ref) : Bool := !(σ.closed || decide (σ.xs.length = σ.most))

set_option maxHeartbeats 1000000 in
theorem ref_send (σ : Ref) (ok : σ.Ok) (s : ByteArray) {W w : World} {I : Nat → Option Obj} {F : List (Nat × Obj)} (h : St W w I (σ.L ++ F)) (hc : σ.closed = false) (hlt : σ.xs.length < σ.most) :
    Calls Try.prog 34 #[.pointer (some ⟨σ.g, 0, none⟩), .string s] w fun e w' => e = .returned (.bool true) ∧ ∃ σ' : Ref, σ'.Ok ∧ σ'.g = σ.g ∧ σ'.most = σ.most ∧ σ'.closed = false ∧ σ'.xs = σ.xs ++ [s] ∧ St W w' I (σ'.L ++ F) := by
  have h0 := Ref.c0 h
  have h1 := Ref.c1 h
  have h2 := Ref.c2 h
  rw [hc] at h2
  have b1 := ok.m16
  obtain ⟨A, c, hv⟩ := ok.row.shape
  rw [hv] at h1
  have row := ok.row
  rw [hv] at row
  have hsrc : ∀ (o : Obj) (m : Nat), Src ((w.drewN m).alloc o) 1 A σ.xs.length (strs σ.xs) := fun o m => row.src fun p hp => ((h.drew m).alloc_ o).own p (by simp [Ref.L, hp])
  have hone : ∀ u ∈ strs σ.xs, u.oneCell' = true := by simp [strs, Value.oneCell']
  clear row
  have k1 : ∀ n o, ((w.drewN n).alloc o).cell? ⟨σ.g, 1, none⟩ = some (.slice A σ.xs.length c) := fun n o => by rw [← hv]; exact Ref.c1 ((h.drew n).alloc_ o)
  have hne : ((σ.xs.length : Int) == (σ.most : Int)) = false := by simp; omega
  go_enter Try.func34, Try.ntmps34
  go_wp2_with fail
  go_quiet (fail)
  go_wp2_with (at_builtin; refine Hid.out ?_)
  refine Lib.hid ?_
  refine wpList_append_row (F := σ.L ++ F) rfl (.tmp 22) (.tmp 26) _ rfl 9 (.string ⟨#[]⟩) 1 16 Try.underlying67 (by kernel_rfl) rfl (by omega) rfl (Row.empty 9 1 _) (by exact (h.drew nq).alloc _) rfl (by exact hsrc _ _) (by exact hone) σ.xs.length (by omega) (strs σ.xs) rfl (by unfold maxLen; omega) (by omega) ?_
  intro A1 c1 w1 L1 hrow1 hst1
  go_wp2_with (at_builtin; refine Hid.out ?_)
  refine Lib.hid ?_
  refine wpList_append_row (F := σ.L ++ F) rfl (.tmp 27) (.tmp 29) _ rfl 9 (.string ⟨#[]⟩) 1 16 Try.underlying67 (by kernel_rfl) rfl (by omega) rfl hrow1 (by exact hst1.alloc_ _) rfl (by exact Src.one _ _ _) (by simp [Value.oneCell']) (σ.xs.length + 1) (by omega) (strs (σ.xs ++ [s])) (by simp [strs]) (by unfold maxLen; omega) (by omega) ?_
  intro A2 c2 w2 L2 hrow2 hst2
  have hs2 := hst2.weaken
  have d1 := Ref.c1 hs2
  have d2 := Ref.fr hs2 1
  have fin : ∀ m, ∃ σ' : Ref, σ'.Ok ∧ σ'.g = σ.g ∧ σ'.most = σ.most ∧ σ'.closed = false ∧ σ'.xs = σ.xs ++ [s] ∧ St W ((w2.drewN m).setCell ⟨σ.g, 1, none⟩ (.slice A2 (σ.xs.length + 1) c2)) I (σ'.L ++ F) := by
    intro m
    refine ⟨⟨σ.g, σ.most, .slice A2 (σ.xs.length + 1) c2, σ.xs ++ [s], false, L2⟩, ⟨ok.m1, ok.m16, by simpa [strs] using hrow2, by simp; omega⟩, rfl, rfl, rfl, rfl, ?_⟩
    have s0 : St W (w2.drewN m) I (L2 ++ (σ.g, .cells #[.int .i64 σ.most, σ.v, .bool σ.closed] 69 (0, 0)) :: (σ.B ++ F)) := by simpa [Ref.L] using hst2.drew m
    have s1 := St.set s0 1 (.slice A2 (σ.xs.length + 1) c2)
    have s2 := St.swap (A := L2) (B := [(σ.g, _)]) (F := σ.B ++ F) s1
    have s3 := St.mid (A := [(σ.g, _)] ++ L2) (B := σ.B) (F := F) (by simpa using s2)
    simpa [Ref.L, hc] using s3
  have Fin := Lib.hid fin; clear fin hs2
  clear hst2 hrow2 hst1 hrow1
  go_wp2_with fail
  go_ret
  obtain ⟨σ', f1, f2, f3, f4, f5, f6⟩ := Fin.out 0
  exact ⟨rfl, σ', f1, f2, f3, f4, f5, f6.as rfl rfl rfl rfl⟩

set_option maxHeartbeats 1000000 in
theorem ref_send_no (σ : Ref) (ok : σ.Ok) (s : ByteArray) {W w : World} {I : Nat → Option Obj} {F : List (Nat × Obj)} (h : St W w I (σ.L ++ F)) (hc : σ.closed = true ∨ σ.xs.length = σ.most) :
    Calls Try.prog 34 #[.pointer (some ⟨σ.g, 0, none⟩), .string s] w fun e w' => e = .returned (.bool false) ∧ ∃ m, w' = w.drewN m := by
  have h0 := Ref.c0 h
  have h1 := Ref.c1 h
  have h2 := Ref.c2 h
  have b1 := ok.m16
  obtain ⟨A, c, hv⟩ := ok.row.shape
  rw [hv] at h1
  cases hcl : σ.closed
  · have hne : ((σ.xs.length : Int) == (σ.most : Int)) = true := by rw [hcl] at hc; simp at hc ⊢; omega
    rw [hcl] at h2
    clear hc hcl
    go_enter Try.func34, Try.ntmps34
    go_wp2_with fail
    go_quiet (fail)
    go_wp2_with fail
    go_ret
    exact ⟨rfl, _, rfl⟩
  · rw [hcl] at h2
    clear hc hcl
    go_enter Try.func34, Try.ntmps34
    go_wp2_with fail
    go_quiet (fail)
    go_wp2_with fail
    go_ret
    exact ⟨rfl, _, rfl⟩

set_option maxHeartbeats 400000 in
theorem ref_room (σ : Ref) (ok : σ.Ok) {W w : World} {I : Nat → Option Obj} {F : List (Nat × Obj)} (h : St W w I (σ.L ++ F)) :
    Calls Try.prog 38 #[.pointer (some ⟨σ.g, 0, none⟩)] w fun e w' => e = .returned (.int .i64 (((if σ.closed then 0 else σ.most - σ.xs.length : Nat)) : Int)) ∧ ∃ m, w' = w.drewN m := by
  have h0 := Ref.c0 h
  have h1 := Ref.c1 h
  have h2 := Ref.c2 h
  have b1 := ok.m16
  have b2 := ok.many
  obtain ⟨A, c, hv⟩ := ok.row.shape
  rw [hv] at h1
  cases hcl : σ.closed
  · rw [hcl] at h2
    go_enter Try.func38, Try.ntmps38
    go_wp2_with fail
    go_quiet (fail)
    go_wp2_with fail
    go_ret
    refine ⟨?_, _, rfl⟩
    simp
    omega
  · rw [hcl] at h2
    go_enter Try.func38, Try.ntmps38
    go_wp2_with fail
    go_ret
    exact ⟨rfl, 0, rfl⟩

set_option maxHeartbeats 400000 in
theorem ref_close (σ : Ref) (ok : σ.Ok) {W w : World} {I : Nat → Option Obj} {F : List (Nat × Obj)} (h : St W w I (σ.L ++ F)) :
    Calls Try.prog 36 #[.pointer (some ⟨σ.g, 0, none⟩)] w fun e w' => e = .returned (.int .i64 (σ.xs.length : Int)) ∧ ∃ σ' : Ref, σ'.Ok ∧ σ'.g = σ.g ∧ σ'.most = σ.most ∧ σ'.closed = true ∧ σ'.xs = [] ∧ St W w' I (σ'.L ++ F) := by
  have h1 := Ref.c1 h
  have h2 := Ref.c2 h
  have f1 := Ref.fr h 1
  have f2 := Ref.fr h 2
  have b1 := ok.m16
  have b2 := ok.many
  obtain ⟨A, c, hv⟩ := ok.row.shape
  rw [hv] at h1
  have fin : ∃ σ' : Ref, σ'.Ok ∧ σ'.g = σ.g ∧ σ'.most = σ.most ∧ σ'.closed = true ∧ σ'.xs = [] ∧ St W ((w.setCell ⟨σ.g, 1, none⟩ (.slice none 0 0)).setCell ⟨σ.g, 2, none⟩ (.bool true)) I (σ'.L ++ F) := by
    refine ⟨⟨σ.g, σ.most, .slice none 0 0, [], true, []⟩, ⟨ok.m1, ok.m16, Row.nil 9 1, by simp⟩, rfl, rfl, rfl, rfl, ?_⟩
    have s1 := St.set (A := []) (B := σ.B ++ F) (g := σ.g) h 1 (.slice none 0 0)
    have s2 := St.set (A := []) (B := σ.B ++ F) (g := σ.g) s1 2 (.bool true)
    have s3 := St.mid (A := [(σ.g, _)]) (B := σ.B) (F := F) s2
    simpa [Ref.L] using s3
  have Fin := Lib.hid fin; clear fin
  go_enter Try.func36, Try.ntmps36
  go_wp2_with fail
  go_ret
  exact ⟨rfl, Fin.out⟩

set_option maxHeartbeats 400000 in
theorem ref_recv_no (σ : Ref) (ok : σ.Ok) {W w : World} {I : Nat → Option Obj} {F : List (Nat × Obj)} (h : St W w I (σ.L ++ F)) (hx : σ.xs = []) :
    Calls Try.prog 35 #[.pointer (some ⟨σ.g, 0, none⟩)] w fun e w' => e = .returned (.tuple #[.string ⟨#[]⟩, .bool false]) ∧ w = w' := by
  have h1 := Ref.c1 h
  obtain ⟨A, c, hv⟩ := ok.row.shape
  rw [hv, hx] at h1
  simp only [List.length_nil] at h1
  clear hv hx
  go_enter Try.func35, Try.ntmps35
  go_wp2_with fail
  go_ret2
  exact ⟨rfl, rfl⟩

set_option maxHeartbeats 1000000 in
theorem ref_recv (σ : Ref) (ok : σ.Ok) {W w : World} {I : Nat → Option Obj} {F : List (Nat × Obj)} (h : St W w I (σ.L ++ F)) (x : ByteArray) (l : List ByteArray) (hx : σ.xs = x :: l) :
    Calls Try.prog 35 #[.pointer (some ⟨σ.g, 0, none⟩)] w fun e w' => e = .returned (.tuple #[.string x, .bool true]) ∧ ∃ σ' : Ref, σ'.Ok ∧ σ'.g = σ.g ∧ σ'.most = σ.most ∧ σ'.closed = σ.closed ∧ σ'.xs = l ∧ St W w' I (σ'.L ++ F) := by
  have h1 := Ref.c1 h
  have f1 := Ref.fr h 1
  have b1 := ok.m16
  have b2 := ok.many
  have row := ok.row
  obtain ⟨g, off, cap, cur, hv, hB, hcell⟩ := row.cells (j := 0) (u := .string x) (by rw [hx]; rfl)
  rw [hv] at row h1
  rw [hx] at h1 row b2
  simp only [List.length_cons] at h1 b2
  have hc0 : w.cell? ⟨g, off, none⟩ = some (.string x) := by
    rw [h.cell (g := g) (cs := cur) (t := 9) (fr := (0, 0)) (by simp [Ref.L, hB]) off]
    simpa using hcell
  obtain ⟨_, ⟨_, h0, _⟩ | ⟨g', off', cap', cur', hv', hB', hnc, hcm, hsz, htake⟩⟩ := row
  · simp at h0
  injection hv' with e1 e2 e3
  simp only [Option.some.injEq, Addr.mk.injEq] at e1
  obtain ⟨rfl, rfl, _⟩ := e1
  subst e3
  rw [hB] at hB'
  simp only [List.cons.injEq, Prod.mk.injEq, Obj.cells.injEq, true_and, and_true] at hB'
  subst hB'
  simp only [List.length_cons, Nat.mul_one] at hnc hsz htake
  have hlt : 1 ≤ cap := by omega
  have fin : ∀ u, u = (if cap = 1 then Value.slice (some ⟨g, off, none⟩) l.length (cap - 1) else .slice (some ⟨g, off + 1, none⟩) l.length (cap - 1)) →
      ∃ σ' : Ref, σ'.Ok ∧ σ'.g = σ.g ∧ σ'.most = σ.most ∧ σ'.closed = σ.closed ∧ σ'.xs = l ∧ St W (w.setCell ⟨σ.g, 1, none⟩ u) I (σ'.L ++ F) := by
    intro u hu
    refine ⟨⟨σ.g, σ.most, u, l, σ.closed, σ.B⟩, ⟨ok.m1, ok.m16, ?_, by simp; omega⟩, rfl, rfl, rfl, rfl, ?_⟩
    · simp only [hB, hu]
      have hl : strs l = (strs (x :: l)).tail := rfl
      split
      · rename_i hc1
        have : l = [] := List.eq_nil_of_length_eq_zero (by omega)
        subst this
        exact ⟨rfl, .inr ⟨g, off, cap - 1, cur, rfl, rfl, by simp, by omega, by omega, by simp⟩⟩
      · refine ⟨by simp [strs], .inr ⟨g, off + 1, cap - 1, cur, rfl, rfl, by omega, by omega, by omega, ?_⟩⟩
        rw [hl, ← htake, Nat.mul_one, ← List.drop_one, List.drop_take, List.drop_drop, Nat.add_sub_cancel]
    · have s1 := St.set (A := []) (B := σ.B ++ F) (g := σ.g) h 1 u
      simpa [Ref.L] using s1
  have Fin := Lib.hid fin; clear fin hv hB hx htake hcell
  by_cases hc1 : cap = 1
  · subst hc1
    simp only [if_pos] at Fin
    have : l = [] := List.eq_nil_of_length_eq_zero (by omega)
    subst this
    go_enter Try.func35, Try.ntmps35
    go_wp2_with fail
    go_ret2
    exact ⟨rfl, Fin.out _ rfl⟩
  · simp only [if_neg hc1] at Fin
    go_enter Try.func35, Try.ntmps35
    go_wp2_with fail
    go_ret2
    exact ⟨rfl, Fin.out _ rfl⟩
end Go.Proofs.Ytlhplndngfffoaa
