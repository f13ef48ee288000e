/- RingKinds: a ring of hashes (room 1), a ring of offers (room 2). -/
import Derived.Test.YtlhplndngfffoaaRingPure
import Derived.Test.YtlhplndngfffoaaHash
import Derived.Test.YtlhplndngfffoaaQtail
import Derived.Deep.QuietTactic
import Derived.Deep.RegionHeld3
namespace Go.Proofs.Ytlhplndngfffoaa
open Go.RowKit

theorem results_row_tmp {P : Program} {fn : Func} {p q : Tmp} {ty : TypeId} (h : fn.results = #[.cell p ty, .tmp q]) (tmps : Array Value) (w : World) (g : Nat) (t : TypeId) (cs : Array Value) (fr : Nat × Nat) (d : TypeDesc) (v : Value)
    (hp : tmps.getD p undef = .pointer (some ⟨g, 0, none⟩)) (hq : tmps.getD q undef = v) (hg : w.heap[g]? = some (.cells cs t fr))
    (hu : P.underlying ty = some d) (hd : (match d with | .struct _ | .array _ _ => true | _ => false) = true) (hi : (P.info? ty).map (·.size) = some cs.size) :
    (results fn tmps).run P w = .ok (.tuple #[.agg cs, v]) w := by
  have hp' : tmps[p]?.getD undef = .pointer (some ⟨g, 0, none⟩) := by simpa using hp
  have hq' : tmps[q]?.getD undef = v := by simpa using hq
  simp [results, h, hp', hq', asAddr, run_loadVar_row w g t ty cs fr d hg hu hd hi]

/-- The blocks of a ring of hashes. -/
def HL (r ab : Nat) (many : Int) (cs : Array Value) : List (Nat × Obj) :=
  [(r, .cells #[.slice (some ⟨ab, 0, none⟩) 1 1, .int .i64 0, .int .i64 many, .bool false] 84 (0, 0)), (ab, .cells cs 33 (0, 0))]

section
variable {W w : World} {I : Nat → Option Obj} {F : List (Nat × Obj)} {r ab : Nat} {many : Int} {cs : Array Value}
theorem HL.c (h : St W w I (HL r ab many cs ++ F)) (i : Nat) : w.cell? ⟨r, i, none⟩ = (#[.slice (some ⟨ab, 0, none⟩) 1 1, .int .i64 0, .int .i64 many, .bool false] : Array Value)[i]? :=
  h.cell (g := r) (cs := #[.slice (some ⟨ab, 0, none⟩) 1 1, .int .i64 0, .int .i64 many, .bool false]) (t := 84) (fr := (0, 0)) (by simp [HL]) i
theorem HL.f (h : St W w I (HL r ab many cs ++ F)) (i : Nat) : w.frozen? ⟨r, i, none⟩ = false :=
  h.frozen (g := r) (cs := #[.slice (some ⟨ab, 0, none⟩) 1 1, .int .i64 0, .int .i64 many, .bool false]) (t := 84) (by simp [HL]) i

set_option maxRecDepth 100000 in
set_option maxHeartbeats 1000000 in
theorem hnew' (k : Int) (hk : k = 1) (h : St W w I F) : Calls Try.prog 15 #[.int .i64 k] w fun e w' => ∃ r ab, e = .returned (.pointer (some ⟨r, 0, none⟩)) ∧ St W w' I (HL r ab 0 #[.int .u8 0, .int .u8 0, .int .u8 0, .int .u8 0, .int .u8 0, .int .u8 0, .int .u8 0, .int .u8 0, .int .u8 0, .int .u8 0, .int .u8 0, .int .u8 0, .int .u8 0, .int .u8 0, .int .u8 0, .int .u8 0, .int .u8 0, .int .u8 0, .int .u8 0, .int .u8 0, .int .u8 0, .int .u8 0, .int .u8 0, .int .u8 0, .int .u8 0, .int .u8 0, .int .u8 0, .int .u8 0, .int .u8 0, .int .u8 0, .int .u8 0, .int .u8 0] ++ F) := by
  have hmk : ∀ w, (Instr.makeSlice 82 (.int .i64 1) (.int .i64 1)).run Try.prog w = .ok (.slice (some ⟨w.heap.size, 0, none⟩) 1 1) (w.alloc (.cells #[.int .u8 0, .int .u8 0, .int .u8 0, .int .u8 0, .int .u8 0, .int .u8 0, .int .u8 0, .int .u8 0, .int .u8 0, .int .u8 0, .int .u8 0, .int .u8 0, .int .u8 0, .int .u8 0, .int .u8 0, .int .u8 0, .int .u8 0, .int .u8 0, .int .u8 0, .int .u8 0, .int .u8 0, .int .u8 0, .int .u8 0, .int .u8 0, .int .u8 0, .int .u8 0, .int .u8 0, .int .u8 0, .int .u8 0, .int .u8 0, .int .u8 0, .int .u8 0] 33)) := fun _ => by kernel_rfl
  have h1 := (h.alloc (.cells #[.int .u8 0, .int .u8 0, .int .u8 0, .int .u8 0, .int .u8 0, .int .u8 0, .int .u8 0, .int .u8 0, .int .u8 0, .int .u8 0, .int .u8 0, .int .u8 0, .int .u8 0, .int .u8 0, .int .u8 0, .int .u8 0, .int .u8 0, .int .u8 0, .int .u8 0, .int .u8 0, .int .u8 0, .int .u8 0, .int .u8 0, .int .u8 0, .int .u8 0, .int .u8 0, .int .u8 0, .int .u8 0, .int .u8 0, .int .u8 0, .int .u8 0, .int .u8 0] 33)).alloc (.cells #[.slice (some ⟨w.heap.size, 0, none⟩) 1 1, .int .i64 0, .int .i64 0, .bool false] 84)
  rw [World.size_alloc] at h1
  have H1 := Lib.hid h1
  have he : max 1 (min k 16) = 1 := by omega
  clear h h1 hk
  go_enter Try.func15, Try.ntmps15
  go_wp2_with fail
  go_ret
  exact ⟨_, _, rfl, H1.out⟩
theorem hnew (h : St W w I F) : Calls Try.prog 15 #[.int .i64 1] w fun e w' => ∃ r ab, e = .returned (.pointer (some ⟨r, 0, none⟩)) ∧ St W w' I (HL r ab 0 #[.int .u8 0, .int .u8 0, .int .u8 0, .int .u8 0, .int .u8 0, .int .u8 0, .int .u8 0, .int .u8 0, .int .u8 0, .int .u8 0, .int .u8 0, .int .u8 0, .int .u8 0, .int .u8 0, .int .u8 0, .int .u8 0, .int .u8 0, .int .u8 0, .int .u8 0, .int .u8 0, .int .u8 0, .int .u8 0, .int .u8 0, .int .u8 0, .int .u8 0, .int .u8 0, .int .u8 0, .int .u8 0, .int .u8 0, .int .u8 0, .int .u8 0, .int .u8 0] ++ F) := hnew' 1 rfl h

set_option maxHeartbeats 1000000 in
theorem hroom (h : St W w I (HL r ab 0 cs ++ F)) : Calls Try.prog 44 #[.pointer (some ⟨r, 0, none⟩)] w fun e w' => e = .returned (.int .i64 1) ∧ ∃ m, w' = w.drewN m := by
  have c0 := HL.c h 0
  have c2 := HL.c h 2
  have c3 := HL.c h 3
  simp at c0 c2 c3
  clear h
  go_enter Try.func44, Try.ntmps44
  go_wp2_with fail
  go_quiet (fail)
  go_wp2_with fail
  go_ret
  exact ⟨rfl, _, rfl⟩

set_option maxHeartbeats 1000000 in
theorem hplace (w : World) (c0 : w.cell? ⟨r, 0, none⟩ = some (.slice (some ⟨ab, 0, none⟩) 1 1)) (c1 : w.cell? ⟨r, 1, none⟩ = some (.int .i64 0)) :
    Calls Try.prog 45 #[.pointer (some ⟨r, 0, none⟩), .int .i64 0] w fun e w' => e = .returned (.int .i64 0) ∧ ∃ m, w' = w.drewN m := by
  go_enter Try.func45, Try.ntmps45
  go_wp2_with fail
  go_quiet (fail)
  go_wp2_with fail
  go_ret
  exact ⟨rfl, _, rfl⟩

set_option maxHeartbeats 1000000 in
theorem hlen (h : St W w I (HL r ab many cs ++ F)) : Calls Try.prog 23 #[.pointer (some ⟨r, 0, none⟩)] w fun e w' => e = .returned (.int .i64 many) ∧ w = w' := by
  have c2 := HL.c h 2
  simp at c2
  clear h
  go_enter Try.func23, Try.ntmps23
  go_wp2_with fail
  go_ret
  exact ⟨rfl, rfl⟩

set_option maxRecDepth 100000 in
set_option maxHeartbeats 1000000 in
theorem hsend (X : Array Value) (hX : X.size = 32) (oX : X.all (·.oneCell') = true) (hcs : cs.size = 32) (h : St W w I (HL r ab 0 cs ++ F)) :
    Calls Try.prog 18 #[.pointer (some ⟨r, 0, none⟩), .agg X] w fun e w' => e = .returned (.bool true) ∧ St W w' I (HL r ab 1 X ++ F) := by
  have h1 := h.alloc (.cells X 33)
  have hroom' := hroom (St.weaken (A := [_]) h1)
  obtain ⟨b, hb⟩ : ∃ b, b = w.heap.size := ⟨_, rfl⟩
  rw [← hb] at h1
  have i1 : (Try.prog.info? 33).map (·.size) = some X.size := by rw [hX]; kernel_rfl
  have HB := Lib.hid hb
  have H1 := Lib.hid h1
  have HR := Lib.hid hroom'
  have I1 := Lib.hid i1
  clear h h1 hroom' i1 hb
  go_enter Try.func18, Try.ntmps18
  go_wp2_with fail
  refine HR.out.mono ?_
  rintro e w2 ⟨rfl, m, rfl⟩
  have h2 := H1.out.drew m
  rw [← HB.out]
  generalize (w.alloc (.cells X 33)).drewN m = w3 at *
  clear H1 HR
  have c0 := HL.c (St.weaken (A := [_]) h2) 0
  have c1 := HL.c (St.weaken (A := [_]) h2) 1
  have c2 := HL.c (St.weaken (A := [_]) h2) 2
  have f2 := HL.f (St.weaken (A := [_]) h2) 2
  simp at c0 c1 c2
  have hr : ∀ w', (∃ n, w' = w3.drewN n) → w'.rangeAt b 0 X.toList := by
    rintro w' ⟨n, rfl⟩ j v hv
    rw [Nat.zero_add, (h2.drew n).cell (g := b) (cs := X) (t := 33) (fr := (0, 0)) (by simp)]
    simpa using hv
  have HR := Lib.hid hr
  have H2 := Lib.hid h2
  clear hr h2
  go_wp2_with fail
  refine wp_region_quiet_tail 12 (by kernel_rfl) (by kernel_rfl) ?_
  simp only [List.take_succ_cons, List.take_zero, List.drop_succ_cons, List.drop_zero]
  repeat (first
    | (refine wpQuiet_step (fun K hK => ?_); refine quiet_load_row rfl 33 (.tmp 3) rfl (b := b) (off := 0) rfl X _ HR.out Try.underlying33 rfl I1.out ?_; go_simp; refine hK _ ?_; clear hK K)
    | go_big_quiet_step ((go_at_call 45; exact Calls.quiet_of (hplace (ab := ab) _ (by simpa using c0) (by simpa using c1)))))
  refine wpQuiet_nil ?_
  rintro _ ⟨nq, rfl⟩
  have h3 : St W (w3.drewN nq) I ((ab, .cells cs 33 (0, 0)) :: ([(b, .cells X 33 (0, 0)), (r, .cells #[.slice (some ⟨ab, 0, none⟩) 1 1, .int .i64 0, .int .i64 0, .bool false] 84 (0, 0))] ++ F)) :=
    (H2.out.drew nq).perm (List.perm_middle (l₁ := [_, _]))
  have H3 := Lib.hid h3
  clear H2 h3
  have F1 := Lib.hid (show 0 + X.size ≤ cs.size by omega)
  have O1 := Lib.hid oX
  clear oX
  go_wp2_with (with_reducible refine wpList_store_st rfl 33 (.tmp 19) (.tmp 18) rfl (g := ab) (off := 0) X rfl rfl H3.out F1.out I1.out O1.out ?_; intro w9 h9; refine Hid.out ?_)
  refine Lib.hid ?_
  have ew : setMany cs 0 X.toList = X := by rw [setMany_whole _ _ (by simp [hX, hcs])]
  rw [ew] at h9
  have h4 : St W w9 I (HL r ab 0 X ++ F) := St.mid (A := []) (B := [(b, .cells X 33 (0, 0))]) (F := HL r ab 0 X ++ F) (h9.perm (by
    unfold HL
    exact (List.perm_middle (l₁ := [_, _]) (l₂ := F)).symm.trans (by simp)))
  have d2 := HL.c h4 2
  have g2 := HL.f h4 2
  simp at d2
  have h5 : St W (w9.setCell ⟨r, 2, none⟩ (.int .i64 1)) I (HL r ab 1 X ++ F) := St.set (A := []) h4 2 (.int .i64 1)
  have H5 := Lib.hid h5
  clear h4 h5 h9 H3 c0 c1 c2 f2
  go_wp2_with fail
  go_ret
  exact ⟨rfl, H5.out⟩

set_option maxRecDepth 100000 in
set_option maxHeartbeats 1000000 in
theorem hpeek (X : Array Value) (hX : X.size = 32) (oX : X.all (·.oneCell') = true) (h : St W w I (HL r ab 1 X ++ F)) :
    Calls Try.prog 21 #[.pointer (some ⟨r, 0, none⟩)] w fun e w' => e = .returned (.tuple #[.agg X, .bool true]) ∧ St W w' I (HL r ab 1 X ++ F) := by
  have h1 := (h.alloc (.cells #[.int .u8 0, .int .u8 0, .int .u8 0, .int .u8 0, .int .u8 0, .int .u8 0, .int .u8 0, .int .u8 0, .int .u8 0, .int .u8 0, .int .u8 0, .int .u8 0, .int .u8 0, .int .u8 0, .int .u8 0, .int .u8 0, .int .u8 0, .int .u8 0, .int .u8 0, .int .u8 0, .int .u8 0, .int .u8 0, .int .u8 0, .int .u8 0, .int .u8 0, .int .u8 0, .int .u8 0, .int .u8 0, .int .u8 0, .int .u8 0, .int .u8 0, .int .u8 0] 33)).alloc_ (.cells #[.int .u8 0, .int .u8 0, .int .u8 0, .int .u8 0, .int .u8 0, .int .u8 0, .int .u8 0, .int .u8 0, .int .u8 0, .int .u8 0, .int .u8 0, .int .u8 0, .int .u8 0, .int .u8 0, .int .u8 0, .int .u8 0, .int .u8 0, .int .u8 0, .int .u8 0, .int .u8 0, .int .u8 0, .int .u8 0, .int .u8 0, .int .u8 0, .int .u8 0, .int .u8 0, .int .u8 0, .int .u8 0, .int .u8 0, .int .u8 0, .int .u8 0, .int .u8 0] 33)
  have i1 : (Try.prog.info? 33).map (·.size) = some X.size := by rw [hX]; kernel_rfl
  have I1 := Lib.hid i1
  have O1 := Lib.hid oX
  obtain ⟨b, hb⟩ : ∃ b, b = w.heap.size := ⟨_, rfl⟩
  rw [← hb] at h1
  have c0 := HL.c (St.weaken (A := [_]) h1) 0
  have c1 := HL.c (St.weaken (A := [_]) h1) 1
  have c2 := HL.c (St.weaken (A := [_]) h1) 2
  simp at c0 c1 c2
  have HB := Lib.hid hb
  have hr : ∀ w', (∃ n, w' = ((w.alloc (.cells #[.int .u8 0, .int .u8 0, .int .u8 0, .int .u8 0, .int .u8 0, .int .u8 0, .int .u8 0, .int .u8 0, .int .u8 0, .int .u8 0, .int .u8 0, .int .u8 0, .int .u8 0, .int .u8 0, .int .u8 0, .int .u8 0, .int .u8 0, .int .u8 0, .int .u8 0, .int .u8 0, .int .u8 0, .int .u8 0, .int .u8 0, .int .u8 0, .int .u8 0, .int .u8 0, .int .u8 0, .int .u8 0, .int .u8 0, .int .u8 0, .int .u8 0, .int .u8 0] 33)).alloc (.cells #[.int .u8 0, .int .u8 0, .int .u8 0, .int .u8 0, .int .u8 0, .int .u8 0, .int .u8 0, .int .u8 0, .int .u8 0, .int .u8 0, .int .u8 0, .int .u8 0, .int .u8 0, .int .u8 0, .int .u8 0, .int .u8 0, .int .u8 0, .int .u8 0, .int .u8 0, .int .u8 0, .int .u8 0, .int .u8 0, .int .u8 0, .int .u8 0, .int .u8 0, .int .u8 0, .int .u8 0, .int .u8 0, .int .u8 0, .int .u8 0, .int .u8 0, .int .u8 0] 33)).drewN n) → w'.rangeAt ab 0 X.toList := by
    rintro w' ⟨n, rfl⟩ j v hv
    rw [Nat.zero_add, (h1.drew n).cell (g := ab) (cs := X) (t := 33) (fr := (0, 0)) (by simp [HL])]
    simpa using hv
  have HR := Lib.hid hr
  have H1 := Lib.hid h1
  have F1 := Lib.hid (show 0 + X.size ≤ (#[.int .u8 0, .int .u8 0, .int .u8 0, .int .u8 0, .int .u8 0, .int .u8 0, .int .u8 0, .int .u8 0, .int .u8 0, .int .u8 0, .int .u8 0, .int .u8 0, .int .u8 0, .int .u8 0, .int .u8 0, .int .u8 0, .int .u8 0, .int .u8 0, .int .u8 0, .int .u8 0, .int .u8 0, .int .u8 0, .int .u8 0, .int .u8 0, .int .u8 0, .int .u8 0, .int .u8 0, .int .u8 0, .int .u8 0, .int .u8 0, .int .u8 0, .int .u8 0] : Array Value).size by rw [hX]; decide)
  clear hr h1 i1 oX h hb
  go_enter Try.func21, Try.ntmps21
  go_wp2_with fail
  refine wp_region_quiet_tail 10 (by kernel_rfl) (by kernel_rfl) ?_
  simp only [List.take_succ_cons, List.take_zero, List.drop_succ_cons, List.drop_zero]
  repeat (first
    | (refine wpQuiet_step (fun K hK => ?_); refine quiet_load_row rfl 33 (.tmp 19) rfl (b := ab) (off := 0) rfl X _ HR.out Try.underlying33 rfl I1.out ?_; go_simp; refine hK _ ?_; clear hK K)
    | go_big_quiet_step (fail))
  refine wpQuiet_nil ?_
  rintro _ ⟨nq, rfl⟩
  have h3 := H1.out.drew nq
  rw [HB.out] at h3
  have H3 := Lib.hid h3
  clear H1 h3 HR c0 c1 c2
  go_wp2_with (with_reducible refine wpList_store_st rfl 33 (.tmp 2) (.tmp 20) rfl (g := w.heap.size) (off := 0) X rfl rfl H3.out F1.out I1.out O1.out ?_; intro w9 h9; refine Hid.out ?_)
  refine Lib.hid ?_
  have ew : setMany #[.int .u8 0, .int .u8 0, .int .u8 0, .int .u8 0, .int .u8 0, .int .u8 0, .int .u8 0, .int .u8 0, .int .u8 0, .int .u8 0, .int .u8 0, .int .u8 0, .int .u8 0, .int .u8 0, .int .u8 0, .int .u8 0, .int .u8 0, .int .u8 0, .int .u8 0, .int .u8 0, .int .u8 0, .int .u8 0, .int .u8 0, .int .u8 0, .int .u8 0, .int .u8 0, .int .u8 0, .int .u8 0, .int .u8 0, .int .u8 0, .int .u8 0, .int .u8 0] 0 X.toList = X := by rw [setMany_whole _ _ (by simp [hX])]
  rw [ew] at h9
  clear H3 ew
  go_wp2_with fail
  refine bodyPost_ret (results_row_tmp rfl _ w9 w.heap.size 33 X (0, 0) _ (.bool true) rfl rfl (h9.own (w.heap.size, .cells X 33 (0, 0)) (by simp)) Try.underlying33 (by kernel_rfl) I1.out) rfl ?_
  exact ⟨rfl, St.weaken (A := [_]) h9⟩

/-- The blocks of a ring of offers. -/
def OL (r ab : Nat) (first many : Int) (a0 a1 b0 b1 : Value) : List (Nat × Obj) :=
  [(r, .cells #[.slice (some ⟨ab, 0, none⟩) 2 2, .int .i64 first, .int .i64 many, .bool false] 87 (0, 0)), (ab, .cells #[a0, a1, b0, b1] 41 (0, 0))]

section
variable {first : Int} {a0 a1 b0 b1 : Value}
theorem OL.c (h : St W w I (OL r ab first many a0 a1 b0 b1 ++ F)) : w.cell? ⟨r, 0, none⟩ = some (.slice (some ⟨ab, 0, none⟩) 2 2) ∧ w.cell? ⟨r, 1, none⟩ = some (.int .i64 first) ∧ w.cell? ⟨r, 2, none⟩ = some (.int .i64 many) ∧ w.cell? ⟨r, 3, none⟩ = some (.bool false) := by
  have c := h.cell (g := r) (cs := #[.slice (some ⟨ab, 0, none⟩) 2 2, .int .i64 first, .int .i64 many, .bool false]) (t := 87) (fr := (0, 0)) (by simp [OL])
  exact ⟨c 0, c 1, c 2, c 3⟩
theorem OL.f (h : St W w I (OL r ab first many a0 a1 b0 b1 ++ F)) (i : Nat) : w.frozen? ⟨r, i, none⟩ = false :=
  h.frozen (g := r) (cs := #[.slice (some ⟨ab, 0, none⟩) 2 2, .int .i64 first, .int .i64 many, .bool false]) (t := 87) (by simp [OL]) i
theorem OL.a (h : St W w I (OL r ab first many a0 a1 b0 b1 ++ F)) : w.cell? ⟨ab, 0, none⟩ = some a0 ∧ w.cell? ⟨ab, 1, none⟩ = some a1 ∧ w.cell? ⟨ab, 2, none⟩ = some b0 ∧ w.cell? ⟨ab, 3, none⟩ = some b1 := by
  have c := h.cell (g := ab) (cs := #[a0, a1, b0, b1]) (t := 41) (fr := (0, 0)) (by simp [OL])
  exact ⟨c 0, c 1, c 2, c 3⟩
theorem OL.af (h : St W w I (OL r ab first many a0 a1 b0 b1 ++ F)) : w.frozen? ⟨ab, 0, none⟩ = false ∧ w.frozen? ⟨ab, 1, none⟩ = false ∧ w.frozen? ⟨ab, 2, none⟩ = false ∧ w.frozen? ⟨ab, 3, none⟩ = false := by
  have c := h.frozen (g := ab) (cs := #[a0, a1, b0, b1]) (t := 41) (by simp [OL])
  exact ⟨c 0, c 1, c 2, c 3⟩

set_option maxHeartbeats 1000000 in
theorem onew' (k : Int) (hk : k = 2) (h : St W w I F) : Calls Try.prog 16 #[.int .i64 k] w fun e w' => ∃ r ab, e = .returned (.pointer (some ⟨r, 0, none⟩)) ∧ St W w' I (OL r ab 0 0 (.string ⟨#[]⟩) (.slice none 0 0) (.string ⟨#[]⟩) (.slice none 0 0) ++ F) := by
  have hmk : ∀ w, (Instr.makeSlice 85 (.int .i64 2) (.int .i64 2)).run Try.prog w = .ok (.slice (some ⟨w.heap.size, 0, none⟩) 2 2) (w.alloc (.cells #[.string ⟨#[]⟩, .slice none 0 0, .string ⟨#[]⟩, .slice none 0 0] 41)) := fun _ => by kernel_rfl
  have h1 := (h.alloc (.cells #[.string ⟨#[]⟩, .slice none 0 0, .string ⟨#[]⟩, .slice none 0 0] 41)).alloc (.cells #[.slice (some ⟨w.heap.size, 0, none⟩) 2 2, .int .i64 0, .int .i64 0, .bool false] 87)
  rw [World.size_alloc] at h1
  have H1 := Lib.hid h1
  have he : max 1 (min k 16) = 2 := by omega
  clear h h1 hk
  go_enter Try.func16, Try.ntmps16
  go_wp2_with fail
  go_ret
  exact ⟨_, _, rfl, H1.out⟩

set_option maxHeartbeats 1000000 in
theorem oroom (hm : 0 ≤ many) (hm2 : many ≤ 2) (h : St W w I (OL r ab first many a0 a1 b0 b1 ++ F)) : Calls Try.prog 46 #[.pointer (some ⟨r, 0, none⟩)] w fun e w' => e = .returned (.int .i64 (2 - many)) ∧ ∃ m, w' = w.drewN m := by
  obtain ⟨c0, c1, c2, c3⟩ := OL.c h
  have s1 : IntKind.i64.wrap (2 - many) = 2 - many := IntWalk.i64_in _ (by omega)
  clear h
  go_enter Try.func46, Try.ntmps46
  go_wp2_with fail
  go_quiet (fail)
  go_wp2_with fail
  go_ret
  exact ⟨rfl, _, rfl⟩

set_option maxHeartbeats 1000000 in
theorem oplace (w : World) (k i : Int) (hk : 0 ≤ k) (hk2 : k ≤ 2) (hf : 0 ≤ first) (hf2 : first ≤ 2) (hi : (first + k) % 2 = i) (c0 : w.cell? ⟨r, 0, none⟩ = some (.slice (some ⟨ab, 0, none⟩) 2 2)) (c1 : w.cell? ⟨r, 1, none⟩ = some (.int .i64 first)) :
    Calls Try.prog 47 #[.pointer (some ⟨r, 0, none⟩), .int .i64 k] w fun e w' => e = .returned (.int .i64 i) ∧ ∃ m, w' = w.drewN m := by
  have s1 : IntKind.i64.wrap (first + k) = first + k := IntWalk.i64_in _ (by omega)
  have s2 : (first + k).tmod 2 = (first + k) % 2 := Int.tmod_eq_emod_of_nonneg (by omega)
  have HI := Lib.hid hi
  clear hi
  go_enter Try.func47, Try.ntmps47
  go_wp2_with fail
  go_quiet (fail)
  go_wp2_with fail
  go_ret
  exact ⟨by rw [← HI.out]; rfl, _, rfl⟩

set_option maxRecDepth 10000 in
set_option maxHeartbeats 1000000 in
theorem osend0 (s : ByteArray) (A : Option Addr) (n c : Nat) (h : St W w I (OL r ab 0 0 a0 a1 b0 b1 ++ F)) :
    Calls Try.prog 19 #[.pointer (some ⟨r, 0, none⟩), .agg #[.string s, .slice A n c]] w fun e w' => e = .returned (.bool true) ∧ St W w' I (OL r ab 0 1 (.string s) (.slice A n c) b0 b1 ++ F) := by
  have h1 := h.alloc (.cells #[.string s, .slice A n c] 41)
  have hroom' := oroom (by omega) (by omega) (St.weaken (A := [_]) h1)
  simp only [Int.reduceSub] at hroom'
  obtain ⟨b, hb⟩ : ∃ b, b = w.heap.size := ⟨_, rfl⟩
  rw [← hb] at h1
  have HB := Lib.hid hb
  have H1 := Lib.hid h1
  have HR := Lib.hid hroom'
  clear h h1 hroom' hb
  go_enter Try.func19, Try.ntmps19
  go_wp2_with fail
  refine HR.out.mono ?_
  rintro e w2 ⟨rfl, m, rfl⟩
  have h2 := H1.out.drew m
  rw [← HB.out]
  generalize (w.alloc (.cells #[.string s, .slice A n c] 41)).drewN m = w3 at *
  clear H1 HR
  have d0 : w3.cell? ⟨b, 0, none⟩ = some (.string s) := h2.cell (g := b) (cs := #[.string s, .slice A n c]) (t := 41) (fr := (0, 0)) (by simp) 0
  have d1 : w3.cell? ⟨b, 1, none⟩ = some (.slice A n c) := h2.cell (g := b) (cs := #[.string s, .slice A n c]) (t := 41) (fr := (0, 0)) (by simp) 1
  have h3 := St.weaken (A := [_]) h2
  obtain ⟨c0, c1, c2, c3⟩ := OL.c h3
  obtain ⟨e0, e1, e2, e3⟩ := OL.a h3
  obtain ⟨g0, g1, g2, g3⟩ := OL.af h3
  have f2 := OL.f h3 2
  have hne : r ≠ ab := by
    have := h3.nodup
    simp [OL] at this
    exact this.1.1
  have hfin : ∀ m, St W ((((w3.drewN m).setCell ⟨ab, 0, none⟩ (.string s)).setCell ⟨ab, 1, none⟩ (.slice A n c)).setCell ⟨r, 2, none⟩ (.int .i64 1)) I (OL r ab 0 1 (.string s) (.slice A n c) b0 b1 ++ F) := fun m =>
    St.set (A := []) (St.set (A := [(r, _)]) (St.set (A := [(r, _)]) (h3.drew m) 0 (.string s)) 1 (.slice A n c)) 2 (.int .i64 1)
  have HF := Lib.hid hfin
  clear hfin h2 h3
  go_wp2_with fail
  refine wp_region_quiet_tail 12 (by kernel_rfl) (by kernel_rfl) ?_
  simp only [List.take_succ_cons, List.take_zero, List.drop_succ_cons, List.drop_zero]
  repeat (go_big_quiet_step ((go_at_call 47; exact Calls.quiet_of (oplace (first := 0) (ab := ab) _ 0 0 (by omega) (by omega) (by omega) (by omega) (by decide) (by simpa using c0) (by simpa using c1)))))
  refine wpQuiet_nil ?_
  rintro _ ⟨nq, rfl⟩
  go_wp2_with fail
  go_ret
  exact ⟨rfl, HF.out nq⟩

set_option maxRecDepth 10000 in
set_option maxHeartbeats 1000000 in
theorem osend1 (s : ByteArray) (A : Option Addr) (n c : Nat) (h : St W w I (OL r ab 0 1 a0 a1 b0 b1 ++ F)) :
    Calls Try.prog 19 #[.pointer (some ⟨r, 0, none⟩), .agg #[.string s, .slice A n c]] w fun e w' => e = .returned (.bool true) ∧ St W w' I (OL r ab 0 2 a0 a1 (.string s) (.slice A n c) ++ F) := by
  have h1 := h.alloc (.cells #[.string s, .slice A n c] 41)
  have hroom' := oroom (by omega) (by omega) (St.weaken (A := [_]) h1)
  simp only [Int.reduceSub] at hroom'
  obtain ⟨b, hb⟩ : ∃ b, b = w.heap.size := ⟨_, rfl⟩
  rw [← hb] at h1
  have HB := Lib.hid hb
  have H1 := Lib.hid h1
  have HR := Lib.hid hroom'
  clear h h1 hroom' hb
  go_enter Try.func19, Try.ntmps19
  go_wp2_with fail
  refine HR.out.mono ?_
  rintro e w2 ⟨rfl, m, rfl⟩
  have h2 := H1.out.drew m
  rw [← HB.out]
  generalize (w.alloc (.cells #[.string s, .slice A n c] 41)).drewN m = w3 at *
  clear H1 HR
  have d0 : w3.cell? ⟨b, 0, none⟩ = some (.string s) := h2.cell (g := b) (cs := #[.string s, .slice A n c]) (t := 41) (fr := (0, 0)) (by simp) 0
  have d1 : w3.cell? ⟨b, 1, none⟩ = some (.slice A n c) := h2.cell (g := b) (cs := #[.string s, .slice A n c]) (t := 41) (fr := (0, 0)) (by simp) 1
  have h3 := St.weaken (A := [_]) h2
  obtain ⟨c0, c1, c2, c3⟩ := OL.c h3
  obtain ⟨e0, e1, e2, e3⟩ := OL.a h3
  obtain ⟨g0, g1, g2, g3⟩ := OL.af h3
  have f2 := OL.f h3 2
  have hne : r ≠ ab := by
    have := h3.nodup
    simp [OL] at this
    exact this.1.1
  have hfin : ∀ m, St W ((((w3.drewN m).setCell ⟨ab, 2, none⟩ (.string s)).setCell ⟨ab, 3, none⟩ (.slice A n c)).setCell ⟨r, 2, none⟩ (.int .i64 2)) I (OL r ab 0 2 a0 a1 (.string s) (.slice A n c) ++ F) := fun m =>
    St.set (A := []) (St.set (A := [(r, _)]) (St.set (A := [(r, _)]) (h3.drew m) 2 (.string s)) 3 (.slice A n c)) 2 (.int .i64 2)
  have HF := Lib.hid hfin
  clear hfin h2 h3
  go_wp2_with fail
  refine wp_region_quiet_tail 12 (by kernel_rfl) (by kernel_rfl) ?_
  simp only [List.take_succ_cons, List.take_zero, List.drop_succ_cons, List.drop_zero]
  repeat (go_big_quiet_step ((go_at_call 47; exact Calls.quiet_of (oplace (first := 0) (ab := ab) _ 1 1 (by omega) (by omega) (by omega) (by omega) (by decide) (by simpa using c0) (by simpa using c1)))))
  refine wpQuiet_nil ?_
  rintro _ ⟨nq, rfl⟩
  go_wp2_with fail
  go_ret
  exact ⟨rfl, HF.out nq⟩

set_option maxRecDepth 10000 in
set_option maxHeartbeats 1000000 in
theorem opeek0 (s : ByteArray) (A : Option Addr) (n c : Nat) (h : St W w I (OL r ab 0 2 (.string s) (.slice A n c) b0 b1 ++ F)) :
    Calls Try.prog 49 #[.pointer (some ⟨r, 0, none⟩)] w fun e w' => e = .returned (.tuple #[.agg #[.string s, .slice A n c], .bool true]) ∧ St W w' I (OL r ab 0 2 (.string s) (.slice A n c) b0 b1 ++ F) := by
  have h1 := (h.alloc (.cells #[.string ⟨#[]⟩, .slice none 0 0] 41)).alloc_ (.cells #[.string ⟨#[]⟩, .slice none 0 0] 41)
  obtain ⟨b, hb⟩ : ∃ b, b = w.heap.size := ⟨_, rfl⟩
  rw [← hb] at h1
  have h3 := St.weaken (A := [_]) h1
  obtain ⟨c0, c1, c2, c3⟩ := OL.c h3
  obtain ⟨e0, e1, e2, e3⟩ := OL.a h3
  have hfin : ∀ m, St W (((((w.alloc (.cells #[.string ⟨#[]⟩, .slice none 0 0] 41)).alloc (.cells #[.string ⟨#[]⟩, .slice none 0 0] 41)).drewN m).setCell ⟨b, 0, none⟩ (.string s)).setCell ⟨b, 1, none⟩ (.slice A n c)) I ((b, .cells #[.string s, .slice A n c] 41 (0, 0)) :: (OL r ab 0 2 (.string s) (.slice A n c) b0 b1 ++ F)) := fun m =>
    St.set (A := []) (St.set (A := []) (h1.drew m) 0 (.string s)) 1 (.slice A n c)
  have HF := Lib.hid hfin
  have H1 := Lib.hid h1
  have HB := Lib.hid hb
  clear hfin h1 h3 h hb
  go_enter Try.func49, Try.ntmps49
  go_wp2_with fail
  refine wp_region_quiet_tail 10 (by kernel_rfl) (by kernel_rfl) ?_
  simp only [List.take_succ_cons, List.take_zero, List.drop_succ_cons, List.drop_zero]
  repeat (go_big_quiet_step (fail))
  refine wpQuiet_nil ?_
  rintro _ ⟨nq, rfl⟩
  have h4 := H1.out.drew nq
  rw [HB.out] at h4
  have H4 := Lib.hid h4
  clear h4 H1
  go_wp2_with (with_reducible refine wpList_store_st rfl 41 (.tmp 2) (.tmp 20) rfl (g := w.heap.size) (off := 0) #[.string s, .slice A n c] rfl rfl H4.out (by simp) (by kernel_rfl) (by simp [Value.oneCell']) ?_; intro w9 h9; refine Hid.out ?_)
  refine Lib.hid ?_
  have h5 : St W w9 I ((w.heap.size, .cells #[.string s, .slice A n c] 41 (0, 0)) :: (OL r ab 0 2 (.string s) (.slice A n c) b0 b1 ++ F)) := h9
  clear h9 H4 HF
  go_wp2_with fail
  refine bodyPost_ret (results_row_tmp rfl _ w9 w.heap.size 41 #[.string s, .slice A n c] (0, 0) _ (.bool true) rfl rfl (h5.own (w.heap.size, .cells #[.string s, .slice A n c] 41 (0, 0)) (by simp)) Try.underlying41 (by kernel_rfl) (by kernel_rfl)) rfl ?_
  exact ⟨rfl, St.weaken (A := [_]) h5⟩

set_option maxRecDepth 10000 in
set_option maxHeartbeats 2000000 in
theorem orecv0 (s : ByteArray) (A : Option Addr) (n c : Nat) (h : St W w I (OL r ab 0 2 (.string s) (.slice A n c) b0 b1 ++ F)) :
    Calls Try.prog 22 #[.pointer (some ⟨r, 0, none⟩)] w fun e w' => e = .returned (.tuple #[.agg #[.string s, .slice A n c], .bool true]) ∧ St W w' I (OL r ab 1 1 (.string ⟨#[]⟩) (.slice none 0 0) b0 b1 ++ F) := by
  have h1 := h.alloc (.cells #[.string ⟨#[]⟩, .slice none 0 0] 41)
  have h2 : St W (w.alloc (.cells #[.string ⟨#[]⟩, .slice none 0 0] 41)) I (OL r ab 0 2 (.string s) (.slice A n c) b0 b1 ++ ((w.heap.size, .cells #[.string ⟨#[]⟩, .slice none 0 0] 41 (0, 0)) :: F)) := St.swap (A := [_]) h1
  have H2 := Lib.hid h2
  clear h h1 h2
  go_enter Try.func22, Try.ntmps22
  go_wp2_with fail
  refine (opeek0 s A n c H2.out).mono ?_
  rintro e w2 ⟨rfl, h2⟩
  clear H2
  have h3 := (h2.alloc (.cells #[.string s, .slice A n c] 41)).alloc (.cells #[.string ⟨#[]⟩, .slice none 0 0] 41)
  rw [World.size_alloc] at h3
  have H3 := Lib.hid h3
  clear h2 h3
  go_wp2_with fail
  have h3 := H3.out
  clear H3
  generalize (w2.alloc (.cells #[.string s, .slice A n c] 41)).alloc (.cells #[.string ⟨#[]⟩, .slice none 0 0] 41) = w5 at *
  generalize w2.heap.size = b4 at *
  have d0 : w5.cell? ⟨b4 + 1, 0, none⟩ = some (.string ⟨#[]⟩) := h3.cell (g := b4 + 1) (cs := #[.string ⟨#[]⟩, .slice none 0 0]) (t := 41) (fr := (0, 0)) (by simp) 0
  have d1 : w5.cell? ⟨b4 + 1, 1, none⟩ = some (.slice none 0 0) := h3.cell (g := b4 + 1) (cs := #[.string ⟨#[]⟩, .slice none 0 0]) (t := 41) (fr := (0, 0)) (by simp) 1
  obtain ⟨c0, c1, c2, c3⟩ := OL.c (St.weaken (A := [_, _]) h3)
  have H3 := Lib.hid h3
  clear h3
  refine wp_region_quiet_tail 10 (by kernel_rfl) (by kernel_rfl) ?_
  simp only [List.take_succ_cons, List.take_zero, List.drop_succ_cons, List.drop_zero]
  repeat (go_big_quiet_step (fail))
  refine wpQuiet_nil ?_
  rintro _ ⟨nq, rfl⟩
  clear c0 c1 c2 c3 d0 d1
  have h4 : St W (w5.drewN nq) I ((ab, .cells #[.string s, .slice A n c, b0, b1] 41 (0, 0)) :: ([(b4 + 1, .cells #[.string ⟨#[]⟩, .slice none 0 0] 41 (0, 0)), (b4, .cells #[.string s, .slice A n c] 41 (0, 0)), (r, .cells #[.slice (some ⟨ab, 0, none⟩) 2 2, .int .i64 0, .int .i64 2, .bool false] 87 (0, 0))] ++ ((w.heap.size, .cells #[.string ⟨#[]⟩, .slice none 0 0] 41 (0, 0)) :: F))) :=
    (H3.out.drew nq).perm (List.perm_middle (l₁ := [_, _, _]))
  have H4 := Lib.hid h4
  clear h4 H3
  go_wp2_with (with_reducible refine wpList_store_st rfl 41 (.tmp 22) (.tmp 21) rfl (g := ab) (off := 0) #[.string ⟨#[]⟩, .slice none 0 0] rfl rfl H4.out (by simp) (by kernel_rfl) (by simp [Value.oneCell']) ?_; intro w9 h9; refine Hid.out ?_)
  refine Lib.hid ?_
  clear H4
  have h9' : St W w9 I (OL r ab 0 2 (.string ⟨#[]⟩) (.slice none 0 0) b0 b1 ++ ((b4, .cells #[.string s, .slice A n c] 41 (0, 0)) :: (w.heap.size, .cells #[.string ⟨#[]⟩, .slice none 0 0] 41 (0, 0)) :: F)) := by
    refine St.weaken (A := [(b4 + 1, .cells #[.string ⟨#[]⟩, .slice none 0 0] 41 (0, 0))]) (h9.perm ?_)
    unfold OL
    refine (List.perm_middle (l₁ := [_, _, _])).symm.trans ?_
    simp only [List.cons_append, List.nil_append]
    refine List.Perm.cons _ ?_
    refine (List.Perm.swap _ _ _).trans (List.Perm.cons _ ?_)
    exact List.Perm.swap _ _ _
  clear h9
  obtain ⟨c0, c1, c2, c3⟩ := OL.c h9'
  have f1 := OL.f h9' 1
  have f2 := OL.f h9' 2
  have hset : ∀ m, St W (((w9.drewN m).setCell ⟨r, 1, none⟩ (.int .i64 1)).setCell ⟨r, 2, none⟩ (.int .i64 1)) I (OL r ab 1 1 (.string ⟨#[]⟩) (.slice none 0 0) b0 b1 ++ ((b4, .cells #[.string s, .slice A n c] 41 (0, 0)) :: (w.heap.size, .cells #[.string ⟨#[]⟩, .slice none 0 0] 41 (0, 0)) :: F)) := fun m =>
    St.set (A := []) (St.set (A := []) (h9'.drew m) 1 (.int .i64 1)) 2 (.int .i64 1)
  have HS := Lib.hid hset
  clear hset h9'
  go_wp2_with fail
  refine (oplace (first := 0) (ab := ab) _ 1 1 (by omega) (by omega) (by omega) (by omega) (by decide) c0 c1).mono ?_
  rintro e w10 ⟨rfl, m10, rfl⟩
  have h10 := HS.out m10
  have h11 := h10.perm (L' := (w.heap.size, .cells #[.string ⟨#[]⟩, .slice none 0 0] 41 (0, 0)) :: (OL r ab 1 1 (.string ⟨#[]⟩) (.slice none 0 0) b0 b1 ++ ((b4, .cells #[.string s, .slice A n c] 41 (0, 0)) :: F))) (by
    unfold OL
    exact List.perm_middle (l₁ := [_, _, _]))
  have H10 := Lib.hid h10
  have H11 := Lib.hid h11
  clear HS h10 h11
  go_wp2_with (first
    | (with_reducible refine wpList_load_st rfl 41 (.tmp 4) rfl (g := b4) (off := 0) rfl H10.out (cs := #[.string s, .slice A n c]) (t := 41) (fr := (0, 0)) (by simp [OL]) #[.string s, .slice A n c] (fun j _ => by rw [Nat.zero_add]) _ Try.underlying41 rfl (by kernel_rfl) ?_)
    | (with_reducible refine wpList_store_st rfl 41 (.tmp 2) (.tmp 35) rfl (g := w.heap.size) (off := 0) #[.string s, .slice A n c] rfl rfl H11.out (by simp) (by kernel_rfl) (by simp [Value.oneCell']) ?_; intro w12 h12; refine Hid.out ?_))
  refine Lib.hid ?_
  clear H10 H11
  have h13 : St W w12 I ((w.heap.size, .cells #[.string s, .slice A n c] 41 (0, 0)) :: (OL r ab 1 1 (.string ⟨#[]⟩) (.slice none 0 0) b0 b1 ++ ((b4, .cells #[.string s, .slice A n c] 41 (0, 0)) :: F))) := h12
  clear h12
  go_wp2_with fail
  refine bodyPost_ret (results_row_tmp rfl _ w12 w.heap.size 41 #[.string s, .slice A n c] (0, 0) _ (.bool true) rfl rfl (h13.own (w.heap.size, .cells #[.string s, .slice A n c] 41 (0, 0)) (by simp)) Try.underlying41 (by kernel_rfl) (by kernel_rfl)) rfl ?_
  exact ⟨rfl, St.mid (A := OL r ab 1 1 (.string ⟨#[]⟩) (.slice none 0 0) b0 b1) (B := [_]) (St.weaken (A := [_]) h13)⟩

set_option maxRecDepth 10000 in
set_option maxHeartbeats 1000000 in
theorem opeek1 (s : ByteArray) (A : Option Addr) (n c : Nat) (h : St W w I (OL r ab 1 1 a0 a1 (.string s) (.slice A n c) ++ F)) :
    Calls Try.prog 49 #[.pointer (some ⟨r, 0, none⟩)] w fun e w' => e = .returned (.tuple #[.agg #[.string s, .slice A n c], .bool true]) ∧ St W w' I (OL r ab 1 1 a0 a1 (.string s) (.slice A n c) ++ F) := by
  have h1 := (h.alloc (.cells #[.string ⟨#[]⟩, .slice none 0 0] 41)).alloc_ (.cells #[.string ⟨#[]⟩, .slice none 0 0] 41)
  obtain ⟨b, hb⟩ : ∃ b, b = w.heap.size := ⟨_, rfl⟩
  rw [← hb] at h1
  have h3 := St.weaken (A := [_]) h1
  obtain ⟨c0, c1, c2, c3⟩ := OL.c h3
  obtain ⟨e0, e1, e2, e3⟩ := OL.a h3
  have hfin : ∀ m, St W (((((w.alloc (.cells #[.string ⟨#[]⟩, .slice none 0 0] 41)).alloc (.cells #[.string ⟨#[]⟩, .slice none 0 0] 41)).drewN m).setCell ⟨b, 0, none⟩ (.string s)).setCell ⟨b, 1, none⟩ (.slice A n c)) I ((b, .cells #[.string s, .slice A n c] 41 (0, 0)) :: (OL r ab 1 1 a0 a1 (.string s) (.slice A n c) ++ F)) := fun m =>
    St.set (A := []) (St.set (A := []) (h1.drew m) 0 (.string s)) 1 (.slice A n c)
  have HF := Lib.hid hfin
  have H1 := Lib.hid h1
  have HB := Lib.hid hb
  clear hfin h1 h3 h hb
  go_enter Try.func49, Try.ntmps49
  go_wp2_with fail
  refine wp_region_quiet_tail 10 (by kernel_rfl) (by kernel_rfl) ?_
  simp only [List.take_succ_cons, List.take_zero, List.drop_succ_cons, List.drop_zero]
  repeat (go_big_quiet_step (fail))
  refine wpQuiet_nil ?_
  rintro _ ⟨nq, rfl⟩
  have h4 := H1.out.drew nq
  rw [HB.out] at h4
  have H4 := Lib.hid h4
  clear h4 H1
  go_wp2_with (with_reducible refine wpList_store_st rfl 41 (.tmp 2) (.tmp 20) rfl (g := w.heap.size) (off := 0) #[.string s, .slice A n c] rfl rfl H4.out (by simp) (by kernel_rfl) (by simp [Value.oneCell']) ?_; intro w9 h9; refine Hid.out ?_)
  refine Lib.hid ?_
  have h5 : St W w9 I ((w.heap.size, .cells #[.string s, .slice A n c] 41 (0, 0)) :: (OL r ab 1 1 a0 a1 (.string s) (.slice A n c) ++ F)) := h9
  clear h9 H4 HF
  go_wp2_with fail
  refine bodyPost_ret (results_row_tmp rfl _ w9 w.heap.size 41 #[.string s, .slice A n c] (0, 0) _ (.bool true) rfl rfl (h5.own (w.heap.size, .cells #[.string s, .slice A n c] 41 (0, 0)) (by simp)) Try.underlying41 (by kernel_rfl) (by kernel_rfl)) rfl ?_
  exact ⟨rfl, St.weaken (A := [_]) h5⟩

set_option maxRecDepth 10000 in
set_option maxHeartbeats 2000000 in
theorem orecv1 (s : ByteArray) (A : Option Addr) (n c : Nat) (h : St W w I (OL r ab 1 1 a0 a1 (.string s) (.slice A n c) ++ F)) :
    Calls Try.prog 22 #[.pointer (some ⟨r, 0, none⟩)] w fun e w' => e = .returned (.tuple #[.agg #[.string s, .slice A n c], .bool true]) ∧ St W w' I (OL r ab 0 0 a0 a1 (.string ⟨#[]⟩) (.slice none 0 0) ++ F) := by
  have h1 := h.alloc (.cells #[.string ⟨#[]⟩, .slice none 0 0] 41)
  have h2 : St W (w.alloc (.cells #[.string ⟨#[]⟩, .slice none 0 0] 41)) I (OL r ab 1 1 a0 a1 (.string s) (.slice A n c) ++ ((w.heap.size, .cells #[.string ⟨#[]⟩, .slice none 0 0] 41 (0, 0)) :: F)) := St.swap (A := [_]) h1
  have H2 := Lib.hid h2
  clear h h1 h2
  go_enter Try.func22, Try.ntmps22
  go_wp2_with fail
  refine (opeek1 s A n c H2.out).mono ?_
  rintro e w2 ⟨rfl, h2⟩
  clear H2
  have h3 := (h2.alloc (.cells #[.string s, .slice A n c] 41)).alloc (.cells #[.string ⟨#[]⟩, .slice none 0 0] 41)
  rw [World.size_alloc] at h3
  have H3 := Lib.hid h3
  clear h2 h3
  go_wp2_with fail
  have h3 := H3.out
  clear H3
  generalize (w2.alloc (.cells #[.string s, .slice A n c] 41)).alloc (.cells #[.string ⟨#[]⟩, .slice none 0 0] 41) = w5 at *
  generalize w2.heap.size = b4 at *
  have d0 : w5.cell? ⟨b4 + 1, 0, none⟩ = some (.string ⟨#[]⟩) := h3.cell (g := b4 + 1) (cs := #[.string ⟨#[]⟩, .slice none 0 0]) (t := 41) (fr := (0, 0)) (by simp) 0
  have d1 : w5.cell? ⟨b4 + 1, 1, none⟩ = some (.slice none 0 0) := h3.cell (g := b4 + 1) (cs := #[.string ⟨#[]⟩, .slice none 0 0]) (t := 41) (fr := (0, 0)) (by simp) 1
  obtain ⟨c0, c1, c2, c3⟩ := OL.c (St.weaken (A := [_, _]) h3)
  have H3 := Lib.hid h3
  clear h3
  refine wp_region_quiet_tail 10 (by kernel_rfl) (by kernel_rfl) ?_
  simp only [List.take_succ_cons, List.take_zero, List.drop_succ_cons, List.drop_zero]
  repeat (go_big_quiet_step (fail))
  refine wpQuiet_nil ?_
  rintro _ ⟨nq, rfl⟩
  clear c0 c1 c2 c3 d0 d1
  have h4 : St W (w5.drewN nq) I ((ab, .cells #[a0, a1, .string s, .slice A n c] 41 (0, 0)) :: ([(b4 + 1, .cells #[.string ⟨#[]⟩, .slice none 0 0] 41 (0, 0)), (b4, .cells #[.string s, .slice A n c] 41 (0, 0)), (r, .cells #[.slice (some ⟨ab, 0, none⟩) 2 2, .int .i64 1, .int .i64 1, .bool false] 87 (0, 0))] ++ ((w.heap.size, .cells #[.string ⟨#[]⟩, .slice none 0 0] 41 (0, 0)) :: F))) :=
    (H3.out.drew nq).perm (List.perm_middle (l₁ := [_, _, _]))
  have H4 := Lib.hid h4
  clear h4 H3
  go_wp2_with (with_reducible refine wpList_store_st rfl 41 (.tmp 22) (.tmp 21) rfl (g := ab) (off := 2) #[.string ⟨#[]⟩, .slice none 0 0] rfl rfl H4.out (by simp) (by kernel_rfl) (by simp [Value.oneCell']) ?_; intro w9 h9; refine Hid.out ?_)
  refine Lib.hid ?_
  clear H4
  have h9' : St W w9 I (OL r ab 1 1 a0 a1 (.string ⟨#[]⟩) (.slice none 0 0) ++ ((b4, .cells #[.string s, .slice A n c] 41 (0, 0)) :: (w.heap.size, .cells #[.string ⟨#[]⟩, .slice none 0 0] 41 (0, 0)) :: F)) := by
    refine St.weaken (A := [(b4 + 1, .cells #[.string ⟨#[]⟩, .slice none 0 0] 41 (0, 0))]) (h9.perm ?_)
    unfold OL
    refine (List.perm_middle (l₁ := [_, _, _])).symm.trans ?_
    simp only [List.cons_append, List.nil_append]
    refine List.Perm.cons _ ?_
    refine (List.Perm.swap _ _ _).trans (List.Perm.cons _ ?_)
    exact List.Perm.swap _ _ _
  clear h9
  obtain ⟨c0, c1, c2, c3⟩ := OL.c h9'
  have f1 := OL.f h9' 1
  have f2 := OL.f h9' 2
  have hset : ∀ m, St W (((w9.drewN m).setCell ⟨r, 1, none⟩ (.int .i64 0)).setCell ⟨r, 2, none⟩ (.int .i64 0)) I (OL r ab 0 0 a0 a1 (.string ⟨#[]⟩) (.slice none 0 0) ++ ((b4, .cells #[.string s, .slice A n c] 41 (0, 0)) :: (w.heap.size, .cells #[.string ⟨#[]⟩, .slice none 0 0] 41 (0, 0)) :: F)) := fun m =>
    St.set (A := []) (St.set (A := []) (h9'.drew m) 1 (.int .i64 0)) 2 (.int .i64 0)
  have HS := Lib.hid hset
  clear hset h9'
  go_wp2_with fail
  refine (oplace (first := 1) (ab := ab) _ 1 0 (by omega) (by omega) (by omega) (by omega) (by decide) c0 c1).mono ?_
  rintro e w10 ⟨rfl, m10, rfl⟩
  have h10 := HS.out m10
  have h11 := h10.perm (L' := (w.heap.size, .cells #[.string ⟨#[]⟩, .slice none 0 0] 41 (0, 0)) :: (OL r ab 0 0 a0 a1 (.string ⟨#[]⟩) (.slice none 0 0) ++ ((b4, .cells #[.string s, .slice A n c] 41 (0, 0)) :: F))) (by
    unfold OL
    exact List.perm_middle (l₁ := [_, _, _]))
  have H10 := Lib.hid h10
  have H11 := Lib.hid h11
  clear HS h10 h11
  go_wp2_with (first
    | (with_reducible refine wpList_load_st rfl 41 (.tmp 4) rfl (g := b4) (off := 0) rfl H10.out (cs := #[.string s, .slice A n c]) (t := 41) (fr := (0, 0)) (by simp [OL]) #[.string s, .slice A n c] (fun j _ => by rw [Nat.zero_add]) _ Try.underlying41 rfl (by kernel_rfl) ?_)
    | (with_reducible refine wpList_store_st rfl 41 (.tmp 2) (.tmp 35) rfl (g := w.heap.size) (off := 0) #[.string s, .slice A n c] rfl rfl H11.out (by simp) (by kernel_rfl) (by simp [Value.oneCell']) ?_; intro w12 h12; refine Hid.out ?_))
  refine Lib.hid ?_
  clear H10 H11
  have h13 : St W w12 I ((w.heap.size, .cells #[.string s, .slice A n c] 41 (0, 0)) :: (OL r ab 0 0 a0 a1 (.string ⟨#[]⟩) (.slice none 0 0) ++ ((b4, .cells #[.string s, .slice A n c] 41 (0, 0)) :: F))) := h12
  clear h12
  go_wp2_with fail
  refine bodyPost_ret (results_row_tmp rfl _ w12 w.heap.size 41 #[.string s, .slice A n c] (0, 0) _ (.bool true) rfl rfl (h13.own (w.heap.size, .cells #[.string s, .slice A n c] 41 (0, 0)) (by simp)) Try.underlying41 (by kernel_rfl) (by kernel_rfl)) rfl ?_
  exact ⟨rfl, St.mid (A := OL r ab 0 0 a0 a1 (.string ⟨#[]⟩) (.slice none 0 0)) (B := [_]) (St.weaken (A := [_]) h13)⟩

set_option maxRecDepth 10000 in
set_option maxHeartbeats 1000000 in
theorem opeekN (h : St W w I (OL r ab 0 0 a0 a1 b0 b1 ++ F)) :
    Calls Try.prog 49 #[.pointer (some ⟨r, 0, none⟩)] w fun e w' => e = .returned (.tuple #[.agg #[.string ⟨#[]⟩, .slice none 0 0], .bool false]) ∧ St W w' I (OL r ab 0 0 a0 a1 b0 b1 ++ F) := by
  have h1 := (h.alloc (.cells #[.string ⟨#[]⟩, .slice none 0 0] 41)).alloc (.cells #[.string ⟨#[]⟩, .slice none 0 0] 41)
  rw [World.size_alloc] at h1
  have h2 := h1.perm (List.Perm.swap _ _ _)
  obtain ⟨c0, c1, c2, c3⟩ := OL.c (St.weaken (A := [_, _]) h1)
  have H1 := Lib.hid h1
  have H2 := Lib.hid h2
  clear h1 h2 h
  go_enter Try.func49, Try.ntmps49
  go_wp2_with (first
    | (with_reducible refine wpList_load_st rfl 41 (.tmp 4) rfl (g := w.heap.size + 1) (off := 0) rfl H1.out (cs := #[.string ⟨#[]⟩, .slice none 0 0]) (t := 41) (fr := (0, 0)) (by simp) #[.string ⟨#[]⟩, .slice none 0 0] (fun j _ => by rw [Nat.zero_add]) _ Try.underlying41 rfl (by kernel_rfl) ?_)
    | (with_reducible refine wpList_store_st rfl 41 (.tmp 2) (.tmp 10) rfl (g := w.heap.size) (off := 0) #[.string ⟨#[]⟩, .slice none 0 0] rfl rfl H2.out (by simp) (by kernel_rfl) (by simp [Value.oneCell']) ?_; intro w12 h12; refine Hid.out ?_))
  refine Lib.hid ?_
  have h13 : St W w12 I ((w.heap.size, .cells #[.string ⟨#[]⟩, .slice none 0 0] 41 (0, 0)) :: (w.heap.size + 1, .cells #[.string ⟨#[]⟩, .slice none 0 0] 41 (0, 0)) :: (OL r ab 0 0 a0 a1 b0 b1 ++ F)) := h12
  clear h12 H1 H2
  go_wp2_with fail
  refine bodyPost_ret (results_row_tmp rfl _ w12 w.heap.size 41 #[.string ⟨#[]⟩, .slice none 0 0] (0, 0) _ (.bool false) rfl rfl (h13.own (w.heap.size, .cells #[.string ⟨#[]⟩, .slice none 0 0] 41 (0, 0)) (by simp)) Try.underlying41 (by kernel_rfl) (by kernel_rfl)) rfl ?_
  exact ⟨rfl, St.weaken (A := [_, _]) h13⟩

set_option maxRecDepth 10000 in
set_option maxHeartbeats 1000000 in
theorem orecvN (h : St W w I (OL r ab 0 0 a0 a1 b0 b1 ++ F)) :
    Calls Try.prog 22 #[.pointer (some ⟨r, 0, none⟩)] w fun e w' => e = .returned (.tuple #[.agg #[.string ⟨#[]⟩, .slice none 0 0], .bool false]) ∧ St W w' I (OL r ab 0 0 a0 a1 b0 b1 ++ F) := by
  have h1 := h.alloc (.cells #[.string ⟨#[]⟩, .slice none 0 0] 41)
  have h2 : St W (w.alloc (.cells #[.string ⟨#[]⟩, .slice none 0 0] 41)) I (OL r ab 0 0 a0 a1 b0 b1 ++ ((w.heap.size, .cells #[.string ⟨#[]⟩, .slice none 0 0] 41 (0, 0)) :: F)) := St.swap (A := [_]) h1
  have H2 := Lib.hid h2
  clear h h1 h2
  go_enter Try.func22, Try.ntmps22
  go_wp2_with fail
  refine (opeekN H2.out).mono ?_
  rintro e w2 ⟨rfl, h2⟩
  clear H2
  have h3 := h2.alloc (.cells #[.string ⟨#[]⟩, .slice none 0 0] 41)
  have h4 := h3.perm (L' := (w.heap.size, .cells #[.string ⟨#[]⟩, .slice none 0 0] 41 (0, 0)) :: (w2.heap.size, .cells #[.string ⟨#[]⟩, .slice none 0 0] 41 (0, 0)) :: (OL r ab 0 0 a0 a1 b0 b1 ++ F)) (by
    unfold OL
    exact List.perm_middle (l₁ := [_, _, _]))
  have H3 := Lib.hid h3
  have H4 := Lib.hid h4
  clear h2 h3 h4
  go_wp2_with (first
    | (with_reducible refine wpList_load_st rfl 41 (.tmp 4) rfl (g := w2.heap.size) (off := 0) rfl H3.out (cs := #[.string ⟨#[]⟩, .slice none 0 0]) (t := 41) (fr := (0, 0)) (by simp) #[.string ⟨#[]⟩, .slice none 0 0] (fun j _ => by rw [Nat.zero_add]) _ Try.underlying41 rfl (by kernel_rfl) ?_)
    | (with_reducible refine wpList_store_st rfl 41 (.tmp 2) (.tmp 35) rfl (g := w.heap.size) (off := 0) #[.string ⟨#[]⟩, .slice none 0 0] rfl rfl H4.out (by simp) (by kernel_rfl) (by simp [Value.oneCell']) ?_; intro w12 h12; refine Hid.out ?_))
  refine Lib.hid ?_
  have h13 : St W w12 I ((w.heap.size, .cells #[.string ⟨#[]⟩, .slice none 0 0] 41 (0, 0)) :: (w2.heap.size, .cells #[.string ⟨#[]⟩, .slice none 0 0] 41 (0, 0)) :: (OL r ab 0 0 a0 a1 b0 b1 ++ F)) := h12
  clear h12 H3 H4
  go_wp2_with fail
  refine bodyPost_ret (results_row_tmp rfl _ w12 w.heap.size 41 #[.string ⟨#[]⟩, .slice none 0 0] (0, 0) _ (.bool false) rfl rfl (h13.own (w.heap.size, .cells #[.string ⟨#[]⟩, .slice none 0 0] 41 (0, 0)) (by simp)) Try.underlying41 (by kernel_rfl) (by kernel_rfl)) rfl ?_
  exact ⟨rfl, St.weaken (A := [_, _]) h13⟩
end
end
end Go.Proofs.Ytlhplndngfffoaa
