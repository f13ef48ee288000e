/- net: the stand-in's own state; its methods. -/
import Derived.Test.YtjmdhljhlcbneaaDoorNetA
import Derived.Test.YtjmdhljhlcbneaaDoorQtail
import Derived.Laws.Rows
namespace Go.Proofs.YtjmdhljhlcbneaaDoor
set_option linter.unusedVariables false
set_option linter.unusedSimpArgs false
open Go.RowKit

theorem results_row {P : Program} {fn : Func} {p : Tmp} {ty : TypeId} (h : fn.results = #[.cell p ty]) (tmps : Array Value) (w : World) (g : Nat) (t : TypeId) (cs : Array Value) (fr : Nat × Nat) (d : TypeDesc)
    (hp : tmps.getD p undef = .pointer (some ⟨g, 0, none⟩)) (hg : w.heap[g]? = some (.cells cs t fr))
    (hu : P.underlying ty = some d) (hd : (match d with | .struct _ | .array _ _ => true | _ => false) = true) (hi : (P.info? ty).map (·.size) = some cs.size) :
    (results fn tmps).run P w = .ok (.agg cs) w := by
  have hp' : tmps[p]?.getD undef = .pointer (some ⟨g, 0, none⟩) := by simpa using hp
  simp [results, h, hp', asAddr, run_loadVar_row w g t ty cs fr d hg hu hd hi]

theorem heap_setalloc (w : World) (a : Addr) (v : Value) (o o2 : Obj) : (((w.setCell a v).alloc o).alloc o2).heap[w.heap.size]? = some o := by
  have hz : (w.setCell a v).heap.size = w.heap.size := by simp [World.setCell]
  have h := heap_alloc_new (w.setCell a v) o
  rw [hz] at h
  rw [Below.heap_alloc _ _ _ (by simp [hz]), h]

def ev (e : ByteArray × Part) : ByteArray × Value := (e.1, e.2.val)
def lookP (es : List (ByteArray × Part)) (k : ByteArray) : Option Part :=
  match es with
  | [] => none
  | (k', p) :: l => if k = k' then some p else lookP l k
theorem look_ev (es : List (ByteArray × Part)) (k : ByteArray) : look (es.map ev) k = (lookP es k).map Part.val := by
  induction es with
  | nil => rfl
  | cons e es ih =>
    obtain ⟨k', p⟩ := e
    simp only [List.map_cons, ev, look, lookP]
    split
    · rfl
    · exact ih
theorem lookP_mem {es : List (ByteArray × Part)} {k : ByteArray} {p : Part} (h : lookP es k = some p) : ∃ k', (k', p) ∈ es := by
  induction es with
  | nil => cases h
  | cons e es ih =>
    obtain ⟨k', q⟩ := e
    simp only [lookP] at h
    split at h
    · cases h; exact ⟨k', by simp⟩
    · obtain ⟨k2, h2⟩ := ih h; exact ⟨k2, by simp [h2]⟩
/-- All offers' bytes stand in the memory that turns no more. -/
def Offs (W : World) (I : Nat → Option Obj) (es : List (ByteArray × Part)) : Prop := ∀ e ∈ es, POk e.2 W I

def netL (g m : Nat) (es : List (ByteArray × Part)) (fA : Option Addr) (fn fc cnt : Nat) (Lf : List (Nat × Obj)) : List (Nat × Obj) :=
  (g, .cells #[.map (some m), .slice fA fn fc, .int .i64 cnt] 57 (0, 0)) :: (m, mapObj (es.map ev)) :: Lf
structure NetF (fs : List Fault) where
  A : Option Addr
  c : Nat
  L : List (Nat × Obj)
  row : Row 36 3 (.slice A fs.length c) fs.length (fall fs) L
def NetF.L' {fs : List Fault} (φ : NetF fs) (g m : Nat) (es : List (ByteArray × Part)) (cnt : Nat) : List (Nat × Obj) := netL g m es φ.A fs.length φ.c cnt φ.L
/-- The stand-in: its offers, what faults are to come, how often was fetched. -/
def NetSt (W w : World) (J : Nat → Option Obj) (g m : Nat) (es : List (ByteArray × Part)) (fs : List Fault) (cnt : Nat) (F : List (Nat × Obj)) : Prop :=
  ∃ φ : NetF fs, St W w J (φ.L' g m es cnt ++ F)

section
variable {W w : World} {J : Nat → Option Obj} {g m : Nat} {es : List (ByteArray × Part)} {fs : List Fault} {cnt : Nat} {F : List (Nat × Obj)}
theorem net_cells (φ : NetF fs) {L : List (Nat × Obj)} (h : St W w J (φ.L' g m es cnt ++ L)) : w.cell? ⟨g, 0, none⟩ = some (.map (some m)) ∧ w.cell? ⟨g, 1, none⟩ = some (.slice φ.A fs.length φ.c) ∧ w.cell? ⟨g, 2, none⟩ = some (.int .i64 cnt) ∧ w.heap[m]? = some (mapObj (es.map ev)) ∧ w.frozen? ⟨g, 1, none⟩ = false ∧ w.frozen? ⟨g, 2, none⟩ = false :=
  ⟨h.cell (g := g) (cs := #[.map (some m), .slice φ.A fs.length φ.c, .int .i64 cnt]) (t := 57) (fr := (0, 0)) (by simp [NetF.L', netL]) 0, h.cell (g := g) (cs := #[.map (some m), .slice φ.A fs.length φ.c, .int .i64 cnt]) (t := 57) (fr := (0, 0)) (by simp [NetF.L', netL]) 1,
   h.cell (g := g) (cs := #[.map (some m), .slice φ.A fs.length φ.c, .int .i64 cnt]) (t := 57) (fr := (0, 0)) (by simp [NetF.L', netL]) 2, h.own (m, mapObj (es.map ev)) (by simp [NetF.L', netL]),
   h.frozen (g := g) (cs := #[.map (some m), .slice φ.A fs.length φ.c, .int .i64 cnt]) (t := 57) (by simp [NetF.L', netL]) 1, h.frozen (g := g) (cs := #[.map (some m), .slice φ.A fs.length φ.c, .int .i64 cnt]) (t := 57) (by simp [NetF.L', netL]) 2⟩

set_option maxRecDepth 100000 in
set_option maxHeartbeats 1000000 in
theorem net_faults (h : NetSt W w J g m es fs cnt F) : Calls Tryd.prog 10 #[.pointer (some ⟨g, 0, none⟩)] w fun e w' => e = .returned (.int .i64 fs.length) ∧ w = w' := by
  obtain ⟨φ, h⟩ := h
  obtain ⟨c0, c1, c2, _, _, _⟩ := net_cells φ h
  go_enter Tryd.func10, Tryd.ntmps10
  go_wp2_with fail
  go_ret
  exact ⟨rfl, rfl⟩
set_option maxRecDepth 100000 in
set_option maxHeartbeats 1000000 in
theorem net_fetches (h : NetSt W w J g m es fs cnt F) : Calls Tryd.prog 11 #[.pointer (some ⟨g, 0, none⟩)] w fun e w' => e = .returned (.int .i64 cnt) ∧ w = w' := by
  obtain ⟨φ, h⟩ := h
  obtain ⟨c0, c1, c2, _, _, _⟩ := net_cells φ h
  go_enter Tryd.func11, Tryd.ntmps11
  go_wp2_with fail
  go_ret
  exact ⟨rfl, rfl⟩

set_option maxRecDepth 100000 in
set_option maxHeartbeats 2000000 in
theorem net_has (t : TB W J) (s : ByteArray) (hs : s.size ≤ 35184372088830) (h : NetSt W w J g m es fs cnt F) :
    Calls Tryd.prog 13 #[.pointer (some ⟨g, 0, none⟩), .string s] w fun e w' => e = .returned (.bool (lookP es ⟨(foldOf s).toArray⟩).isSome) ∧ NetSt W w' J g m es fs cnt F := by
  obtain ⟨φ, h⟩ := h
  have c0 : ∀ x : SW W J (φ.L' g m es cnt ++ F), x.w.cell? ⟨g, 0, none⟩ = some (.map (some m)) := fun x => (net_cells φ x.ok).1
  have hlk : ∀ x : SW W J (φ.L' g m es cnt ++ F), (Instr.lookup 54 (.map (some m)) (.string ⟨(foldOf s).toArray⟩) true).run Tryd.prog x.w = .ok (.tuple #[((lookP es ⟨(foldOf s).toArray⟩).map Part.val).getD (.slice none 0 0), .bool (lookP es ⟨(foldOf s).toArray⟩).isSome]) x.w := fun x => by
    rw [run_lookup_map Tryd.underlying54 Tryd.underlying9 (net_cells φ x.ok).2.2.2.1 (Tryd.zeroValue22 x.w), look_ev]
    simp
  have hF := fun (x : SW W J (φ.L' g m es cnt ++ F)) => fold_any t s hs x.ok
  generalize foldOf s = fo at *
  generalize lookP es ⟨fo.toArray⟩ = lp at *
  have HF := Lib.hid hF; have H := Lib.hid h
  have hne : Nonempty (SW W J (φ.L' g m es cnt ++ F)) := ⟨⟨_, h⟩⟩
  clear hF h
  go_enter Tryd.func13, Tryd.ntmps13
  go_wp2_with fail
  refine wp_region_sw _ H.out (by kernel_rfl) (by kernel_rfl) ?_
  repeat (go_big_quiet_step ((go_at_call 20; (with_reducible refine (HF.out _).mono ?_); exact fun e w'' ⟨h1, h2⟩ => ⟨h1, ⟨_, h2⟩, rfl⟩)))
  refine wpQuiet_nil ?_
  rintro _ ⟨x, rfl⟩
  have hfin := x.ok
  have HFIN := Lib.hid hfin
  clear hfin c0 hlk HF H hne
  go_wp2_with fail
  go_ret
  exact ⟨rfl, φ, HFIN.out⟩

set_option maxRecDepth 100000 in
set_option maxHeartbeats 2000000 in
theorem net_size (t : TB W J) (ho : Offs W J es) (s : ByteArray) (hs : s.size ≤ 35184372088830) (h : NetSt W w J g m es fs cnt F) :
    Calls Tryd.prog 14 #[.pointer (some ⟨g, 0, none⟩), .string s] w fun e w' => e = .returned (.int .i64 (((lookP es ⟨(foldOf s).toArray⟩).map fun p => p.bs.length).getD 0 : Nat)) ∧ NetSt W w' J g m es fs cnt F := by
  obtain ⟨φ, h⟩ := h
  have c0 : ∀ x : SW W J (φ.L' g m es cnt ++ F), x.w.cell? ⟨g, 0, none⟩ = some (.map (some m)) := fun x => (net_cells φ x.ok).1
  have hlk : ∀ x : SW W J (φ.L' g m es cnt ++ F), (Instr.lookup 54 (.map (some m)) (.string ⟨(foldOf s).toArray⟩) false).run Tryd.prog x.w = .ok (((lookP es ⟨(foldOf s).toArray⟩).map Part.val).getD (.slice none 0 0)) x.w := fun x => by
    rw [run_lookup_map Tryd.underlying54 Tryd.underlying9 (net_cells φ x.ok).2.2.2.1 (Tryd.zeroValue22 x.w), look_ev]
    simp
  have hF := fun (x : SW W J (φ.L' g m es cnt ++ F)) => fold_any t s hs x.ok
  generalize foldOf s = fo at *
  obtain ⟨A1, n1, c1, hv, hn⟩ : ∃ A1 n1 c1, ((lookP es ⟨fo.toArray⟩).map Part.val).getD (.slice none 0 0) = .slice A1 n1 c1 ∧ ((lookP es ⟨fo.toArray⟩).map fun p => p.bs.length).getD 0 = n1 := by
    cases lookP es ⟨fo.toArray⟩ with
    | none => exact ⟨_, _, _, rfl, rfl⟩
    | some p => exact ⟨_, _, _, rfl, rfl⟩
  rw [hv] at hlk
  rw [hn]
  have HF := Lib.hid hF; have H := Lib.hid h
  have hne : Nonempty (SW W J (φ.L' g m es cnt ++ F)) := ⟨⟨_, h⟩⟩
  clear hF h hv hn
  go_enter Tryd.func14, Tryd.ntmps14
  go_wp2_with fail
  refine wp_region_sw _ H.out (by kernel_rfl) (by kernel_rfl) ?_
  repeat (go_big_quiet_step ((go_at_call 20; (with_reducible refine (HF.out _).mono ?_); exact fun e w'' ⟨h1, h2⟩ => ⟨h1, ⟨_, h2⟩, rfl⟩)))
  refine wpQuiet_nil ?_
  rintro _ ⟨x, rfl⟩
  have hfin := x.ok
  have HFIN := Lib.hid hfin
  clear hfin c0 hlk HF H hne
  go_wp2_with fail
  go_ret
  exact ⟨rfl, φ, HFIN.out⟩

/-- What follows the first fault. -/
def subF (A : Option Addr) (c : Nat) : Option Addr := if c = 1 then A else A.map (·.add 3)
theorem run_slice_tail3 {P : Program} {t e : TypeId} (ht : P.underlying t = some (.slice e)) (hs : ∀ w, (sizeOf e).run P w = .ok 3 w) (A : Option Addr) (n c : Nat) (hn : 1 ≤ n) (hc : n ≤ c) (w : World) :
    (Instr.slice t (.slice A n c) (some (.int .i64 1)) none none).run P w = .ok (.slice (subF A c) (n - 1) (c - 1)) w := by
  have h1 : (1 : Int) ≤ n := by omega
  simp [Instr.slice, run_underlying ht, Instr.sliceBounds, Instr.sliceBound, asIntOf, h1, hs, subF]
theorem row_tail3 {E : TypeId} {A : Option Addr} {n c : Nat} {xs ys : List Value} {L : List (Nat × Obj)} (hx : xs.length = 3) (h : Row E 3 (.slice A (n + 1) c) (n + 1) (xs ++ ys) L) : Row E 3 (.slice (subF A c) n (c - 1)) n ys L := by
  obtain ⟨hl, ⟨_, h0, _⟩ | ⟨g, off, cap, cur, hv, rfl, hnc, hcm, hsz, hxs⟩⟩ := h
  · omega
  injection hv with h1 _ h2
  subst h1; subst h2
  refine ⟨by simp at hl; omega, .inr ?_⟩
  by_cases hc : c = 1
  · have hn : n = 0 := by omega
    subst hn
    refine ⟨g, off, 0, cur, by simp [subF, hc], rfl, by omega, by omega, by omega, ?_⟩
    have : ys.length = 0 := by simp at hl; omega
    rw [List.eq_nil_of_length_eq_zero this]; simp
  · refine ⟨g, off + 3, c - 1, cur, by simp [subF, hc, Addr.add], rfl, by omega, by omega, by omega, ?_⟩
    have h3 : ((cur.toList.drop off).take ((n + 1) * 3)).drop 3 = ys := by rw [hxs, List.drop_append_of_le_length (by omega), List.drop_of_length_le (by omega)]; rfl
    rw [← h3, List.drop_take, List.drop_drop]
    congr 1
    omega

set_option maxRecDepth 100000 in
set_option maxHeartbeats 2000000 in
theorem net_next_none (h : NetSt W w J g m es [] cnt F) :
    Calls Tryd.prog 23 #[.pointer (some ⟨g, 0, none⟩)] w fun e w' => e = .returned (.agg #[.int .i64 0, .int .i64 0, .int .u8 0]) ∧ NetSt W w' J g m es [] cnt F := by
  obtain ⟨φ, h⟩ := h
  have h2 := h.alloc (.cells #[.int .i64 0, .int .i64 0, .int .u8 0] 36)
  have h3 := St.weaken (A := [_]) h2
  obtain ⟨c0, c1, c2, _, f1, _⟩ := net_cells φ h3
  have c1 : (w.alloc (.cells #[.int .i64 0, .int .i64 0, .int .u8 0] 36)).cell? ⟨g, 1, none⟩ = some (.slice φ.A 0 φ.c) := c1
  have H2 := Lib.hid h3
  clear h h2 h3
  go_enter Tryd.func23, Tryd.ntmps23
  go_wp2_with fail
  refine bodyPost_ret (results_row rfl _ _ w.heap.size 36 #[.int .i64 0, .int .i64 0, .int .u8 0] (0, 0) _ rfl (heap_alloc_new _ _) Tryd.underlying36 (by kernel_rfl) (by kernel_rfl)) rfl ?_
  exact ⟨rfl, φ, H2.out⟩

set_option maxRecDepth 100000 in
set_option maxHeartbeats 2000000 in
theorem net_next (f : Fault) (rest : List Fault) (hl : rest.length ≤ 1000000) (h : NetSt W w J g m es (f :: rest) cnt F) :
    Calls Tryd.prog 23 #[.pointer (some ⟨g, 0, none⟩)] w fun e w' => e = .returned (.agg #[.int .i64 f.kind, .int .i64 f.at_, .int .u8 (f.v.toNat : Int)]) ∧ NetSt W w' J g m es rest cnt F := by
  obtain ⟨φ, h⟩ := h
  have hrow := φ.row
  obtain ⟨gf, off, cap, cur, hv, hL, k0⟩ := hrow.cells (j := 0) (u := .int .i64 f.kind) rfl
  obtain ⟨gf1, off1, cap1, cur1, hv1, hL1, k1⟩ := hrow.cells (j := 1) (u := .int .i64 f.at_) rfl
  obtain ⟨gf2, off2, cap2, cur2, hv2, hL2, k2⟩ := hrow.cells (j := 2) (u := .int .u8 (f.v.toNat : Int)) rfl
  rw [hL] at hL1 hL2
  rw [hv] at hv1 hv2
  injection hv1 with q1 _ qc1; injection hv2 with q2 _ qc2
  clear qc1 qc2
  injection q1 with q1; injection q2 with q2
  injection q1 with q1a q1b _; injection q2 with q2a q2b _
  subst q1a; subst q1b; subst q2a; subst q2b
  simp only [List.cons.injEq, Prod.mk.injEq, Obj.cells.injEq, and_true, true_and] at hL1 hL2
  obtain ⟨rfl, _⟩ := hL1
  obtain ⟨rfl, _⟩ := hL2
  injection hv with hA _ hc
  have htail := row_tail3 (xs := fcells f) (ys := fall rest) rfl (by simpa [fall] using hrow)
  have hnc : rest.length + 1 ≤ φ.c := by
    obtain ⟨_, ⟨_, h0, _⟩ | ⟨_, _, _, _, hv3, _, hnc, _⟩⟩ := id hrow
    · simp at h0
    · injection hv3 with _ _ h3; rw [h3]; simpa using hnc
  have hcl : ∀ b o v, w.cell? ⟨b, o, none⟩ = some v → (∀ o1, (w.alloc o1).cell? ⟨b, o, none⟩ = some v) ∧ (∀ o1 o2, ((w.alloc o1).alloc o2).cell? ⟨b, o, none⟩ = some v) := fun b o v hv => ⟨fun _ => cell_old hv, fun _ _ => cell_old (cell_old hv)⟩
  obtain ⟨_, c1, _, _, f1, _⟩ := net_cells φ h
  rw [hA] at c1
  have hcg := hcl _ _ _ c1
  have hgl : (gf, Obj.cells cur 36 (0, 0)) ∈ φ.L' g m es cnt ++ F := by simp [NetF.L', netL, hL]
  have kk0 := hcl gf off (.int .i64 f.kind) (by rw [h.cell hgl]; simpa using k0)
  have kk1 := hcl gf (off + 1) (.int .i64 f.at_) (by rw [h.cell hgl]; simpa using k1)
  have kk2 := hcl gf (off + 2) (.int .u8 (f.v.toNat : Int)) (by rw [h.cell hgl]; simpa using k2)
  have ff1 : ∀ o1 o2, ((w.alloc o1).alloc o2).frozen? ⟨g, 1, none⟩ = false := fun o1 o2 => ((h.alloc o1).alloc o2).frozen (g := g) (cs := #[.map (some m), .slice φ.A (f :: rest).length φ.c, .int .i64 cnt]) (t := 57) (by simp [NetF.L', netL]) 1
  have hset := St.set (A := []) h 1 (.slice (subF (some ⟨gf, off, none⟩) φ.c) rest.length (φ.c - 1))
  rw [hA] at htail
  have hfin : NetSt W (w.setCell ⟨g, 1, none⟩ (.slice (subF (some ⟨gf, off, none⟩) φ.c) rest.length (φ.c - 1))) J g m es rest cnt F := ⟨⟨_, _, φ.L, htail⟩, hset⟩
  obtain ⟨ψ, hfin⟩ := hfin
  have hst := run_slice_tail3 (P := Tryd.prog) Tryd.underlying33 (fun w => by simp [Tryd.sizeOf36 w]) (some ⟨gf, off, none⟩) (rest.length + 1) φ.c (by omega) hnc
  rw [Nat.add_sub_cancel] at hst
  have hpos : ¬ ((rest.length : Int) + 1 = 0) := by omega
  have HFIN := Lib.hid hfin
  obtain ⟨cg1, cg2⟩ := hcg
  obtain ⟨p01, p02⟩ := kk0; obtain ⟨p11, p12⟩ := kk1; obtain ⟨p21, p22⟩ := kk2
  simp only [List.length_cons] at cg1 cg2
  have hglt : g < w.heap.size := h.lt (p := (g, .cells #[.map (some m), .slice φ.A (f :: rest).length φ.c, .int .i64 cnt] 57 (0, 0))) (by simp [NetF.L', netL])
  have hgn0 : g ≠ w.heap.size := by omega
  have hgn1 : g ≠ w.heap.size + 1 := by omega
  clear hc
  generalize φ.c = cc at *
  clear hset hfin htail hrow h hA hL k0 k1 k2 hcl hgl c1 f1 hst
  by_cases hc1 : cc = 1
  · subst hc1
    obtain rfl : rest = [] := List.eq_nil_of_length_eq_zero (by omega)
    simp only [subF, if_true] at HFIN
    go_enter Tryd.func23, Tryd.ntmps23
    go_wp2_with fail
    refine bodyPost_ret (results_row rfl _ _ w.heap.size 36 #[.int .i64 f.kind, .int .i64 f.at_, .int .u8 (f.v.toNat : Int)] (0, 0) _ rfl ?hh Tryd.underlying36 (by kernel_rfl) (by kernel_rfl)) rfl ?_
    case hh => exact heap_setalloc _ _ _ _ _
    exact ⟨rfl, ψ, (HFIN.out.alloc_ _).alloc_ _⟩
  · simp only [subF, if_neg hc1] at HFIN
    go_enter Tryd.func23, Tryd.ntmps23
    go_wp2_with fail
    refine bodyPost_ret (results_row rfl _ _ w.heap.size 36 #[.int .i64 f.kind, .int .i64 f.at_, .int .u8 (f.v.toNat : Int)] (0, 0) _ rfl ?hh Tryd.underlying36 (by kernel_rfl) (by kernel_rfl)) rfl ?_
    case hh => exact heap_setalloc _ _ _ _ _
    exact ⟨rfl, ψ, (HFIN.out.alloc_ _).alloc_ _⟩
end
end Go.Proofs.YtjmdhljhlcbneaaDoor
