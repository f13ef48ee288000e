/- net: faults, pieces, copies. net: the stand-in's own state; its methods. -/
import Derived.Test.YtnhlpiomfljlcaaDoorGlyBC
import Derived.Test.YtnhlpiomfljlcaaDoorMapS
import Derived.Test.YtnhlpiomfljlcaaDoorParts
import Derived.Laws.Cover3
import Derived.Test.YtnhlpiomfljlcaaDoorQtail
import Derived.Laws.Rows
namespace Go.Proofs.YtnhlpiomfljlcaaDoor
section
set_option linter.unusedVariables false
set_option linter.unusedSimpArgs false
open Go.RowKit

structure Fault where
  kind : Int
  at_ : Int
  v : UInt8
def fcells (f : Fault) : List Value := [.int .i64 f.kind, .int .i64 f.at_, .int .u8 (f.v.toNat : Int)]
def fall (fs : List Fault) : List Value := fs.flatMap fcells
theorem fall_len (fs : List Fault) : (fall fs).length = fs.length * 3 := by
  induction fs with
  | nil => rfl
  | cons f fs ih => simp only [fall, List.flatMap_cons, List.length_append, List.length_cons] at *; rw [ih]; simp [fcells]; omega
theorem fall_one (fs : List Fault) : ∀ u ∈ fall fs, u.oneCell' = true := by
  intro u hu
  obtain ⟨f, _, hf⟩ := List.mem_flatMap.1 hu
  simp [fcells] at hf
  rcases hf with rfl | rfl | rfl <;> rfl
/-- Faults that stand in the memory that turns no more. -/
def FIn (A : Option Addr) (fs : List Fault) (W : World) (I : Nat → Option Obj) : Prop := ∀ w L, St W w I L → Src w 3 A fs.length (fall fs)

theorem run_eql_slice_nil' {P : Program} (t : TypeId) {e : TypeId} (h : P.underlying t = some (.slice e)) (a : Option Addr) (l c : Nat) (w : World) : (binOp .eql t (.slice a l c) (.slice none 0 0)).run P w = .ok (.bool a.isNone) w := by
  simp [binOp, Sem.run_bind, run_equal_slice_nil w t e a l c h, Result.andThen]
theorem Part.In.nil_of_none {p : Part} {W w : World} {I : Nat → Option Obj} {L : List (Nat × Obj)} (h : p.In W I) (hst : St W w I L) (hA : p.A = none) : p.bs = [] := by
  cases hb : p.bs with
  | nil => rfl
  | cons x l =>
    obtain ⟨ad, h1, _⟩ := (h w L hst).2 0 (bval x) (by rw [hb]; rfl)
    rw [hA] at h1; cases h1

/-- Bytes of the call's own. -/
def FreshB (W w : World) (I : Nat → Option Obj) (F : List (Nat × Obj)) (bs : List UInt8) (v : Value) : Prop :=
  ∃ A c L', v = .slice A bs.length c ∧ Row 5 1 (.slice A bs.length c) bs.length (bs.map bval) L' ∧ St W w I (L' ++ F)
theorem FreshB.nil {W w : World} {I : Nat → Option Obj} {F : List (Nat × Obj)} (h : St W w I F) : FreshB W w I F [] (.slice none 0 0) := ⟨none, 0, [], rfl, Row.nil _ _, h⟩

set_option maxRecDepth 100000 in
set_option maxHeartbeats 1000000 in
theorem clone_bytes {W w : World} {I : Nat → Option Obj} {F : List (Nat × Obj)} (p : Part) (hp : p.In W I) (hlen : p.bs.length ≤ 140737488355328) (h : St W w I F) :
    Calls Tryd.prog 33 #[p.val] w fun e w' => ∃ v, e = .returned v ∧ FreshB W w' I F p.bs v := by
  unfold Part.val
  cases hA : p.A with
  | none =>
    have hb := hp.nil_of_none h hA
    rw [hb]
    have H := Lib.hid h
    clear h hp hb hlen
    have hq := fun c => run_eql_slice_nil' (P := Tryd.prog) 27 Tryd.underlying27 none 0 c
    go_enter Tryd.func33, Tryd.ntmps33
    go_wp2_with fail
    go_ret
    exact ⟨_, rfl, FreshB.nil H.out⟩
  | some ad =>
    have h2 := h.alloc (.cells #[] 5)
    have hsrc := hp _ _ h2
    rw [hA] at hsrc
    have hr := Row.empty 5 1 w.heap.size
    have hone : ∀ u ∈ p.bs.map bval, u.oneCell' = true := by intro u hu; obtain ⟨b, _, rfl⟩ := List.mem_map.1 hu; rfl
    have hq := fun l c => run_eql_slice_nil' (P := Tryd.prog) 27 Tryd.underlying27 (some ad) l c
    clear hp h
    go_enter Tryd.func33, Tryd.ntmps33
    go_wp2_with (at_builtin; refine Hid.out ?_)
    refine Lib.hid ?_
    refine wpList_append_row0 (F := F) rfl (.tmp 5) (.tmp 6) 27 rfl 5 (.int .u8 0) 1 1 Tryd.underlying27 (by kernel_rfl) rfl (by omega) rfl hr (by exact h2) rfl (by exact hsrc) hone p.bs.length (by omega) (p.bs.map bval) rfl (by unfold maxLen; omega) (by omega) ?_
    intro A1 c1 w2 L1 hr1 h3 ho
    have H3 := Lib.hid h3; have HR := Lib.hid hr1
    clear h3 hr1 ho h2 hsrc hr hone
    go_wp2_with fail
    go_ret
    exact ⟨_, rfl, _, _, _, rfl, HR.out, H3.out⟩

set_option maxRecDepth 100000 in
set_option maxHeartbeats 1000000 in
theorem clone_faults {W w : World} {I : Nat → Option Obj} {F : List (Nat × Obj)} (A : Option Addr) (c : Nat) (fs : List Fault) (hp : FIn A fs W I) (hlen : fs.length ≤ 1000000) (h : St W w I F) :
    Calls Tryd.prog 30 #[.slice A fs.length c] w fun e w' => ∃ A' c' L', e = .returned (.slice A' fs.length c') ∧ Row 102 3 (.slice A' fs.length c') fs.length (fall fs) L' ∧ St W w' I (L' ++ F) := by
  cases hA : A with
  | none =>
    have hb : fs = [] := by
      cases hb : fs with
      | nil => rfl
      | cons x l =>
        obtain ⟨ad, h1, _⟩ := (hp w F h).2 0 _ (by rw [hb]; rfl)
        rw [hA] at h1; cases h1
    subst hb
    have H := Lib.hid h
    have hq := fun c => run_eql_slice_nil' (P := Tryd.prog) 64 Tryd.underlying64 none 0 c
    clear h hp hlen
    go_enter Tryd.func30, Tryd.ntmps30
    go_wp2_with fail
    go_ret
    exact ⟨none, 0, [], rfl, Row.nil _ _, H.out⟩
  | some ad =>
    have h2 := h.alloc (.cells #[] 102)
    have hsrc := hp _ _ h2
    rw [hA] at hsrc
    have hr := Row.empty 102 3 w.heap.size
    have hone := fall_one fs
    have hq := fun l c => run_eql_slice_nil' (P := Tryd.prog) 64 Tryd.underlying64 (some ad) l c
    clear hp h
    go_enter Tryd.func30, Tryd.ntmps30
    go_wp2_with (at_builtin; refine Hid.out ?_)
    refine Lib.hid ?_
    refine wpList_append_row0 (F := F) rfl (.tmp 5) (.tmp 6) 64 rfl 102 (.agg #[.int .i64 0, .int .i64 0, .int .u8 0]) 3 24 Tryd.underlying64 (by kernel_rfl) rfl (by omega) rfl hr (by exact h2) rfl (by exact hsrc) hone fs.length (by omega) (fall fs) rfl (by unfold maxLen; omega) (by omega) ?_
    intro A1 c1 w2 L1 hr1 h3 ho
    have H3 := Lib.hid h3; have HR := Lib.hid hr1
    clear h3 hr1 ho h2 hsrc hr hone
    go_wp2_with fail
    go_ret
    exact ⟨_, _, _, rfl, HR.out, H3.out⟩

/-- Some bytes from a place on. -/
def piece (bs : List UInt8) (a m : Int) : List UInt8 := if a < 0 ∨ (bs.length : Int) ≤ a ∨ m < 1 then [] else (bs.drop a.toNat).take m.toNat

structure POk (p : Part) (W : World) (I : Nat → Option Obj) : Prop where
  in_ : p.In W I
  le : p.bs.length ≤ p.c
  cap : p.c ≤ maxLen
  len : p.bs.length ≤ 1000000000

set_option maxRecDepth 100000 in
set_option maxHeartbeats 2000000 in
theorem net_slice {W w : World} {I : Nat → Option Obj} {F : List (Nat × Obj)} (p : Part) (hp : POk p W I) (a m : Int) (h : St W w I F) :
    Calls Tryd.prog 81 #[p.val, .int .i64 a, .int .i64 m] w fun e w' => ∃ v, e = .returned v ∧ FreshB W w' I F (piece p.bs a m) v := by
  unfold Part.val
  by_cases hbad : a < 0 ∨ (p.bs.length : Int) ≤ a ∨ m < 1
  · have he : piece p.bs a m = [] := by rw [piece, if_pos hbad]
    rw [he]
    have H := Lib.hid h
    clear h hp he
    go_enter Tryd.func81, Tryd.ntmps81
    rcases hbad with h1 | h1 | h1
    · go_wp2_with fail
      go_ret
      exact ⟨_, rfl, FreshB.nil H.out⟩
    · by_cases h0 : a < 0
      · go_wp2_with fail
        go_ret
        exact ⟨_, rfl, FreshB.nil H.out⟩
      · go_wp2_with fail
        go_ret
        exact ⟨_, rfl, FreshB.nil H.out⟩
    · by_cases h0 : a < 0
      · go_wp2_with fail
        go_ret
        exact ⟨_, rfl, FreshB.nil H.out⟩
      · by_cases h2 : (p.bs.length : Int) ≤ a
        · go_wp2_with fail
          go_ret
          exact ⟨_, rfl, FreshB.nil H.out⟩
        · go_wp2_with fail
          go_ret
          exact ⟨_, rfl, FreshB.nil H.out⟩
  · have he : piece p.bs a m = (p.bs.drop a.toNat).take m.toNat := by rw [piece, if_neg hbad]
    obtain ⟨k, rfl⟩ := Int.eq_ofNat_of_zero_le (by omega : 0 ≤ a)
    obtain ⟨j, rfl⟩ := Int.eq_ofNat_of_zero_le (by omega : 0 ≤ m)
    simp only [Int.ofNat_eq_natCast, Int.toNat_natCast] at *
    have hk : k < p.bs.length := by omega
    have hj : 1 ≤ j := by omega
    have hcap := hp.cap
    have hle := hp.le
    have hl9 := hp.len
    unfold maxLen at hcap
    have e1 := run_slice_from (P := Tryd.prog) Tryd.underlying27 (fun w => by simp [Tryd.sizeOf5 w]) p.A p.bs.length p.c k (by omega) hle
    have hmn : min (j : Int) ((p.bs.length - k : Nat) : Int) = ((min j (p.bs.length - k) : Nat) : Int) := by omega
    have e2 := run_slice_to (P := Tryd.prog) (t := 27) Tryd.underlying27 (fun w => by simp [Tryd.sizeOf5 w]) (subA p.A p.c k) (p.bs.length - k) (p.c - k) (min j (p.bs.length - k)) (by omega)
    have hpl : (piece p.bs k j).length = min j (p.bs.length - k) := by rw [he, List.length_take, List.length_drop]
    have hin : Part.In ⟨subA p.A p.c k, p.c - k, piece p.bs k j⟩ W I := by
      rw [he]
      exact Part.In_take (c := p.c - k) _ j (Part.In_drop (c := p.c) _ k hle hp.in_)
    have cC := fun (v : World) (hv : St W v I F) => clone_bytes ⟨subA p.A p.c k, p.c - k, piece p.bs k j⟩ hin (by show (piece p.bs k j).length ≤ _; omega) hv
    simp only [Part.val, hpl] at cC
    have CC := Lib.hid cC; have H := Lib.hid h
    generalize piece p.bs k j = pc at *
    clear cC h hin hpl he hp hbad
    go_enter Tryd.func81, Tryd.ntmps81
    go_wp2_with fail
    refine (CC.out _ H.out).mono ?_
    rintro e w1 ⟨v, rfl, h1⟩
    have H1 := Lib.hid h1
    clear h1 CC H
    go_wp2_with fail
    go_ret
    exact ⟨_, rfl, H1.out⟩
end

section
set_option linter.unusedVariables false
set_option linter.unusedSimpArgs false
open Go.RowKit

theorem results_row {P : Program} {fn : Func} {p : Tmp} {ty : TypeId} (h : fn.results = #[.cell p ty]) (tmps : Array Value) (w : World) (g : Nat) (t : TypeId) (cs : Array Value) (fr : Nat × Nat) (d : TypeDesc)
    (hp : tmps.getD p undef = .pointer (some ⟨g, 0, none⟩)) (hg : w.heap[g]? = some (.cells cs t fr))
    (hu : P.underlying ty = some d) (hd : (match d with | .struct _ | .array _ _ => true | _ => false) = true) (hi : (P.info? ty).map (·.size) = some cs.size) :
    (results fn tmps).run P w = .ok (.agg cs) w := by
  have hp' : tmps[p]?.getD undef = .pointer (some ⟨g, 0, none⟩) := by simpa using hp
  simp [results, h, hp', asAddr, run_loadVar_row w g t ty cs fr d hg hu hd hi]

theorem heap_setalloc (w : World) (a : Addr) (v : Value) (o o2 : Obj) : (((w.setCell a v).alloc o).alloc o2).heap[w.heap.size]? = some o := by
  have hz : (w.setCell a v).heap.size = w.heap.size := by simp [World.setCell]
  have h := heap_alloc_new (w.setCell a v) o
  rw [hz] at h
  rw [Below.heap_alloc _ _ _ (by simp [hz]), h]

def ev (e : ByteArray × Part) : ByteArray × Value := (e.1, e.2.val)
def lookP (es : List (ByteArray × Part)) (k : ByteArray) : Option Part :=
  match es with
  | [] => none
  | (k', p) :: l => if k = k' then some p else lookP l k
theorem look_ev (es : List (ByteArray × Part)) (k : ByteArray) : look (es.map ev) k = (lookP es k).map Part.val := by
  induction es with
  | nil => rfl
  | cons e es ih =>
    obtain ⟨k', p⟩ := e
    simp only [List.map_cons, ev, look, lookP]
    split
    · rfl
    · exact ih
theorem lookP_mem {es : List (ByteArray × Part)} {k : ByteArray} {p : Part} (h : lookP es k = some p) : ∃ k', (k', p) ∈ es := by
  induction es with
  | nil => cases h
  | cons e es ih =>
    obtain ⟨k', q⟩ := e
    simp only [lookP] at h
    split at h
    · cases h; exact ⟨k', by simp⟩
    · obtain ⟨k2, h2⟩ := ih h; exact ⟨k2, by simp [h2]⟩
/-- All offers' bytes stand in the memory that turns no more. -/
def Offs (W : World) (I : Nat → Option Obj) (es : List (ByteArray × Part)) : Prop := ∀ e ∈ es, POk e.2 W I

def netL (g m : Nat) (es : List (ByteArray × Part)) (fA : Option Addr) (fn fc cnt : Nat) (Lf : List (Nat × Obj)) : List (Nat × Obj) :=
  (g, .cells #[.map (some m), .slice fA fn fc, .int .i64 cnt] 104 (0, 0)) :: (m, mapObj (es.map ev)) :: Lf
structure NetF (fs : List Fault) where
  A : Option Addr
  c : Nat
  L : List (Nat × Obj)
  row : Row 102 3 (.slice A fs.length c) fs.length (fall fs) L
def NetF.L' {fs : List Fault} (φ : NetF fs) (g m : Nat) (es : List (ByteArray × Part)) (cnt : Nat) : List (Nat × Obj) := netL g m es φ.A fs.length φ.c cnt φ.L
/-- The stand-in: its offers, what faults are to come, how often was fetched. -/
def NetSt (W w : World) (J : Nat → Option Obj) (g m : Nat) (es : List (ByteArray × Part)) (fs : List Fault) (cnt : Nat) (F : List (Nat × Obj)) : Prop :=
  ∃ φ : NetF fs, St W w J (φ.L' g m es cnt ++ F)

section
variable {W w : World} {J : Nat → Option Obj} {g m : Nat} {es : List (ByteArray × Part)} {fs : List Fault} {cnt : Nat} {F : List (Nat × Obj)}
theorem net_cells (φ : NetF fs) {L : List (Nat × Obj)} (h : St W w J (φ.L' g m es cnt ++ L)) : w.cell? ⟨g, 0, none⟩ = some (.map (some m)) ∧ w.cell? ⟨g, 1, none⟩ = some (.slice φ.A fs.length φ.c) ∧ w.cell? ⟨g, 2, none⟩ = some (.int .i64 cnt) ∧ w.heap[m]? = some (mapObj (es.map ev)) ∧ w.frozen? ⟨g, 1, none⟩ = false ∧ w.frozen? ⟨g, 2, none⟩ = false :=
  ⟨h.cell (g := g) (cs := #[.map (some m), .slice φ.A fs.length φ.c, .int .i64 cnt]) (t := 104) (fr := (0, 0)) (by simp [NetF.L', netL]) 0, h.cell (g := g) (cs := #[.map (some m), .slice φ.A fs.length φ.c, .int .i64 cnt]) (t := 104) (fr := (0, 0)) (by simp [NetF.L', netL]) 1,
   h.cell (g := g) (cs := #[.map (some m), .slice φ.A fs.length φ.c, .int .i64 cnt]) (t := 104) (fr := (0, 0)) (by simp [NetF.L', netL]) 2, h.own (m, mapObj (es.map ev)) (by simp [NetF.L', netL]),
   h.frozen (g := g) (cs := #[.map (some m), .slice φ.A fs.length φ.c, .int .i64 cnt]) (t := 104) (by simp [NetF.L', netL]) 1, h.frozen (g := g) (cs := #[.map (some m), .slice φ.A fs.length φ.c, .int .i64 cnt]) (t := 104) (by simp [NetF.L', netL]) 2⟩

set_option maxRecDepth 100000 in
set_option maxHeartbeats 1000000 in
theorem net_faults (h : NetSt W w J g m es fs cnt F) : Calls Tryd.prog 29 #[.pointer (some ⟨g, 0, none⟩)] w fun e w' => e = .returned (.int .i64 fs.length) ∧ w = w' := by
  obtain ⟨φ, h⟩ := h
  obtain ⟨c0, c1, c2, _, _, _⟩ := net_cells φ h
  go_enter Tryd.func29, Tryd.ntmps29
  go_wp2_with fail
  go_ret
  exact ⟨rfl, rfl⟩
set_option maxRecDepth 100000 in
set_option maxHeartbeats 1000000 in
theorem net_fetches (h : NetSt W w J g m es fs cnt F) : Calls Tryd.prog 22 #[.pointer (some ⟨g, 0, none⟩)] w fun e w' => e = .returned (.int .i64 cnt) ∧ w = w' := by
  obtain ⟨φ, h⟩ := h
  obtain ⟨c0, c1, c2, _, _, _⟩ := net_cells φ h
  go_enter Tryd.func22, Tryd.ntmps22
  go_wp2_with fail
  go_ret
  exact ⟨rfl, rfl⟩

/-- What follows the first fault. -/
def subF (A : Option Addr) (c : Nat) : Option Addr := if c = 1 then A else A.map (·.add 3)
theorem run_slice_tail3 {P : Program} {t e : TypeId} (ht : P.underlying t = some (.slice e)) (hs : ∀ w, (sizeOf e).run P w = .ok 3 w) (A : Option Addr) (n c : Nat) (hn : 1 ≤ n) (hc : n ≤ c) (w : World) :
    (Instr.slice t (.slice A n c) (some (.int .i64 1)) none none).run P w = .ok (.slice (subF A c) (n - 1) (c - 1)) w := by
  have h1 : (1 : Int) ≤ n := by omega
  simp [Instr.slice, run_underlying ht, Instr.sliceBounds, Instr.sliceBound, asIntOf, h1, hs, subF]
theorem row_tail3 {E : TypeId} {A : Option Addr} {n c : Nat} {xs ys : List Value} {L : List (Nat × Obj)} (hx : xs.length = 3) (h : Row E 3 (.slice A (n + 1) c) (n + 1) (xs ++ ys) L) : Row E 3 (.slice (subF A c) n (c - 1)) n ys L := by
  obtain ⟨hl, ⟨_, h0, _⟩ | ⟨g, off, cap, cur, hv, rfl, hnc, hcm, hsz, hxs⟩⟩ := h
  · omega
  injection hv with h1 _ h2
  subst h1; subst h2
  refine ⟨by simp at hl; omega, .inr ?_⟩
  by_cases hc : c = 1
  · have hn : n = 0 := by omega
    subst hn
    refine ⟨g, off, 0, cur, by simp [subF, hc], rfl, by omega, by omega, by omega, ?_⟩
    have : ys.length = 0 := by simp at hl; omega
    rw [List.eq_nil_of_length_eq_zero this]; simp
  · refine ⟨g, off + 3, c - 1, cur, by simp [subF, hc, Addr.add], rfl, by omega, by omega, by omega, ?_⟩
    have h3 : ((cur.toList.drop off).take ((n + 1) * 3)).drop 3 = ys := by rw [hxs, List.drop_append_of_le_length (by omega), List.drop_of_length_le (by omega)]; rfl
    rw [← h3, List.drop_take, List.drop_drop]
    congr 1
    omega

set_option maxRecDepth 100000 in
set_option maxHeartbeats 2000000 in
theorem net_next_none (h : NetSt W w J g m es [] cnt F) :
    Calls Tryd.prog 80 #[.pointer (some ⟨g, 0, none⟩)] w fun e w' => e = .returned (.agg #[.int .i64 0, .int .i64 0, .int .u8 0]) ∧ NetSt W w' J g m es [] cnt F := by
  obtain ⟨φ, h⟩ := h
  have h2 := h.alloc (.cells #[.int .i64 0, .int .i64 0, .int .u8 0] 102)
  have h3 := St.weaken (A := [_]) h2
  obtain ⟨c0, c1, c2, _, f1, _⟩ := net_cells φ h3
  have c1 : (w.alloc (.cells #[.int .i64 0, .int .i64 0, .int .u8 0] 102)).cell? ⟨g, 1, none⟩ = some (.slice φ.A 0 φ.c) := c1
  have H2 := Lib.hid h3
  clear h h2 h3
  go_enter Tryd.func80, Tryd.ntmps80
  go_wp2_with fail
  refine bodyPost_ret (results_row rfl _ _ w.heap.size 102 #[.int .i64 0, .int .i64 0, .int .u8 0] (0, 0) _ rfl (heap_alloc_new _ _) Tryd.underlying102 (by kernel_rfl) (by kernel_rfl)) rfl ?_
  exact ⟨rfl, φ, H2.out⟩

set_option maxRecDepth 100000 in
set_option maxHeartbeats 2000000 in
theorem net_next (f : Fault) (rest : List Fault) (hl : rest.length ≤ 1000000) (h : NetSt W w J g m es (f :: rest) cnt F) :
    Calls Tryd.prog 80 #[.pointer (some ⟨g, 0, none⟩)] w fun e w' => e = .returned (.agg #[.int .i64 f.kind, .int .i64 f.at_, .int .u8 (f.v.toNat : Int)]) ∧ NetSt W w' J g m es rest cnt F := by
  obtain ⟨φ, h⟩ := h
  have hrow := φ.row
  obtain ⟨gf, off, cap, cur, hv, hL, k0⟩ := hrow.cells (j := 0) (u := .int .i64 f.kind) rfl
  obtain ⟨gf1, off1, cap1, cur1, hv1, hL1, k1⟩ := hrow.cells (j := 1) (u := .int .i64 f.at_) rfl
  obtain ⟨gf2, off2, cap2, cur2, hv2, hL2, k2⟩ := hrow.cells (j := 2) (u := .int .u8 (f.v.toNat : Int)) rfl
  rw [hL] at hL1 hL2
  rw [hv] at hv1 hv2
  injection hv1 with q1 _ qc1; injection hv2 with q2 _ qc2
  clear qc1 qc2
  injection q1 with q1; injection q2 with q2
  injection q1 with q1a q1b _; injection q2 with q2a q2b _
  subst q1a; subst q1b; subst q2a; subst q2b
  simp only [List.cons.injEq, Prod.mk.injEq, Obj.cells.injEq, and_true, true_and] at hL1 hL2
  obtain ⟨rfl, _⟩ := hL1
  obtain ⟨rfl, _⟩ := hL2
  injection hv with hA _ hc
  have htail := row_tail3 (xs := fcells f) (ys := fall rest) rfl (by simpa [fall] using hrow)
  have hnc : rest.length + 1 ≤ φ.c := by
    obtain ⟨_, ⟨_, h0, _⟩ | ⟨_, _, _, _, hv3, _, hnc, _⟩⟩ := id hrow
    · simp at h0
    · injection hv3 with _ _ h3; rw [h3]; simpa using hnc
  have hcl : ∀ b o v, w.cell? ⟨b, o, none⟩ = some v → (∀ o1, (w.alloc o1).cell? ⟨b, o, none⟩ = some v) ∧ (∀ o1 o2, ((w.alloc o1).alloc o2).cell? ⟨b, o, none⟩ = some v) := fun b o v hv => ⟨fun _ => cell_old hv, fun _ _ => cell_old (cell_old hv)⟩
  obtain ⟨_, c1, _, _, f1, _⟩ := net_cells φ h
  rw [hA] at c1
  have hcg := hcl _ _ _ c1
  have hgl : (gf, Obj.cells cur 102 (0, 0)) ∈ φ.L' g m es cnt ++ F := by simp [NetF.L', netL, hL]
  have kk0 := hcl gf off (.int .i64 f.kind) (by rw [h.cell hgl]; simpa using k0)
  have kk1 := hcl gf (off + 1) (.int .i64 f.at_) (by rw [h.cell hgl]; simpa using k1)
  have kk2 := hcl gf (off + 2) (.int .u8 (f.v.toNat : Int)) (by rw [h.cell hgl]; simpa using k2)
  have ff1 : ∀ o1 o2, ((w.alloc o1).alloc o2).frozen? ⟨g, 1, none⟩ = false := fun o1 o2 => ((h.alloc o1).alloc o2).frozen (g := g) (cs := #[.map (some m), .slice φ.A (f :: rest).length φ.c, .int .i64 cnt]) (t := 104) (by simp [NetF.L', netL]) 1
  have hset := St.set (A := []) h 1 (.slice (subF (some ⟨gf, off, none⟩) φ.c) rest.length (φ.c - 1))
  rw [hA] at htail
  have hfin : NetSt W (w.setCell ⟨g, 1, none⟩ (.slice (subF (some ⟨gf, off, none⟩) φ.c) rest.length (φ.c - 1))) J g m es rest cnt F := ⟨⟨_, _, φ.L, htail⟩, hset⟩
  obtain ⟨ψ, hfin⟩ := hfin
  have hst := run_slice_tail3 (P := Tryd.prog) Tryd.underlying64 (fun w => by simp [Tryd.sizeOf102 w]) (some ⟨gf, off, none⟩) (rest.length + 1) φ.c (by omega) hnc
  rw [Nat.add_sub_cancel] at hst
  have hpos : ¬ ((rest.length : Int) + 1 = 0) := by omega
  have HFIN := Lib.hid hfin
  obtain ⟨cg1, cg2⟩ := hcg
  obtain ⟨p01, p02⟩ := kk0; obtain ⟨p11, p12⟩ := kk1; obtain ⟨p21, p22⟩ := kk2
  simp only [List.length_cons] at cg1 cg2
  have hglt : g < w.heap.size := h.lt (p := (g, .cells #[.map (some m), .slice φ.A (f :: rest).length φ.c, .int .i64 cnt] 104 (0, 0))) (by simp [NetF.L', netL])
  have hgn0 : g ≠ w.heap.size := by omega
  have hgn1 : g ≠ w.heap.size + 1 := by omega
  clear hc
  generalize φ.c = cc at *
  clear hset hfin htail hrow h hA hL k0 k1 k2 hcl hgl c1 f1 hst
  by_cases hc1 : cc = 1
  · subst hc1
    obtain rfl : rest = [] := List.eq_nil_of_length_eq_zero (by omega)
    simp only [subF, if_true] at HFIN
    go_enter Tryd.func80, Tryd.ntmps80
    go_wp2_with fail
    refine bodyPost_ret (results_row rfl _ _ w.heap.size 102 #[.int .i64 f.kind, .int .i64 f.at_, .int .u8 (f.v.toNat : Int)] (0, 0) _ rfl ?hh Tryd.underlying102 (by kernel_rfl) (by kernel_rfl)) rfl ?_
    case hh => exact heap_setalloc _ _ _ _ _
    exact ⟨rfl, ψ, (HFIN.out.alloc_ _).alloc_ _⟩
  · simp only [subF, if_neg hc1] at HFIN
    go_enter Tryd.func80, Tryd.ntmps80
    go_wp2_with fail
    refine bodyPost_ret (results_row rfl _ _ w.heap.size 102 #[.int .i64 f.kind, .int .i64 f.at_, .int .u8 (f.v.toNat : Int)] (0, 0) _ rfl ?hh Tryd.underlying102 (by kernel_rfl) (by kernel_rfl)) rfl ?_
    case hh => exact heap_setalloc _ _ _ _ _
    exact ⟨rfl, ψ, (HFIN.out.alloc_ _).alloc_ _⟩
end
end
end Go.Proofs.YtnhlpiomfljlcaaDoor
