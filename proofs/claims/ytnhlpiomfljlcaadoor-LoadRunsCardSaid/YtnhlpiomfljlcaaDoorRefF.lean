/- The document's net: Fetch. -/
import Derived.Test.YtnhlpiomfljlcaaDoorRefAN
import Derived.Test.YtnhlpiomfljlcaaDoorNtC
namespace Go.Proofs.YtnhlpiomfljlcaaDoor
set_option linter.unusedVariables false
set_option linter.unusedSimpArgs false
open Go.RowKit

/-- The document's net: where its offers lie, what faults are to come, how often was fetched. -/
def RNet (W w : World) (J : Nat → Option Obj) (r : Nat) (A0 : Option Addr) (n0 c0 : Nat) (fs : List Fault) (cnt : Nat) (F : List (Nat × Obj)) : Prop :=
  ∃ A1 c1 L1, Row 102 3 (.slice A1 fs.length c1) fs.length (fall fs) L1 ∧ St W w J ((r, .cells (rcells A0 n0 c0 A1 fs.length c1 cnt) 90 (0, 0)) :: (L1 ++ F))
def FreshR (W w : World) (J : Nat → Option Obj) (r : Nat) (A0 : Option Addr) (n0 c0 : Nat) (fs : List Fault) (cnt : Nat) (F : List (Nat × Obj)) (bs : List UInt8) (v : Value) : Prop :=
  ∃ A c L', v = .slice A bs.length c ∧ Row 5 1 (.slice A bs.length c) bs.length (bs.map bval) L' ∧ RNet W w J r A0 n0 c0 fs cnt (L' ++ F)
section
variable {W w : World} {J : Nat → Option Obj} {r : Nat} {A0 : Option Addr} {n0 c0 : Nat} {ros : List (ByteArray × Part)} {fs : List Fault} {cnt : Nat} {F X : List (Nat × Obj)}
theorem FreshR.nil (h : RNet W w J r A0 n0 c0 fs cnt F) : FreshR W w J r A0 n0 c0 fs cnt F [] (.slice none 0 0) := ⟨none, 0, [], rfl, Row.nil _ _, h⟩
theorem RNet.drew (h : RNet W w J r A0 n0 c0 fs cnt F) (n : Nat) : RNet W (w.drewN n) J r A0 n0 c0 fs cnt F := by
  obtain ⟨A1, c1, L1, h1, h2⟩ := h
  exact ⟨A1, c1, L1, h1, h2.drew n⟩
theorem FreshR.drew {bs : List UInt8} {v : Value} (h : FreshR W w J r A0 n0 c0 fs cnt F bs v) (n : Nat) : FreshR W (w.drewN n) J r A0 n0 c0 fs cnt F bs v := by
  obtain ⟨A, c, L', h1, h2, h3⟩ := h
  exact ⟨A, c, L', h1, h2, h3.drew n⟩
theorem offsAt_of_in {A1 : Option Addr} {n1 c1 : Nat} (ho : OffIn A0 ros W J) (h1 : (r, Obj.cells (rcells A0 ros.length c0 A1 n1 c1 cnt) 90 (0, 0)) ∈ X) : OffsAt r A0 c0 ros W J X := by
  intro w' hst
  refine ⟨hst.cell h1 0, fun k o hk => ?_⟩
  obtain ⟨b, off, hA, r0, r1⟩ := ho.at_ k o hk
  exact ⟨b, off, hA, hst.ro r0, hst.ro r1⟩
theorem findFrom_get (nm : ByteArray) : ∀ (os : List (ByteArray × Part)) (k : Nat) (i : Int), findFrom nm os k = i → 0 ≤ i → ∃ j o, i = ((k + j : Nat) : Int) ∧ os[j]? = some o ∧ foldOf o.1 = foldOf nm
  | [], k, i, h, h0 => by simp only [findFrom] at h; omega
  | o :: os, k, i, h, h0 => by
    simp only [findFrom] at h
    split at h
    · rename_i hf
      exact ⟨0, o, by omega, rfl, hf⟩
    · obtain ⟨j, o', h1, h2, h3⟩ := findFrom_get nm os (k + 1) i h h0
      exact ⟨j + 1, o', by omega, by simpa using h2, h3⟩

set_option maxRecDepth 100000 in
set_option maxHeartbeats 4000000 in
theorem rfetch_none (t : TB W J) (ho : OffIn A0 ros W J) (hl : ros.length ≤ 100000) (nm : ByteArray) (hm : nm.size ≤ 1000000) (a n : Int) (hx : findIx ros nm < 0) (h : RNet W w J r A0 ros.length c0 fs cnt F) :
    Calls Tryd.prog 53 #[.pointer (some ⟨r, 0, none⟩), .string nm, .int .i64 a, .int .i64 n] w fun e w' => e = .returned (.tuple #[.slice none 0 0, .int .i64 182]) ∧ RNet W w' J r A0 ros.length c0 fs cnt F := by
  obtain ⟨A1, c1, L1, hr1, hst⟩ := h
  have cF := rfind t r A0 c0 ros ho.name (by omega) (offsAt_of_in ho (List.mem_cons_self ..)) nm hm hst
  have CF := Lib.hid cF; have HR1 := Lib.hid hr1
  clear cF hst hr1 ho
  go_enter Tryd.func53, Tryd.ntmps53
  go_wp2_with fail
  refine CF.out.mono ?_
  rintro e w1 ⟨rfl, h1⟩
  have H1 := Lib.hid h1
  clear h1 CF
  go_wp2_with fail
  go_ret2
  exact ⟨rfl, A1, c1, L1, HR1.out, H1.out⟩

set_option maxRecDepth 100000 in
set_option maxHeartbeats 4000000 in
theorem rfetch_no (t : TB W J) (ho : OffIn A0 ros W J) (hl : ros.length ≤ 100000) (nm : ByteArray) (hm : nm.size ≤ 1000000) (a n : Int) (k : Nat) (p : Part) (onm : ByteArray) (hx : findIx ros nm = (k : Int)) (hk : ros[k]? = some (onm, p)) (hcnt : cnt ≤ 1000000000) (h : RNet W w J r A0 ros.length c0 [] cnt F) :
    Calls Tryd.prog 53 #[.pointer (some ⟨r, 0, none⟩), .string nm, .int .i64 a, .int .i64 n] w fun e w' => ∃ v, e = .returned (.tuple #[v, .int .i64 0]) ∧ FreshR W w' J r A0 ros.length c0 [] (cnt + 1) F (piece p.bs a n) v := by
  obtain ⟨A1, c1, L1, hr1, hst⟩ := h
  have cF := rfind t r A0 c0 ros ho.name (by omega) (offsAt_of_in ho (List.mem_cons_self ..)) nm hm hst
  rw [hx] at cF
  obtain ⟨b, off, rfl, r0, r1⟩ := ho.at_ k _ hk
  have hpo := ho.ok _ (List.mem_of_getElem? hk)
  have hkl := (List.getElem?_eq_some_iff.1 hk).1
  have CF := Lib.hid cF; have HR1 := Lib.hid hr1; have R1 := Lib.hid r1; have HPO := Lib.hid hpo
  clear cF hst hr1 ho r0 r1 hpo hx hk
  go_enter Tryd.func53, Tryd.ntmps53
  go_wp2_with fail
  refine CF.out.mono ?_
  rintro e w1 ⟨rfl, h1⟩
  have hcast : ((cnt + 1 : Nat) : Int) = (cnt : Int) + 1 := by omega
  have hm1 : (r, Obj.cells (rcells (some ⟨b, off, none⟩) ros.length c0 A1 ([] : List Fault).length c1 cnt) 90 (0, 0)) ∈ ((r, Obj.cells (rcells (some ⟨b, off, none⟩) ros.length c0 A1 ([] : List Fault).length c1 cnt) 90 (0, 0)) :: (L1 ++ F)) := by simp
  have d2 : w1.cell? ⟨r, 2, none⟩ = some (.int .i64 cnt) := h1.cell hm1 2
  have d2f : w1.frozen? ⟨r, 2, none⟩ = false := h1.frozen hm1 2
  have hset := St.set (A := []) h1 2 (.int .i64 ((cnt : Int) + 1))
  have h2 := hset.alloc (.cells #[.int .i64 0, .int .i64 0, .int .u8 0] 102)
  have hsz : (w1.setCell ⟨r, 2, none⟩ (.int .i64 ((cnt : Int) + 1))).heap.size = w1.heap.size := by simp [World.setCell]
  rw [hsz] at h2
  have hm2 : (r, Obj.cells (rcells (some ⟨b, off, none⟩) ros.length c0 A1 ([] : List Fault).length c1 (cnt + 1)) 90 (0, 0)) ∈ ((w1.heap.size, Obj.cells #[.int .i64 0, .int .i64 0, .int .u8 0] 102 (0, 0)) :: (r, Obj.cells (rcells (some ⟨b, off, none⟩) ros.length c0 A1 ([] : List Fault).length c1 (cnt + 1)) 90 (0, 0)) :: (L1 ++ F)) := by simp
  have h3 : St W ((w1.setCell ⟨r, 2, none⟩ (.int .i64 ((cnt : Int) + 1))).alloc (.cells #[.int .i64 0, .int .i64 0, .int .u8 0] 102)) J ((w1.heap.size, Obj.cells #[.int .i64 0, .int .i64 0, .int .u8 0] 102 (0, 0)) :: (r, Obj.cells (rcells (some ⟨b, off, none⟩) ros.length c0 A1 ([] : List Fault).length c1 (cnt + 1)) 90 (0, 0)) :: (L1 ++ F)) := h2
  have e1 : ((w1.setCell ⟨r, 2, none⟩ (.int .i64 ((cnt : Int) + 1))).alloc (.cells #[.int .i64 0, .int .i64 0, .int .u8 0] 102)).cell? ⟨r, 1, none⟩ = some (.slice A1 0 c1) := h3.cell hm2 1
  have e0 : ((w1.setCell ⟨r, 2, none⟩ (.int .i64 ((cnt : Int) + 1))).alloc (.cells #[.int .i64 0, .int .i64 0, .int .u8 0] 102)).cell? ⟨r, 0, none⟩ = some (.slice (some ⟨b, off, none⟩) ros.length c0) := h3.cell hm2 0
  have ep := h3.ro R1.out
  unfold Part.val at ep
  have cR := rright p HPO.out a n h3
  unfold Part.val at cR
  have CR := Lib.hid cR; have HC := Lib.hid hcast
  clear h3 h2 hset h1 CF cR hcast
  go_wp2_with fail
  refine CR.out.mono ?_
  rintro e w3 ⟨v, rfl, A, c, Lr, rfl, hrow, h4⟩
  have g0 : w3.cell? ⟨w1.heap.size, 0, none⟩ = some (.int .i64 0) := h4.cell (g := w1.heap.size) (cs := #[.int .i64 0, .int .i64 0, .int .u8 0]) (t := 102) (fr := (0, 0)) (by simp) 0
  have H4 := Lib.hid h4; have HROW := Lib.hid hrow
  clear h4 hrow CR e0 e1 ep d2 d2f
  go_wp2_with fail
  go_ret2
  refine ⟨_, rfl, A, c, Lr, rfl, HROW.out, A1, c1, L1, HR1.out, ?_⟩
  have h5 := St.mid (A := Lr) (B := [_]) H4.out
  have h6 := h5.perm (List.perm_middle (l₁ := Lr))
  exact h6.perm (List.Perm.cons _ (by rw [← List.append_assoc, ← List.append_assoc]; exact List.Perm.append_right F List.perm_append_comm))
theorem sub_row_fresh {W w' : World} {fb : Nat} {fo : Obj} {L2 L5 : List (Nat × Obj)} {A5 : Option Addr} {c5 : Nat} {rest : List Fault} (hr5 : Row 102 3 (.slice A5 rest.length c5) rest.length (fall rest) L5) (h : St W w' J (L2 ++ ((fb, fo) :: (r, .cells (rcells A0 n0 c0 A5 rest.length c5 cnt) 90 (0, 0)) :: (L5 ++ F)))) : RNet W w' J r A0 n0 c0 rest cnt (L2 ++ F) := by
  refine ⟨A5, c5, L5, hr5, ?_⟩
  have h5 := St.mid (A := L2) (B := [_]) h
  have h6 := h5.perm (List.perm_middle (l₁ := L2))
  exact h6.perm (List.Perm.cons _ (by rw [← List.append_assoc, ← List.append_assoc]; exact List.Perm.append_right F List.perm_append_comm))

set_option maxRecDepth 100000 in
set_option maxHeartbeats 8000000 in
theorem rfetch_yes (t : TB W J) (ho : OffIn A0 ros W J) (hl : ros.length ≤ 100000) (nm : ByteArray) (hm : nm.size ≤ 1000000) (a n : Int) (k : Nat) (p : Part) (onm : ByteArray) (hx : findIx ros nm = (k : Int)) (hk : ros[k]? = some (onm, p)) (hcnt : cnt ≤ 1000000000) (f : Fault) (rest : List Fault) (hrl : rest.length ≤ 1000000) (h : RNet W w J r A0 ros.length c0 (f :: rest) cnt F) :
    Calls Tryd.prog 53 #[.pointer (some ⟨r, 0, none⟩), .string nm, .int .i64 a, .int .i64 n] w fun e w' => ∃ v, e = .returned (.tuple #[v, .int .i64 (fetched p.bs f a n).2]) ∧ FreshR W w' J r A0 ros.length c0 rest (cnt + 1) F (fetched p.bs f a n).1 v := by
  obtain ⟨A1, c1, L1, hr1, hst⟩ := h
  have cF := rfind t r A0 c0 ros ho.name (by omega) (offsAt_of_in ho (List.mem_cons_self ..)) nm hm hst
  rw [hx] at cF
  obtain ⟨b, off, rfl, r0, r1⟩ := ho.at_ k _ hk
  have hpo := ho.ok _ (List.mem_of_getElem? hk)
  have hkl := (List.getElem?_eq_some_iff.1 hk).1
  obtain ⟨B0, E, hBE⟩ : ∃ B E, fetched p.bs f a n = (B, E) := ⟨_, _, rfl⟩
  rw [hBE]
  have HBE := Lib.hid hBE
  -- where the first fault lies
  obtain ⟨gf, ofs, cap, cur, hv, hL, k0⟩ := hr1.cells (j := 0) (u := .int .i64 f.kind) rfl
  obtain ⟨gf1, off1, cap1, cur1, hv1, hL1, k1⟩ := hr1.cells (j := 1) (u := .int .i64 f.at_) rfl
  obtain ⟨gf2, off2, cap2, cur2, hv2, hL2, k2⟩ := hr1.cells (j := 2) (u := .int .u8 (f.v.toNat : Int)) rfl
  rw [hL] at hL1 hL2
  rw [hv] at hv1 hv2
  injection hv1 with q1 _ qc1; injection hv2 with q2 _ qc2
  clear qc1 qc2
  injection q1 with q1; injection q2 with q2
  injection q1 with q1a q1b _; injection q2 with q2a q2b _
  subst q1a; subst q1b; subst q2a; subst q2b
  simp only [List.cons.injEq, Prod.mk.injEq, Obj.cells.injEq, and_true, true_and] at hL1 hL2
  obtain ⟨rfl, _⟩ := hL1
  obtain ⟨rfl, _⟩ := hL2
  injection hv with hA _ hc
  subst hA
  clear hc
  have htail := row_tail3 (xs := fcells f) (ys := fall rest) rfl (by simpa [fall] using hr1)
  have hnc : rest.length + 1 ≤ c1 := by
    obtain ⟨_, ⟨_, h0, _⟩ | ⟨_, _, _, _, hv3, _, hnc, _⟩⟩ := id hr1
    · simp at h0
    · injection hv3 with _ _ h3; rw [h3]; simpa using hnc
  obtain ⟨AX, hAX⟩ : ∃ AX, AX = some (⟨gf, ofs, none⟩ : Addr) := ⟨_, rfl⟩
  have hsl := run_slice_tail3 (P := Tryd.prog) Tryd.underlying64 (fun w => by simp [Tryd.sizeOf102 w]) AX (rest.length + 1) c1 (by omega) hnc
  rw [Nat.add_sub_cancel] at hsl
  rw [← hAX] at htail
  obtain ⟨SB, hSB⟩ : ∃ SB, subF AX c1 = SB := ⟨_, rfl⟩
  rw [hSB] at hsl htail
  have HAX := Lib.hid hAX
  have CF := Lib.hid cF; have R1 := Lib.hid r1; have HPO := Lib.hid hpo; have HT := Lib.hid htail; have HL := Lib.hid hL
  clear cF hst hr1 ho r0 r1 hpo hx hk hBE htail hSB hL hAX
  go_enter Tryd.func53, Tryd.ntmps53
  go_wp2_with fail
  refine CF.out.mono ?_
  rintro e w1 ⟨rfl, h1⟩
  clear CF
  have hm1 : (r, Obj.cells (rcells (some ⟨b, off, none⟩) ros.length c0 (some ⟨gf, ofs, none⟩) (f :: rest).length c1 cnt) 90 (0, 0)) ∈ ((r, Obj.cells (rcells (some ⟨b, off, none⟩) ros.length c0 (some ⟨gf, ofs, none⟩) (f :: rest).length c1 cnt) 90 (0, 0)) :: (L1 ++ F)) := List.mem_cons_self ..
  have d2 : w1.cell? ⟨r, 2, none⟩ = some (.int .i64 cnt) := h1.cell hm1 2
  have d2f : w1.frozen? ⟨r, 2, none⟩ = false := h1.frozen hm1 2
  have hset := St.set (A := []) h1 2 (.int .i64 ((cnt : Int) + 1))
  have hcast : ((cnt + 1 : Nat) : Int) = (cnt : Int) + 1 := by omega
  have h2 : St W (w1.setCell ⟨r, 2, none⟩ (.int .i64 ((cnt : Int) + 1))) J ((r, Obj.cells (rcells (some ⟨b, off, none⟩) ros.length c0 (some ⟨gf, ofs, none⟩) (rest.length + 1) c1 (cnt + 1)) 90 (0, 0)) :: (L1 ++ F)) := hset
  have hsz : (w1.setCell ⟨r, 2, none⟩ (.int .i64 ((cnt : Int) + 1))).heap.size = w1.heap.size := by simp [World.setCell]
  have hm2 : (r, Obj.cells (rcells (some ⟨b, off, none⟩) ros.length c0 (some ⟨gf, ofs, none⟩) (rest.length + 1) c1 (cnt + 1)) 90 (0, 0)) ∈ ((r, Obj.cells (rcells (some ⟨b, off, none⟩) ros.length c0 (some ⟨gf, ofs, none⟩) (rest.length + 1) c1 (cnt + 1)) 90 (0, 0)) :: (L1 ++ F)) := List.mem_cons_self ..
  have hmg : (gf, Obj.cells cur 102 (0, 0)) ∈ ((r, Obj.cells (rcells (some ⟨b, off, none⟩) ros.length c0 (some ⟨gf, ofs, none⟩) (rest.length + 1) c1 (cnt + 1)) 90 (0, 0)) :: (L1 ++ F)) := by rw [HL.out]; simp
  have e1 : (w1.setCell ⟨r, 2, none⟩ (.int .i64 ((cnt : Int) + 1))).cell? ⟨r, 1, none⟩ = some (.slice (some ⟨gf, ofs, none⟩) (rest.length + 1) c1) := h2.cell hm2 1
  have e1a : ∀ o, ((w1.setCell ⟨r, 2, none⟩ (.int .i64 ((cnt : Int) + 1))).alloc o).cell? ⟨r, 1, none⟩ = some (.slice (some ⟨gf, ofs, none⟩) (rest.length + 1) c1) := fun o => cell_old e1
  have e1b : ∀ o o2, (((w1.setCell ⟨r, 2, none⟩ (.int .i64 ((cnt : Int) + 1))).alloc o).alloc o2).cell? ⟨r, 1, none⟩ = some (.slice AX (rest.length + 1) c1) := fun o o2 => by rw [HAX.out]; exact cell_old (cell_old e1)
  have p0 : ∀ o, ((w1.setCell ⟨r, 2, none⟩ (.int .i64 ((cnt : Int) + 1))).alloc o).cell? ⟨gf, ofs, none⟩ = some (.int .i64 f.kind) := fun o => cell_old (by rw [h2.cell hmg]; simpa using k0)
  have p1 : ∀ o, ((w1.setCell ⟨r, 2, none⟩ (.int .i64 ((cnt : Int) + 1))).alloc o).cell? ⟨gf, ofs + 1, none⟩ = some (.int .i64 f.at_) := fun o => cell_old (by rw [h2.cell hmg]; simpa using k1)
  have p2 : ∀ o, ((w1.setCell ⟨r, 2, none⟩ (.int .i64 ((cnt : Int) + 1))).alloc o).cell? ⟨gf, ofs + 2, none⟩ = some (.int .u8 (f.v.toNat : Int)) := fun o => cell_old (by rw [h2.cell hmg]; simpa using k2)
  have h3 := (h2.alloc (.cells #[.int .i64 f.kind, .int .i64 f.at_, .int .u8 (f.v.toNat : Int)] 102)).alloc (.cells #[] 102)
  rw [World.size_alloc, hsz] at h3
  have hsrc := Row.src HT.out (fun q hq => h3.own q (by simp [hq]))
  have hone := fall_one rest
  have hpos : (0 : Int) < (rest.length : Int) + 1 := by omega
  have hrlt : r < w1.heap.size := h1.lt (p := (r, _)) hm1
  have hrn0 : r ≠ w1.heap.size := by omega
  have hrn1 : r ≠ w1.heap.size + 1 := by omega
  have H3 := Lib.hid h3; have HSRC := Lib.hid hsrc; have HONE := Lib.hid hone
  clear h3 hsrc hone h2 hset h1 e1 hcast hsz hm1 hm2 hmg k0 k1 k2 HL HT
  go_wp2_with (at_builtin; refine Hid.out ?_)
  refine Lib.hid ?_
  refine wpList_append_row0 (F := (w1.heap.size, .cells #[.int .i64 f.kind, .int .i64 f.at_, .int .u8 (f.v.toNat : Int)] 102 (0, 0)) :: (r, Obj.cells (rcells (some ⟨b, off, none⟩) ros.length c0 (some ⟨gf, ofs, none⟩) (rest.length + 1) c1 (cnt + 1)) 90 (0, 0)) :: (L1 ++ F)) (L := [(w1.heap.size + 1, .cells #[] 102 (0, 0))]) rfl (.tmp 41) (.tmp 46) 64 rfl 102 (.agg #[.int .i64 0, .int .i64 0, .int .u8 0]) 3 24 Tryd.underlying64 (by kernel_rfl) rfl (by omega) rfl (Row.empty 102 3 (w1.heap.size + 1)) (by exact H3.out) rfl (by exact HSRC.out) HONE.out rest.length (by omega) (fall rest) rfl (by unfold maxLen; omega) (by omega) ?_
  intro A5 c5 w5 L5 hr5 h5 ho5
  have hm5 : (r, Obj.cells (rcells (some ⟨b, off, none⟩) ros.length c0 (some ⟨gf, ofs, none⟩) (rest.length + 1) c1 (cnt + 1)) 90 (0, 0)) ∈ L5 ++ ((w1.heap.size, Obj.cells #[.int .i64 f.kind, .int .i64 f.at_, .int .u8 (f.v.toNat : Int)] 102 (0, 0)) :: (r, Obj.cells (rcells (some ⟨b, off, none⟩) ros.length c0 (some ⟨gf, ofs, none⟩) (rest.length + 1) c1 (cnt + 1)) 90 (0, 0)) :: (L1 ++ F)) := by simp
  have g1 : w5.cell? ⟨r, 1, none⟩ = some (.slice (some ⟨gf, ofs, none⟩) (rest.length + 1) c1) := h5.cell hm5 1
  have g1f : w5.frozen? ⟨r, 1, none⟩ = false := h5.frozen hm5 1
  have h6 := St.set (A := L5 ++ [(w1.heap.size, .cells #[.int .i64 f.kind, .int .i64 f.at_, .int .u8 (f.v.toNat : Int)] 102 (0, 0))]) (g := r) (cs := rcells (some ⟨b, off, none⟩) ros.length c0 (some ⟨gf, ofs, none⟩) (rest.length + 1) c1 (cnt + 1)) (t := 90) (fr := (0, 0)) (B := L1 ++ F) (by simpa using h5) 1 (.slice A5 rest.length c5)
  obtain ⟨fb, hfb⟩ : ∃ fb, fb = w1.heap.size := ⟨_, rfl⟩
  rw [← hfb] at h6
  have h7 : St W (w5.setCell ⟨r, 1, none⟩ (.slice A5 rest.length c5)) J ((fb, .cells #[.int .i64 f.kind, .int .i64 f.at_, .int .u8 (f.v.toNat : Int)] 102 (0, 0)) :: (r, Obj.cells (rcells (some ⟨b, off, none⟩) ros.length c0 A5 rest.length c5 (cnt + 1)) 90 (0, 0)) :: (L5 ++ F)) := by
    have h8 : St W (w5.setCell ⟨r, 1, none⟩ (.slice A5 rest.length c5)) J (L5 ++ ([(fb, .cells #[.int .i64 f.kind, .int .i64 f.at_, .int .u8 (f.v.toNat : Int)] 102 (0, 0)), (r, Obj.cells (rcells (some ⟨b, off, none⟩) ros.length c0 A5 rest.length c5 (cnt + 1)) 90 (0, 0))] ++ (L1 ++ F))) := by simpa [rcells] using h6
    have h9 := St.swap h8
    have h10 := St.mid (A := [(fb, Obj.cells #[.int .i64 f.kind, .int .i64 f.at_, .int .u8 (f.v.toNat : Int)] 102 (0, 0)), (r, Obj.cells (rcells (some ⟨b, off, none⟩) ros.length c0 A5 rest.length c5 (cnt + 1)) 90 (0, 0))] ++ L5) (B := L1) (F := F) (by simpa using h9)
    simpa using h10
  have hm7 : (r, Obj.cells (rcells (some ⟨b, off, none⟩) ros.length c0 A5 rest.length c5 (cnt + 1)) 90 (0, 0)) ∈ ((fb, Obj.cells #[.int .i64 f.kind, .int .i64 f.at_, .int .u8 (f.v.toNat : Int)] 102 (0, 0)) :: (r, Obj.cells (rcells (some ⟨b, off, none⟩) ros.length c0 A5 rest.length c5 (cnt + 1)) 90 (0, 0)) :: (L5 ++ F)) := by simp
  have e0 : (w5.setCell ⟨r, 1, none⟩ (.slice A5 rest.length c5)).cell? ⟨r, 0, none⟩ = some (.slice (some ⟨b, off, none⟩) ros.length c0) := h7.cell hm7 0
  have ep := h7.ro R1.out
  unfold Part.val at ep
  have cR := rright p HPO.out a n h7
  unfold Part.val at cR
  have CR := Lib.hid cR; have HR5 := Lib.hid hr5; have HFB := Lib.hid hfb
  clear cR h7 h6 h5 hr5 ho5 hm7 hm5 H3 HSRC HONE e1a e1b p0 p1 p2 d2 d2f hsl hfb
  go_wp2_with fail
  rw [← HFB.out]
  refine CR.out.mono ?_
  rintro e w3 ⟨v, rfl, A, c, Lr, rfl, hrow, h4⟩
  clear CR e0 ep g1 g1f
  obtain ⟨e0, e1, e2⟩ : w3.cell? ⟨fb, 0, none⟩ = some (.int .i64 f.kind) ∧ w3.cell? ⟨fb, 1, none⟩ = some (.int .i64 f.at_) ∧ w3.cell? ⟨fb, 2, none⟩ = some (.int .u8 (f.v.toNat : Int)) := by
    have hm : (fb, Obj.cells #[.int .i64 f.kind, .int .i64 f.at_, .int .u8 (f.v.toNat : Int)] 102 (0, 0)) ∈ Lr ++ ((fb, Obj.cells #[.int .i64 f.kind, .int .i64 f.at_, .int .u8 (f.v.toNat : Int)] 102 (0, 0)) :: (r, Obj.cells (rcells (some ⟨b, off, none⟩) ros.length c0 A5 rest.length c5 (cnt + 1)) 90 (0, 0)) :: (L5 ++ F)) := by simp
    exact ⟨h4.cell hm 0, h4.cell hm 1, h4.cell hm 2⟩
  have H4 := Lib.hid h4; have HR := Lib.hid hrow
  clear h4 hrow hrn0 hrn1 hrlt
  have hE := HBE.out
  unfold fetched at hE
  generalize hpc : piece p.bs a n = pc at *
  by_cases z1 : f.kind = 1
  · rw [if_pos z1] at hE
    injection hE with hB hE
    subst hB; subst hE
    rw [z1] at e0
    go_wp2_with fail
    go_ret2
    exact ⟨_, rfl, FreshR.nil (sub_row_fresh (L2 := []) HR5.out (St.weaken H4.out))⟩
  rw [if_neg z1] at hE
  by_cases z2 : f.kind = 2
  · rw [if_pos z2] at hE
    injection hE with hB hE
    subst hB; subst hE
    rw [z2] at e0
    by_cases hpn : pc = []
    · subst hpn
      go_wp2_with fail
      go_ret2
      exact ⟨_, rfl, A, c, Lr, rfl, HR.out, sub_row_fresh HR5.out H4.out⟩
    · have hpos : 0 < pc.length := by cases pc with | nil => exact absurd rfl hpn | cons _ _ => simp
      have hpos' : (0 : Int) < pc.length := by omega
      have key : ∀ i : Nat, (hil : i < pc.length) → (max f.at_ 0 % (pc.length : Int)).toNat = i → ∃ gb off1, A = some (⟨gb, off1, none⟩ : Addr) ∧ w3.cell? ⟨gb, off1 + i, none⟩ = some (.int .u8 ((pc[i]'hil).toNat : Int)) ∧ w3.frozen? ⟨gb, off1 + i, none⟩ = false ∧ FreshR W (w3.setCell ⟨gb, off1 + i, none⟩ (.int .u8 (((pc[i]'hil).toNat ^^^ f.v.toNat : Nat) : Int))) J r (some ⟨b, off, none⟩) ros.length c0 rest (cnt + 1) F (turned pc f) (.slice (some ⟨gb, off1, none⟩) pc.length c) := by
        intro i hil hi
        obtain ⟨gb, off1, cur1, rfl, hLr, hcur, hrow2⟩ := row_set (u := bval (pc[i] ^^^ f.v)) hil HR.out
        have hbc : w3.cell? ⟨gb, off1 + i, none⟩ = some (.int .u8 ((pc[i]'hil).toNat : Int)) := by
          rw [H4.out.cell (g := gb) (cs := cur1) (t := 5) (fr := (0, 0)) (by simp [hLr]), hcur, List.getElem?_map, List.getElem?_eq_getElem hil]
          rfl
        have hbf : w3.frozen? ⟨gb, off1 + i, none⟩ = false := H4.out.frozen (g := gb) (cs := cur1) (t := 5) (by simp [hLr]) _
        have hst4 := H4.out
        rw [hLr] at hst4
        have hset := St.set (A := []) hst4 (off1 + i) (bval (pc[i] ^^^ f.v))
        have hfin := sub_row_fresh (L2 := [(gb, .cells (cur1.setIfInBounds (off1 + i) (bval (pc[i] ^^^ f.v))) 5 (0, 0))]) HR5.out hset
        have htl : (turned pc f).length = pc.length := by rw [turned, if_neg hpn, List.length_modify]
        have htm : (turned pc f).map bval = (pc.map bval).set i (bval (pc[i] ^^^ f.v)) := by
          rw [turned, if_neg hpn, hi]
          apply List.ext_getElem?
          intro j
          simp only [List.getElem?_map, List.getElem?_modify, List.getElem?_set, List.length_map]
          by_cases hij : i = j
          · subst hij
            simp [hil]
          · simp [hij]
        have hv8 : bval (pc[i]'hil ^^^ f.v) = .int .u8 (((pc[i]'hil).toNat ^^^ f.v.toNat : Nat) : Int) := by rw [bval, UInt8.toNat_xor]
        have hfn : FreshR W (w3.setCell ⟨gb, off1 + i, none⟩ (bval (pc[i] ^^^ f.v))) J r (some ⟨b, off, none⟩) ros.length c0 rest (cnt + 1) F (turned pc f) (.slice (some ⟨gb, off1, none⟩) pc.length c) :=
          ⟨_, c, _, by rw [htl], by rw [htl, htm]; exact hrow2, hfin⟩
        rw [hv8] at hfn
        exact ⟨gb, off1, rfl, hbc, hbf, hfn⟩
      have KEY := Lib.hid key
      clear key
      by_cases hat : 0 < f.at_
      · obtain ⟨an, han⟩ := Int.eq_ofNat_of_zero_le (by omega : 0 ≤ f.at_)
        obtain ⟨i, hi⟩ : ∃ i, an % pc.length = i := ⟨_, rfl⟩
        have hil : i < pc.length := by rw [← hi]; exact Nat.mod_lt _ hpos
        have hil' : (i : Int) < pc.length := by omega
        have him : (max f.at_ 0 % (pc.length : Int)).toNat = i := by rw [Int.max_eq_left (by omega), han]; exact (by rw [← Int.natCast_emod, hi, Int.toNat_natCast])
        obtain ⟨gb, off1, rfl, hbc, hbf, hfn⟩ := KEY.out i hil him
        have hmod : (f.at_ % (pc.length : Int)) = (i : Int) := by rw [han]; exact (by rw [← Int.natCast_emod, hi])
        have hxo := u8_xorI (pc[i]'hil) f.v
        rw [UInt8.toNat_xor] at hxo
        have HFN := Lib.hid hfn
        clear hfn KEY HR H4 him han hi
        generalize hbx : pc[i]'hil = bx at *
        clear hbx
        go_wp2_with fail
        refine wp_region_quiet_tail 8 (by kernel_rfl) (by kernel_rfl) ?_
        simp only [List.take_succ_cons, List.take_zero, List.drop_succ_cons, List.drop_zero]
        repeat (go_big_quiet_step (fail))
        refine wpQuiet_nil ?_
        rintro _ ⟨nq, rfl⟩
        have hbc' : (w3.drewN nq).cell? ⟨gb, off1 + i, none⟩ = some (.int .u8 (bx.toNat : Int)) := hbc
        have hbf' : (w3.drewN nq).frozen? ⟨gb, off1 + i, none⟩ = false := hbf
        go_wp2_with fail
        go_ret2
        exact ⟨_, rfl, HFN.out.drew nq⟩
      · have him : (max f.at_ 0 % (pc.length : Int)).toNat = 0 := by rw [Int.max_eq_right (by omega)]; simp
        obtain ⟨gb, off1, rfl, hbc, hbf, hfn⟩ := KEY.out 0 hpos him
        rw [Nat.add_zero] at hbc hbf hfn
        have hxo := u8_xorI (pc[0]'hpos) f.v
        rw [UInt8.toNat_xor] at hxo
        have HFN := Lib.hid hfn
        clear hfn KEY HR H4 him
        generalize hbx : pc[0]'hpos = bx at *
        clear hbx
        go_wp2_with fail
        refine wp_region_quiet_tail 8 (by kernel_rfl) (by kernel_rfl) ?_
        simp only [List.take_succ_cons, List.take_zero, List.drop_succ_cons, List.drop_zero]
        repeat (go_big_quiet_step (fail))
        refine wpQuiet_nil ?_
        rintro _ ⟨nq, rfl⟩
        have hbc' : (w3.drewN nq).cell? ⟨gb, off1, none⟩ = some (.int .u8 (bx.toNat : Int)) := hbc
        have hbf' : (w3.drewN nq).frozen? ⟨gb, off1, none⟩ = false := hbf
        go_wp2_with fail
        go_ret2
        exact ⟨_, rfl, HFN.out.drew nq⟩
  rw [if_neg z2] at hE
  by_cases z3 : f.kind = 3
  · rw [if_pos z3] at hE
    injection hE with hB hE
    subst hB; subst hE
    rw [z3] at e0
    by_cases hat : f.at_ < 0
    · have hkn : (max 0 (min f.at_ (pc.length : Int))).toNat = 0 := by omega
      have HKN := Lib.hid hkn
      clear hkn
      go_wp2_with fail
      go_ret2
      exact ⟨_, rfl, by rw [HKN.out, List.take_zero]; exact FreshR.nil (sub_row_fresh (L2 := []) HR5.out (St.weaken H4.out))⟩
    · obtain ⟨kk, hkk⟩ := Int.eq_ofNat_of_zero_le (by omega : 0 ≤ f.at_)
      have hkk' : f.at_ = (kk : Int) := hkk
      rw [hkk'] at e1
      by_cases hlt : (kk : Int) < pc.length
      · have hkn : (max 0 (min f.at_ (pc.length : Int))).toNat = kk := by omega
        have HKN := Lib.hid hkn
        have hcap : pc.length ≤ c := by
          obtain ⟨_, ⟨_, h0, _⟩ | ⟨_, _, _, _, hv3, _, hnc, _⟩⟩ := HR.out
          · omega
          · injection hv3 with _ _ h3; omega
        have e5 := run_slice_to (P := Tryd.prog) (t := 27) Tryd.underlying27 (fun w => by simp [Tryd.sizeOf5 w]) A pc.length c kk (by omega)
        have hfn : FreshR W w3 J r (some ⟨b, off, none⟩) ros.length c0 rest (cnt + 1) F (pc.take kk) (.slice A kk c) := by
          have hr2 := row_take (by omega : kk ≤ pc.length) HR.out
          rw [← List.map_take] at hr2
          have hl2 : (pc.take kk).length = kk := by rw [List.length_take]; omega
          exact ⟨A, c, Lr, by rw [hl2], by rw [hl2]; exact hr2, sub_row_fresh HR5.out H4.out⟩
        have HFN := Lib.hid hfn
        clear hfn HR H4 hkn hkk hkk' hat
        go_wp2_with fail
        go_ret2
        exact ⟨_, rfl, by rw [HKN.out]; exact HFN.out⟩
      · have hkn : (max 0 (min f.at_ (pc.length : Int))).toNat = pc.length := by omega
        have HKN := Lib.hid hkn
        clear hkn hkk hkk' hat
        go_wp2_with fail
        go_ret2
        exact ⟨_, rfl, by rw [HKN.out, List.take_length]; exact ⟨A, c, Lr, rfl, HR.out, sub_row_fresh HR5.out H4.out⟩⟩
  rw [if_neg z3] at hE
  by_cases z4 : f.kind = 4
  · rw [if_pos z4] at hE
    injection hE with hB hE
    subst hB; subst hE
    rw [z4] at e0
    have hsl2 := rright p HPO.out f.at_ n H4.out
    unfold Part.val at hsl2
    have HSL2 := Lib.hid hsl2
    clear hsl2
    go_wp2_with fail
    refine HSL2.out.mono ?_
    rintro e w4 ⟨v, rfl, A2, c2, Lr2, rfl, hrow2, h5⟩
    have h6 := sub_row_fresh HR5.out (St.mid (A := Lr2) (B := Lr) h5)
    have H6 := Lib.hid h6; have HR2 := Lib.hid hrow2
    clear h6 h5 hrow2 HSL2 HR H4
    go_wp2_with fail
    go_ret2
    exact ⟨_, rfl, A2, c2, Lr2, rfl, HR2.out, H6.out⟩
  rw [if_neg z4] at hE
  injection hE with hB hE
  subst hB; subst hE
  go_wp2_with fail
  go_ret2
  exact ⟨_, rfl, A, c, Lr, rfl, HR.out, sub_row_fresh HR5.out H4.out⟩
end
end Go.Proofs.YtnhlpiomfljlcaaDoor
