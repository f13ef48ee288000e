/- image: Cut: walk. -/
import Derived.Test.YtkpgliaahibjgaaDoorCutA
namespace Go.Proofs.YtkpgliaahibjgaaDoor
set_option linter.unusedVariables false
set_option linter.unusedSimpArgs false
open Go.RowKit Go.Lib Go.Shelf
attribute [local go_sem] Oper.semAt_some

theorem spans_stops (n : Nat) (hn : 1 ≤ n) (b : Nat) (m : Man) (ok : m.Ok) (hmn : m.n ≤ 1000000) (hps : m.prod.size ≤ 140737488355328) (W0 : World) (tabs : Tabs W0) (w : World) (hb0 : Below W0.heap.size W0 w) (hb : b < w.heap.size) (hR : w.heap[b]? = some (.cells m.cells 34 (0, 0))) :
    SeqStopsK Fence.wide n Tryd.prog 53 #[.pointer (some ⟨b, 0, none⟩)] (fun i : Nat => #[.int .i64 (spanM m i).1, .int .i64 (sEnd m i)]) (Ksp W0.heap.size b) (fun ys => ys = List.range m.n) (fun pre => ∃ k, k ≤ m.n ∧ pre = List.range k) m.n w := fun l J Jx W hW hJ _ hY h0 =>
  spans1_in n hn l b m ok hmn hps W0 tabs J Jx (fun pre A B hj hg => hJ pre A B none hj hg (fun r e => by cases e)) hY W (hb0.trans (hW.mono hb0.size)) ((hW.block b hb).trans hR) h0

section
variable {W w : World} {I : Nat → Option Obj} {F : List (Nat × Obj)}
set_option maxRecDepth 100000 in
set_option maxHeartbeats 1000000 in
theorem spans_new (m : Man) (h : St W w I F) : Calls Tryd.prog 42 #[.agg m.cells] w fun e w' =>
    ∃ b, e = .returned (.func (.func 53) #[] #[.pointer (some ⟨b, 0, none⟩)]) ∧ St W w' I ((b, .cells m.cells 34 (0, 0)) :: F) := by
  have h1 := h.alloc (.cells m.cells 34)
  have H1 := Lib.hid h1
  clear h h1
  generalize m.cells = mc at *
  go_enter Tryd.func42, Tryd.ntmps42
  go_wp2_with fail
  go_ret
  exact ⟨_, rfl, H1.out⟩

/-- What a chunk is. -/
def cutAt (m : Man) (bs : List UInt8) (i : Nat) : List UInt8 := (bs.drop (spanM m i).1.toNat).take (spanM m i).2.toNat
theorem spanM_le {m : Man} (hr : rightM m = true) (i : Nat) : (spanM m i).1 + (spanM m i).2 ≤ m.size ∧ 0 ≤ (spanM m i).1 ∧ 0 ≤ (spanM m i).2 := by
  obtain ⟨_, _, _, h1, h2, h3, h4, _, h5, h6⟩ := (rightM_iff m).1 hr
  unfold spanM
  by_cases h : rightM m = true ∧ 0 ≤ (i : Int) ∧ (i : Int) < m.n
  · rw [if_pos h]
    obtain ⟨t1, t2, t3⟩ := cntM_span m.size m.chunk h1 (by omega)
    rw [← h5] at t1 t2 t3
    have p1 : (i : Int) * m.chunk ≤ ((m.n : Int) - 1) * m.chunk := Int.mul_le_mul_of_nonneg_right (by omega) (by omega)
    have p0 : 0 ≤ (i : Int) * m.chunk := Int.mul_nonneg (by omega) (by omega)
    generalize (i : Int) * m.chunk = P at *
    simp only
    omega
  · rw [if_neg h]
    simp only
    omega
/-- Blocks of ours turn no more; only they are new. -/
theorem St.freezes' (L0 : List (Nat × Obj)) (hst : St W w I (L0 ++ F)) : ∃ J, Le I J ∧ (∀ p ∈ L0, J p.1 = some p.2) ∧ (∀ b o, J b = some o → I b = some o ∨ (b, o) ∈ L0) ∧ St W w J F := by
  induction L0 generalizing I F with
  | nil => exact ⟨I, Le.refl I, by simp, fun b o h => .inl h, hst⟩
  | cons p L0 ih =>
    have h : St W w I ((p.1, p.2) :: (L0 ++ F)) := hst
    have hap := h.apart p (List.mem_cons_self ..)
    have hK : St W w (fun b => if b = p.1 then some p.2 else I b) (L0 ++ F) := by
      have hn := h.nodup
      simp only [List.map_cons, List.nodup_cons] at hn
      refine ⟨h.os, h.tape, h.output, fun q hq => h.own q (List.mem_cons_of_mem _ hq), hn.2, fun b o hb => ?_, fun q hq => ?_⟩
      · by_cases hbp : b = p.1
        · rw [if_pos hbp] at hb
          cases hb
          rw [hbp]
          exact h.own p (List.mem_cons_self ..)
        · rw [if_neg hbp] at hb
          exact h.imm b o hb
      · have hne : q.1 ≠ p.1 := fun e => hn.1 (e ▸ List.mem_map_of_mem hq)
        simp only [if_neg hne]
        exact h.apart q (List.mem_cons_of_mem _ hq)
    obtain ⟨J, j1, j2, j3, j4⟩ := ih hK
    refine ⟨J, fun b o hb => j1 b o ?_, fun q hq => ?_, fun b o hb => ?_, j4⟩
    · have : b ≠ p.1 := by rintro rfl; rw [hap] at hb; cases hb
      show (if b = p.1 then some p.2 else I b) = some o
      rw [if_neg this]; exact hb
    · rcases List.mem_cons.1 hq with rfl | hq
      · exact j1 _ _ (if_pos rfl)
      · exact j2 q hq
    · rcases j3 b o hb with h1 | h1
      · by_cases hbp : b = p.1
        · rw [if_pos hbp] at h1
          cases h1
          exact .inr (by rw [hbp]; exact List.mem_cons_self ..)
        · rw [if_neg hbp] at h1
          exact .inl h1
      · exact .inr (List.mem_cons_of_mem _ h1)
theorem St.grownC {w' : World} {B : Nat} {row : Option Nat} (h : St W w I F) (hI : ∀ b o, I b = some o → b < B ∨ o.isCells = true) (hL : ∀ p ∈ F, p.1 < B ∨ p.2.isCells = true) (hg : w.grownBy w' row) (hr : ∀ r, row = some r → B ≤ r ∧ ∃ o : Obj, w.heap[r]? = some o ∧ o.isCells = false) : St W w' I F :=
  ⟨hg.os.trans h.os, hg.tape.trans h.tape, hg.output.trans h.output, fun p hp => (hg.block p.1 (h.lt hp) (fun e => by
      obtain ⟨h1, o, h2, h3⟩ := hr _ e.symm
      rcases hL p hp with h4 | h4
      · omega
      · rw [h.own p hp] at h2
        cases h2
        rw [h4] at h3
        cases h3)).trans (h.own p hp), h.nodup,
   fun b o hb => (hg.block b (Array.getElem?_eq_some_iff.1 (h.imm b o hb)).1 (fun e => by
      obtain ⟨h1, o', h2, h3⟩ := hr _ e.symm
      rcases hI b o hb with h4 | h4
      · omega
      · rw [h.imm b o hb] at h2
        cases h2
        rw [h4] at h3
        cases h3)).trans (h.imm b o hb), h.apart⟩
theorem Row.objs {E : TypeId} {size n : Nat} {v : Value} {xs : List Value} {L : List (Nat × Obj)} (h : Row E size v n xs L) : ∀ p ∈ L, p.2.isCells = true := by
  intro p hp
  obtain ⟨_, ⟨_, _, rfl⟩ | ⟨g, off, cap, cur, _, rfl, _⟩⟩ := h
  · cases hp
  · simp at hp; subst hp; rfl

/-- Between two rounds. -/
structure CutI (W : World) (I : Nat → Option Obj) (F : List (Nat × Obj)) (m : Man) (bs : List UInt8) (B b6 : Nat) (X : List (Nat × Obj)) (pre : List Nat) (W1 : World) (J : Nat → Option Obj) (A : Option Addr) (c : Nat) (L0 : List (Nat × Obj)) (qs : List Part) : Prop where
  le : Le I J
  old : ∀ b o, J b = some o → b < B ∨ o.isCells = true
  bsq : qs.map (·.bs) = pre.map (cutAt m bs)
  in_ : ∀ q ∈ qs, q.In W J
  row : Row 22 1 (.slice A pre.length c) pre.length (qs.map Part.val) L0
  st : St W W1 J ((b6, .cells #[.slice A pre.length c] 52 (0, 0)) :: (L0 ++ (X ++ F)))
def CutX (W : World) (I : Nat → Option Obj) (F : List (Nat × Obj)) (m : Man) (bs : List UInt8) (B b6 : Nat) (X : List (Nat × Obj)) (pre : List Nat) (W1 : World) : Prop := ∃ J A c L0 qs, CutI W I F m bs B b6 X pre W1 J A c L0 qs
def CutPost (W : World) (I : Nat → Option Obj) (F : List (Nat × Obj)) (m : Man) (bs : List UInt8) (e : Ending) (w' : World) : Prop :=
  (rightM m = false → e = .returned (.tuple #[.slice none 0 0, .int .i64 131]) ∧ St W w' I F) ∧
  (rightM m = true → (bs.length : Int) ≠ m.size → e = .returned (.tuple #[.slice none 0 0, .int .i64 153]) ∧ St W w' I F) ∧
  (rightM m = true → (bs.length : Int) = m.size → ∃ J A c L0, ∃ qs : List Part, Le I J ∧ e = .returned (.tuple #[.slice A m.n c, .int .i64 0]) ∧ qs.map (·.bs) = (List.range m.n).map (cutAt m bs) ∧ (∀ q ∈ qs, q.In W J) ∧ Row 22 1 (.slice A m.n c) m.n (qs.map Part.val) L0 ∧ St W w' J (L0 ++ F))

/-- One round's end. -/
theorem cut_step (t : TB W I) {m : Man} {bs : List UInt8} {B b6 b x : Nat} {X : List (Nat × Obj)} {pre : List Nat} {W1 v : World} {J K : Nat → Option Obj} {A A3 A6 : Option Addr} {c c3 c6 g : Nat} {og ob : Obj} {L0 L3 L6 : List (Nat × Obj)} {qs : List Part} {ys : List UInt8}
    (HC : CutI W I F m bs B b6 X pre W1 J A c L0 qs) (hle : Le J K) (hall : ∀ b o, W1.heap[b]? = some o → (∀ p ∈ (b6, Obj.cells #[.slice A pre.length c] 52 (0, 0)) :: (L0 ++ (X ++ F)), p.1 ≠ b) → K b = some o) (hXb : (b, ob) ∈ X)
    (hys : cutAt m bs x = ys) (hg : W1.heap.size ≤ g) (hr3 : Row 5 1 (.slice A3 ys.length c3) ys.length (ys.map bval) L3)
    (hr6 : Row 22 1 (.slice A6 (pre.length + 1) c6) (pre.length + 1) ((qs ++ [(⟨A3, c3, ys⟩ : Part)]).map Part.val) L6)
    (hv : St W v K (L6 ++ (((g, og) :: (L3 ++ [(b6, Obj.cells #[.slice A6 (pre.length + 1) c6] 52 (0, 0))])) ++ (X ++ F)))) :
    KeepsOthers W1 v ∧ Ksp W.heap.size b W1 v ∧ CutX W I F m bs B b6 X (pre ++ [x]) v := by
  have hsz : W1.heap.size ≤ v.heap.size := by
    have h1 := hv.lt (p := (g, og)) (by simp)
    simp only at h1
    omega
  have hst := HC.st
  refine ⟨St.keeps hall hsz (fun p hp hc => ?_) hst hv, ⟨⟨hv.os.trans hst.os.symm, hv.tape.trans hst.tape.symm, hv.output.trans hst.output.symm, hsz, fun k hk => ?_⟩, ?_⟩, ?_⟩
  · rcases List.mem_cons.1 hp with rfl | hp
    · cases hc
    · rcases List.mem_append.1 hp with hp | hp
      · exact absurd (HC.row.objs p hp) (by rw [hc]; decide)
      · exact List.mem_append.2 (.inr (List.mem_append.2 (.inr hp)))
  · have h1 : W.heap[k]? = some (W.heap[k]'hk) := Array.getElem?_eq_getElem _
    have h2 := HC.le _ _ (t.le _ _ h1)
    exact (hv.imm _ _ (hle _ _ h2)).trans (hst.imm _ _ h2).symm
  · have h1 := hv.own (b, ob) (by simp [hXb])
    have h2 := hst.own (b, ob) (by simp [hXb])
    exact h1.trans h2.symm
  · have s1 := St.swap (A := L6) hv
    have s2 : St W v K ([(g, og)] ++ (L3 ++ ((b6, Obj.cells #[.slice A6 (pre.length + 1) c6] 52 (0, 0)) :: (L6 ++ (X ++ F))))) := by simpa using s1
    have s3 := St.less hle (St.mid (A := []) (B := [_]) s2)
    obtain ⟨J3, j1, j2, j3, j4⟩ := St.freezes' L3 s3
    have hin3 : Part.In ⟨A3, c3, ys⟩ W J3 := fun v L hv => hr3.src (fun p hp => hv.imm _ _ (j2 p hp))
    refine ⟨J3, A6, c6, L6, qs ++ [⟨A3, c3, ys⟩], HC.le.trans j1, fun b o h => ?_, ?_, fun q hq => ?_, ?_, ?_⟩
    · rcases j3 b o h with h1 | h1
      · exact HC.old b o h1
      · exact .inr (hr3.objs _ h1)
    · rw [List.map_append, List.map_append, HC.bsq, List.map_cons, List.map_cons, hys]
      rfl
    · rcases List.mem_append.1 hq with hq | hq
      · exact (HC.in_ q hq).mono j1
      · rw [List.mem_singleton] at hq
        rw [hq]
        exact hin3
    · rw [List.length_append]
      exact hr6
    · rw [List.length_append]
      exact j4

set_option maxRecDepth 100000 in
set_option maxHeartbeats 4000000 in
theorem icut (t : TB W I) (m : Man) (ok : m.Ok) (hps : m.prod.size ≤ 140737488355328) (p : Part) (hp : p.In W I) (hl : p.bs.length ≤ 1000000) (hcap : p.bs.length ≤ p.c) (h : St W w I F) :
    Calls Tryd.prog 24 #[.agg m.cells, .slice p.A p.bs.length p.c] w (CutPost W I F m p.bs) := by
  obtain ⟨A0, cap, bs⟩ := p
  simp only at hl hcap ⊢
  have h1 := (h.alloc (.cells m.cells 34)).alloc (.cells #[.slice A0 bs.length cap] 22)
  rw [World.size_alloc] at h1
  generalize hb2 : w.heap.size = b2 at *
  have hmi : (Tryd.prog.info? 34).map (·.size) = some m.cells.size := by rw [Man.cells_size ok]; kernel_rfl
  have kR := right_own t m ok hps h1
  obtain ⟨R, hR⟩ : ∃ R, rightM m = R := ⟨_, rfl⟩
  rw [hR, show m.val = .agg m.cells from rfl] at kR
  have H1 := Lib.hid h1; have HMI := Lib.hid hmi; have KR := Lib.hid kR; have HR := Lib.hid hR; have HP := Lib.hid hp; have TT := Lib.hid t; have OK := Lib.hid ok
  clear h h1 hmi kR hR hp t ok
  refine (callsIn_wide (n := 3)).1 ?_
  refine callsIn_of_wp_marks Tryd.func24 rfl trivial ?_ rfl
  simp only [Tryd.ntmps24, List.size_toArray, List.length_cons, List.length_nil, Nat.reduceAdd, Nat.reduceSub, Array.replicate_succ, Array.replicate_zero, List.push_toArray, List.append_toArray, List.nil_append, List.cons_append]
  rw [wpIn_wide]
  go_wp2_with (first
    | (with_reducible refine wpList_load_st rfl 34 (.tmp 2) rfl (g := b2) (off := 0) rfl H1.out (List.mem_cons_of_mem _ (List.mem_cons_self ..)) m.cells (fun j hj => by rw [Nat.zero_add]) _ Tryd.underlying34 rfl HMI.out ?_)
    | (go_at_call 29; refine KR.out.mono ?_; rintro e w4 ⟨rfl, h4⟩; refine Hid.out ?_))
  refine Lib.hid ?_
  clear H1 KR
  cases R with
  | false =>
    have H4 := Lib.hid h4
    clear h4
    go_wp2_with fail
    (try simp only [Exit.inBlock, Exit.then])
    refine ⟨_, results_tmp2 rfl _ _ _, ?_⟩
    refine ⟨fun _ => ⟨rfl, St.weaken (A := [_, _]) H4.out⟩, fun h => ?_, fun h => ?_⟩ <;> (rw [HR.out] at h; cases h)
  | true =>
    have e2 : w4.cell? ⟨b2, 2, none⟩ = some (.int .i64 m.size) := (h4.cell (g := b2) (cs := m.cells) (t := 34) (fr := (0, 0)) (by simp) 2).trans (Man.g2 m)
    have e3 : w4.cell? ⟨b2 + 1, 0, none⟩ = some (.slice A0 bs.length cap) := h4.cell (g := b2 + 1) (cs := #[.slice A0 bs.length cap]) (t := 22) (fr := (0, 0)) (by simp) 0
    by_cases hsz : (bs.length : Int) = m.size
    · rw [← hsz] at e2
      obtain ⟨b6, hb6⟩ : ∃ b, w4.heap.size = b := ⟨_, rfl⟩
      have h6 := h4.alloc (.cells #[.slice none 0 0] 52)
      rw [hb6] at h6
      have kS := spans_new m h6
      have H6 := Lib.hid h6; have KS := Lib.hid kS; have HSZ := Lib.hid hsz; have HB6 := Lib.hid hb6
      clear h4 h6 kS hsz hb6
      go_wp2_with (first
        | (with_reducible refine wpList_load_st rfl 34 (.tmp 2) rfl (g := b2) (off := 0) rfl H6.out (List.mem_cons_of_mem _ (List.mem_cons_of_mem _ (List.mem_cons_self ..))) m.cells (fun j hj => by rw [Nat.zero_add]) _ Tryd.underlying34 rfl HMI.out ?_)
        | (go_at_call 42; refine KS.out.mono ?_; rintro e w5 ⟨b, rfl, h5⟩; refine Hid.out ?_))
      refine Lib.hid ?_
      rw [HB6.out]
      clear HB6 H6 KS e2 e3
      have hb1 : b < w5.heap.size := h5.lt (p := (b, .cells m.cells 34 (0, 0))) (by simp)
      have hR : w5.heap[b]? = some (.cells m.cells 34 (0, 0)) := h5.own (b, .cells m.cells 34 (0, 0)) (by simp)
      have hb6 : b6 < w5.heap.size := h5.lt (p := (b6, .cells #[.slice none 0 0] 52 (0, 0))) (by simp)
      have hbel := h5.below TT.out.le
      have hI := h5.ilt
      obtain ⟨X, hX⟩ : ∃ X, X = [(b, Obj.cells m.cells 34 (0, 0)), (b2 + 1, Obj.cells #[.slice A0 bs.length cap] 22 (0, 0)), (b2, Obj.cells m.cells 34 (0, 0))] := ⟨_, rfl⟩
      have h6 : St W w5 I ((b6, .cells #[.slice none 0 0] 52 (0, 0)) :: (X ++ F)) := by rw [hX]; exact St.swap (A := [_]) (B := [_]) h5
      have hXF : ∀ p ∈ X ++ F, p.1 < w5.heap.size := fun p hp => h6.lt (List.mem_cons_of_mem _ hp)
      have h7 : CutX W I F m bs w5.heap.size b6 X [] w5 := ⟨I, none, 0, [], [], Le.refl I, fun b o h => .inl (hI b o h), rfl, by simp, Row.nil _ _, h6⟩
      have ownL : ∀ (A' : Option Addr) (n' c' : Nat) (xs' : List Value) (L0 : List (Nat × Obj)), Row 22 1 (.slice A' n' c') n' xs' L0 → ∀ p ∈ (b6, Obj.cells #[.slice A' n' c'] 52 (0, 0)) :: (L0 ++ (X ++ F)), p.1 < w5.heap.size ∨ p.2.isCells = true := by
        intro A' n' c' xs' L0 hr p hp
        rcases List.mem_cons.1 hp with rfl | hp
        · exact .inl hb6
        · rcases List.mem_append.1 hp with hp | hp
          · exact .inr (hr.objs p hp)
          · exact .inl (hXF p hp)
      have own : OwnFrom w5.heap.size (CutX W I F m bs w5.heap.size b6 X) := by
        rintro s A B row ⟨J, A', c', L0, qs, HC⟩ hg hrow
        exact ⟨J, A', c', L0, qs, HC.le, HC.old, HC.bsq, HC.in_, HC.row, HC.st.grownC HC.old (ownL _ _ _ _ _ HC.row) hg hrow⟩
      have hmn : m.n ≤ 1000000 := by have := (rightM_iff m).1 HR.out; omega
      have OWNL := Lib.hid ownL; have H7 := Lib.hid h7; have OWN := Lib.hid own; have HX := Lib.hid hX; have HRR := Lib.hid hR; have HBEL := Lib.hid hbel
      clear h5 h6 h7 ownL own hX hR hbel hI
      go_wp2_with fail
      refine (wpIn_wide (n := 3)).1 ?_
      refine' wpIn_rangeFunc_ownF (n := 3) rfl (by omega) (gf := 53) (lb := #[.pointer (some ⟨b, 0, none⟩)]) rfl trivial (enters_of Tryd.func53 (by kernel_rfl) rfl)
        (spans_stops 2 (by omega) b m OK.out hmn hps W TT.out.tabs w5 HBEL.out hb1 HRR.out) Ksp_t (Ksp_b HBEL.out.size hb1) (Below.refl _ _) (fun _ => rfl)
        (CutX W I F m bs w5.heap.size b6 X) (fun _ _ _ => False) OWN.out (fun _ _ _ _ _ hs _ _ => hs) H7.out _ ?assign ?body ?done ?stop
      case assign =>
        intro l x W K hK
        gi_wp2
        exact hK
      case body =>
        rintro l pre x W1 ⟨J, A, c, L0, qs, HC⟩ hlen
        obtain ⟨KF, hle, hall, hK⟩ := HC.st.others
        have hpl : pre.length ≤ 1000000 := by omega
        obtain ⟨r1, r2, r3⟩ := spanM_le HR.out x
        obtain ⟨P, hP⟩ : ∃ P : Nat, (spanM m x).1 = (P : Int) := ⟨_, (Int.toNat_of_nonneg r2).symm⟩
        obtain ⟨Q, hQ⟩ : ∃ Q : Nat, (spanM m x).2 = (Q : Int) := ⟨_, (Int.toNat_of_nonneg r3).symm⟩
        obtain ⟨E, hE⟩ : ∃ E : Nat, P + Q = E := ⟨_, rfl⟩
        have hsE : sEnd m x = (E : Int) := by unfold sEnd; rw [hP, hQ, ← hE]; omega
        have hPE : P ≤ E := by omega
        have hEl : E ≤ bs.length := by have := HSZ.out; rw [hP, hQ] at r1; omega
        have hEc : E ≤ cap := by omega
        obtain ⟨ys, hys⟩ : ∃ ys, cutAt m bs x = ys := ⟨_, rfl⟩
        have hyl : ys.length = E - P := by
          rw [← hys]; unfold cutAt
          rw [hP, hQ, List.length_take, List.length_drop, Int.toNat_natCast, Int.toNat_natCast]; omega
        have hin : Part.In ⟨subA A0 cap P, cap - P, ys⟩ W KF := by
          have h1 := Part.In_take (cap - P) Q (Part.In_drop (cap - P) P hcap (HP.out.mono (HC.le.trans hle)))
          rw [← hys]; unfold cutAt
          rw [hP, hQ, Int.toNat_natCast, Int.toNat_natCast]
          exact h1
        have kC : ∀ v, St W v KF ((b6, .cells #[.slice A pre.length c] 52 (0, 0)) :: (L0 ++ (X ++ F))) → Calls Tryd.prog 43 #[.slice (subA A0 cap P) (E - P) (cap - P)] v (fun e w' => ∃ v', e = .returned v' ∧ FreshB W w' KF ((b6, .cells #[.slice A pre.length c] 52 (0, 0)) :: (L0 ++ (X ++ F))) ys v') := fun v hv => by
          have h9 := clone_bytes (w := v) ⟨subA A0 cap P, cap - P, ys⟩ hin (by simp only; omega) hv
          simp only [Part.val, hyl] at h9
          exact h9
        have sl := fun w => run_slice_mid Tryd.underlying22 Tryd.sizeOf5 A0 bs.length cap P E hPE hEc w
        have hX3 : (b2 + 1, Obj.cells #[.slice A0 bs.length cap] 22 (0, 0)) ∈ X := by rw [HX.out]; simp
        have hX1 : (b, Obj.cells m.cells 34 (0, 0)) ∈ X := by rw [HX.out]; simp
        have hd := hK.drew1
        have facts : ∀ v Y, St W v KF (Y ++ ((b6, .cells #[.slice A pre.length c] 52 (0, 0)) :: (L0 ++ (X ++ F)))) → v.cell? ⟨b6, 0, none⟩ = some (.slice A pre.length c) ∧ v.cell? ⟨b2 + 1, 0, none⟩ = some (.slice A0 bs.length cap) := fun v Y hv =>
          ⟨hv.cell (g := b6) (cs := #[.slice A pre.length c]) (t := 52) (fr := (0, 0)) (by simp) 0, hv.cell (g := b2 + 1) (cs := #[.slice A0 bs.length cap]) (t := 22) (fr := (0, 0)) (by simp [hX3]) 0⟩
        have hrow := HC.row
        obtain ⟨d6, d3⟩ := facts _ [] hd
        have hPi : (P : Int) ≤ (E : Int) := by omega
        have hEi : (E : Int) ≤ (bs.length : Int) := by omega
        have hEci : (E : Int) ≤ (cap : Int) := by omega
        have HK := Lib.hid hK; have HD := Lib.hid hd; have KC := Lib.hid kC; have FACTS := Lib.hid facts; have HROW := Lib.hid hrow; have HLE := Lib.hid hle; have HALL := Lib.hid hall; have HHC := Lib.hid HC; have HYS := Lib.hid hys; have HYL := Lib.hid hyl; have HX1 := Lib.hid hX1; have HX3 := Lib.hid hX3
        clear HC hle hall hK hd kC facts hrow hys hyl hX1 hX3 r1 r2 r3 hQ hE hlen hin
        simp only [hP, hsE]
        clear hP hsE
        gi_wp2_with fail
        refine wpIn_region_held (S := fun v => v.cell? ⟨b2 + 1, 0, none⟩ = some (.slice A0 bs.length cap)) (by kernel_rfl) (by kernel_rfl) d3 fun hHeld => ?_
        refine wpAnyH_take (i := 1) (oi := ?_) (v := ?_) ?_ ?_ ?_ ?_ ?_ ?_ ?_ ?_
        rotate_left 2
        · (simp only [List.getElem?_toArray, List.getElem?_cons_succ, List.getElem?_cons_zero]; exact rfl)
        · kernel_rfl
        · kernel_rfl
        · kernel_rfl
        · exact fun _ _ _ h => h
        · ((refine Or.inl ⟨by rfl, ?_⟩; intro w hSw; (try dsimp only at hSw); go_simp; try with_reducible rfl))
        · assumption
        try simp only [Act.put, List.setIfInBounds_toArray, List.set_cons_zero, List.set_cons_succ]
        refine wpAnyH_take (i := 2) (oi := ?_) (v := ?_) ?_ ?_ ?_ ?_ ?_ ?_ ?_ ?_
        rotate_left 2
        · (simp only [List.getElem?_toArray, List.getElem?_cons_succ, List.getElem?_cons_zero]; exact rfl)
        · kernel_rfl
        · kernel_rfl
        · kernel_rfl
        · exact fun _ _ _ h => h
        · (refine Or.inl ⟨by rfl, ?_⟩; intro w hSw; (try dsimp only at hSw); go_simp; try with_reducible rfl)
        · assumption
        try simp only [Act.put, List.setIfInBounds_toArray, List.set_cons_zero, List.set_cons_succ]
        refine wpAnyH_take (i := 3) (oi := ?_) (v := ?_) ?_ ?_ ?_ ?_ ?_ ?_ ?_ ?_
        rotate_left 2
        · (simp only [List.getElem?_toArray, List.getElem?_cons_succ, List.getElem?_cons_zero]; exact rfl)
        · kernel_rfl
        · kernel_rfl
        · kernel_rfl
        · exact fun _ _ _ h => h
        · (refine Or.inl ⟨by rfl, ?_⟩; intro w hSw; (try dsimp only at hSw); go_simp; try with_reducible rfl)
        · assumption
        try simp only [Act.put, List.setIfInBounds_toArray, List.set_cons_zero, List.set_cons_succ]
        refine wpAnyH_take (i := 4) (oi := ?_) (v := ?_) ?_ ?_ ?_ ?_ ?_ ?_ ?_ ?_
        rotate_left 2
        · (simp only [List.getElem?_toArray, List.getElem?_cons_succ, List.getElem?_cons_zero]; exact rfl)
        · kernel_rfl
        · kernel_rfl
        · kernel_rfl
        · exact fun _ _ _ h => h
        · (refine Or.inl ⟨by rfl, ?_⟩; intro w hSw; (try dsimp only at hSw); go_simp; try with_reducible rfl)
        · assumption
        try simp only [Act.put, List.setIfInBounds_toArray, List.set_cons_zero, List.set_cons_succ]
        refine wpAnyH_ready (rs := [0, 5]) (by kernel_rfl) (by simp) ?_
        refine AllReadyH.cons (o := ?_) ?_ (fun K hK => ?_) ?_
        rotate_left 1
        · (simp only [List.getElem?_toArray, List.getElem?_cons_succ, List.getElem?_cons_zero]; exact rfl)
        · go_simp
          refine hK.out _ _ ?_ (fun hHeld => ?_)
          · (try dsimp only) <;> (assumption)
          clear hK K
          try simp only [Act.put, List.setIfInBounds_toArray, List.set_cons_zero, List.set_cons_succ]
          refine wpAnyH_ready (rs := [5]) (by kernel_rfl) (by simp) ?_
          refine AllReadyH.cons (o := ?_) ?_ (fun K hK => ?_) ?_
          rotate_left 1
          · (simp only [List.getElem?_toArray, List.getElem?_cons_succ, List.getElem?_cons_zero]; exact rfl)
          · go_simp
            (go_at_call 43; (refine (KC.out _ HD.out).mono ?_); rintro e wx ⟨v', rfl, A3, c3, L3, rfl, hr3, h3⟩; obtain ⟨x6, x3⟩ := FACTS.out _ _ h3; have h4 := h3.alloc (.cells #[.slice A3 ys.length c3] 22); obtain ⟨y6, y3⟩ := FACTS.out _ (_ :: _) h4; have HSZ1 : W1.heap.size ≤ wx.heap.size := St.size_le HALL.out (fun p hp => ⟨p, List.mem_append.2 (.inr hp), rfl⟩) h3; have H3 := Lib.hid h3; have H4 := Lib.hid h4; have HR3 := Lib.hid hr3; clear h3 h4 hr3; dsimp only)
            refine hK.out _ _ ?_ (fun hHeld => ?_)
            · (try dsimp only) <;> (assumption)
            clear hK K
            try simp only [Act.put, List.setIfInBounds_toArray, List.set_cons_zero, List.set_cons_succ]
            refine wpAnyH_ready (rs := [6]) (by kernel_rfl) (by simp) ?_
            refine AllReadyH.cons (o := ?_) ?_ (fun K hK => ?_) ?_
            rotate_left 1
            · (simp only [List.getElem?_toArray, List.getElem?_cons_succ, List.getElem?_cons_zero]; exact rfl)
            · go_simp
              refine hK.out _ _ ?_ (fun hHeld => ?_)
              · (try dsimp only) <;> (assumption)
              clear hK K
              try simp only [Act.put, List.setIfInBounds_toArray, List.set_cons_zero, List.set_cons_succ]
              refine wpAnyH_ready (rs := [7]) (by kernel_rfl) (by simp) ?_
              refine AllReadyH.cons (o := ?_) ?_ (fun K hK => ?_) ?_
              rotate_left 1
              · (simp only [List.getElem?_toArray, List.getElem?_cons_succ, List.getElem?_cons_zero]; exact rfl)
              · ((refine step_append_row (F := ((wx.heap.size, .cells #[.slice A3 ys.length c3] 22 (0, 0)) :: (L3 ++ [(b6, .cells #[.slice A pre.length c] 52 (0, 0))])) ++ (X ++ F)) rfl (.tmp 23) (.tmp 29) 52 rfl 22 (.slice none 0 0) 1 24 Tryd.underlying52 (by kernel_rfl) rfl (by omega) rfl HROW.out (St.swap (A := (wx.heap.size, .cells #[.slice A3 ys.length c3] 22 (0, 0)) :: (L3 ++ [(b6, .cells #[.slice A pre.length c] 52 (0, 0))])) (B := L0) (by simpa using H4.out)) rfl (Src.newS _ 1 #[.slice A3 ys.length c3] 22 rfl 1 rfl) (by intro u hu; simp at hu; subst hu; rfl) (pre.length + 1) rfl ((qs ++ [(⟨A3, c3, ys⟩ : Part)]).map Part.val) (by rw [List.map_append]; rfl) (by unfold maxLen; omega) (by omega) ?_; intro A6 c6 w6 L6 hr6 h6; have g3 : w6.cell? ⟨b2 + 1, 0, none⟩ = some (.slice A0 bs.length cap) := h6.cell (g := b2 + 1) (cs := #[.slice A0 bs.length cap]) (t := 22) (fr := (0, 0)) (by simp [HX3.out]) 0; have g0 : w6.cell? ⟨b6, 0, none⟩ = some (.slice A pre.length c) := h6.cell (g := b6) (cs := #[.slice A pre.length c]) (t := 52) (fr := (0, 0)) (by simp) 0; have g1 : w6.frozen? ⟨b6, 0, none⟩ = false := h6.frozen (g := b6) (cs := #[.slice A pre.length c]) (t := 52) (by simp) 0; have h7 : St W (w6.setCell ⟨b6, 0, none⟩ (.slice A6 (pre.length + 1) c6)) KF (L6 ++ (((wx.heap.size, .cells #[.slice A3 ys.length c3] 22 (0, 0)) :: (L3 ++ [(b6, .cells #[.slice A6 (pre.length + 1) c6] 52 (0, 0))])) ++ (X ++ F))) := (by have h8 := St.set (A := L6 ++ (wx.heap.size, .cells #[.slice A3 ys.length c3] 22 (0, 0)) :: L3) (g := b6) (cs := #[.slice A pre.length c]) (t := 52) (fr := (0, 0)) (B := X ++ F) (by simpa using h6) 0 (.slice A6 (pre.length + 1) c6); simpa using h8); have q3 : (w6.setCell ⟨b6, 0, none⟩ (.slice A6 (pre.length + 1) c6)).cell? ⟨b2 + 1, 0, none⟩ = some (.slice A0 bs.length cap) := h7.cell (g := b2 + 1) (cs := #[.slice A0 bs.length cap]) (t := 22) (fr := (0, 0)) (by simp [HX3.out]) 0; have H7 := Lib.hid h7; have HR6 := Lib.hid hr6; clear h6 h7 hr6; dsimp only))
                refine hK.out _ _ ?_ (fun hHeld => ?_)
                · (try dsimp only) <;> (assumption)
                clear hK K
                try simp only [Act.put, List.setIfInBounds_toArray, List.set_cons_zero, List.set_cons_succ]
                refine wpAnyH_ready (rs := [8]) (by kernel_rfl) (by simp) ?_
                refine AllReadyH.cons (o := ?_) ?_ (fun K hK => ?_) ?_
                rotate_left 1
                · (simp only [List.getElem?_toArray, List.getElem?_cons_succ, List.getElem?_cons_zero]; exact rfl)
                · go_simp
                  refine hK.out _ _ ?_ (fun hHeld => ?_)
                  · (try dsimp only) <;> (assumption)
                  clear hK K
                  try simp only [Act.put, List.setIfInBounds_toArray, List.set_cons_zero, List.set_cons_succ]
                  refine wpAnyH_done (by kernel_rfl) ?_ _
                  refine ⟨rfl, ?_⟩
                  exact cut_step TT.out HHC.out HLE.out HALL.out HX1.out HYS.out HSZ1 HR3.out HR6.out H7.out
                exact AllReadyH.nil
              exact AllReadyH.nil
            exact AllReadyH.nil
          exact AllReadyH.nil
        refine AllReadyH.cons (o := ?_) ?_ (fun K hK => ?_) ?_
        rotate_left 1
        · (simp only [List.getElem?_toArray, List.getElem?_cons_succ, List.getElem?_cons_zero]; exact rfl)
        · go_simp
          (go_at_call 43; (refine (KC.out _ HD.out).mono ?_); rintro e wx ⟨v', rfl, A3, c3, L3, rfl, hr3, h3⟩; obtain ⟨x6, x3⟩ := FACTS.out _ _ h3; have h4 := h3.alloc (.cells #[.slice A3 ys.length c3] 22); obtain ⟨y6, y3⟩ := FACTS.out _ (_ :: _) h4; have HSZ1 : W1.heap.size ≤ wx.heap.size := St.size_le HALL.out (fun p hp => ⟨p, List.mem_append.2 (.inr hp), rfl⟩) h3; have H3 := Lib.hid h3; have H4 := Lib.hid h4; have HR3 := Lib.hid hr3; clear h3 h4 hr3; dsimp only)
          refine hK.out _ _ ?_ (fun hHeld => ?_)
          · (try dsimp only) <;> (assumption)
          clear hK K
          try simp only [Act.put, List.setIfInBounds_toArray, List.set_cons_zero, List.set_cons_succ]
          refine wpAnyH_ready (rs := [0, 6]) (by kernel_rfl) (by simp) ?_
          refine AllReadyH.cons (o := ?_) ?_ (fun K hK => ?_) ?_
          rotate_left 1
          · (simp only [List.getElem?_toArray, List.getElem?_cons_succ, List.getElem?_cons_zero]; exact rfl)
          · go_simp
            refine hK.out _ _ ?_ (fun hHeld => ?_)
            · (try dsimp only) <;> (assumption)
            clear hK K
            try simp only [Act.put, List.setIfInBounds_toArray, List.set_cons_zero, List.set_cons_succ]
            refine wpAnyH_ready (rs := [6]) (by kernel_rfl) (by simp) ?_
            refine AllReadyH.cons (o := ?_) ?_ (fun K hK => ?_) ?_
            rotate_left 1
            · (simp only [List.getElem?_toArray, List.getElem?_cons_succ, List.getElem?_cons_zero]; exact rfl)
            · go_simp
              refine hK.out _ _ ?_ (fun hHeld => ?_)
              · (try dsimp only) <;> (assumption)
              clear hK K
              try simp only [Act.put, List.setIfInBounds_toArray, List.set_cons_zero, List.set_cons_succ]
              refine wpAnyH_ready (rs := [7]) (by kernel_rfl) (by simp) ?_
              refine AllReadyH.cons (o := ?_) ?_ (fun K hK => ?_) ?_
              rotate_left 1
              · (simp only [List.getElem?_toArray, List.getElem?_cons_succ, List.getElem?_cons_zero]; exact rfl)
              · ((refine step_append_row (F := ((wx.heap.size, .cells #[.slice A3 ys.length c3] 22 (0, 0)) :: (L3 ++ [(b6, .cells #[.slice A pre.length c] 52 (0, 0))])) ++ (X ++ F)) rfl (.tmp 23) (.tmp 29) 52 rfl 22 (.slice none 0 0) 1 24 Tryd.underlying52 (by kernel_rfl) rfl (by omega) rfl HROW.out (St.swap (A := (wx.heap.size, .cells #[.slice A3 ys.length c3] 22 (0, 0)) :: (L3 ++ [(b6, .cells #[.slice A pre.length c] 52 (0, 0))])) (B := L0) (by simpa using H4.out)) rfl (Src.newS _ 1 #[.slice A3 ys.length c3] 22 rfl 1 rfl) (by intro u hu; simp at hu; subst hu; rfl) (pre.length + 1) rfl ((qs ++ [(⟨A3, c3, ys⟩ : Part)]).map Part.val) (by rw [List.map_append]; rfl) (by unfold maxLen; omega) (by omega) ?_; intro A6 c6 w6 L6 hr6 h6; have g3 : w6.cell? ⟨b2 + 1, 0, none⟩ = some (.slice A0 bs.length cap) := h6.cell (g := b2 + 1) (cs := #[.slice A0 bs.length cap]) (t := 22) (fr := (0, 0)) (by simp [HX3.out]) 0; have g0 : w6.cell? ⟨b6, 0, none⟩ = some (.slice A pre.length c) := h6.cell (g := b6) (cs := #[.slice A pre.length c]) (t := 52) (fr := (0, 0)) (by simp) 0; have g1 : w6.frozen? ⟨b6, 0, none⟩ = false := h6.frozen (g := b6) (cs := #[.slice A pre.length c]) (t := 52) (by simp) 0; have h7 : St W (w6.setCell ⟨b6, 0, none⟩ (.slice A6 (pre.length + 1) c6)) KF (L6 ++ (((wx.heap.size, .cells #[.slice A3 ys.length c3] 22 (0, 0)) :: (L3 ++ [(b6, .cells #[.slice A6 (pre.length + 1) c6] 52 (0, 0))])) ++ (X ++ F))) := (by have h8 := St.set (A := L6 ++ (wx.heap.size, .cells #[.slice A3 ys.length c3] 22 (0, 0)) :: L3) (g := b6) (cs := #[.slice A pre.length c]) (t := 52) (fr := (0, 0)) (B := X ++ F) (by simpa using h6) 0 (.slice A6 (pre.length + 1) c6); simpa using h8); have q3 : (w6.setCell ⟨b6, 0, none⟩ (.slice A6 (pre.length + 1) c6)).cell? ⟨b2 + 1, 0, none⟩ = some (.slice A0 bs.length cap) := h7.cell (g := b2 + 1) (cs := #[.slice A0 bs.length cap]) (t := 22) (fr := (0, 0)) (by simp [HX3.out]) 0; have H7 := Lib.hid h7; have HR6 := Lib.hid hr6; clear h6 h7 hr6; dsimp only))
                refine hK.out _ _ ?_ (fun hHeld => ?_)
                · (try dsimp only) <;> (assumption)
                clear hK K
                try simp only [Act.put, List.setIfInBounds_toArray, List.set_cons_zero, List.set_cons_succ]
                refine wpAnyH_ready (rs := [8]) (by kernel_rfl) (by simp) ?_
                refine AllReadyH.cons (o := ?_) ?_ (fun K hK => ?_) ?_
                rotate_left 1
                · (simp only [List.getElem?_toArray, List.getElem?_cons_succ, List.getElem?_cons_zero]; exact rfl)
                · go_simp
                  refine hK.out _ _ ?_ (fun hHeld => ?_)
                  · (try dsimp only) <;> (assumption)
                  clear hK K
                  try simp only [Act.put, List.setIfInBounds_toArray, List.set_cons_zero, List.set_cons_succ]
                  refine wpAnyH_done (by kernel_rfl) ?_ _
                  refine ⟨rfl, ?_⟩
                  exact cut_step TT.out HHC.out HLE.out HALL.out HX1.out HYS.out HSZ1 HR3.out HR6.out H7.out
                exact AllReadyH.nil
              exact AllReadyH.nil
            exact AllReadyH.nil
          refine AllReadyH.cons (o := ?_) ?_ (fun K hK => ?_) ?_
          rotate_left 1
          · (simp only [List.getElem?_toArray, List.getElem?_cons_succ, List.getElem?_cons_zero]; exact rfl)
          · go_simp
            refine hK.out _ _ ?_ (fun hHeld => ?_)
            · (try dsimp only) <;> (assumption)
            clear hK K
            try simp only [Act.put, List.setIfInBounds_toArray, List.set_cons_zero, List.set_cons_succ]
            refine wpAnyH_ready (rs := [0]) (by kernel_rfl) (by simp) ?_
            refine AllReadyH.cons (o := ?_) ?_ (fun K hK => ?_) ?_
            rotate_left 1
            · (simp only [List.getElem?_toArray, List.getElem?_cons_succ, List.getElem?_cons_zero]; exact rfl)
            · go_simp
              refine hK.out _ _ ?_ (fun hHeld => ?_)
              · (try dsimp only) <;> (assumption)
              clear hK K
              try simp only [Act.put, List.setIfInBounds_toArray, List.set_cons_zero, List.set_cons_succ]
              refine wpAnyH_ready (rs := [7]) (by kernel_rfl) (by simp) ?_
              refine AllReadyH.cons (o := ?_) ?_ (fun K hK => ?_) ?_
              rotate_left 1
              · (simp only [List.getElem?_toArray, List.getElem?_cons_succ, List.getElem?_cons_zero]; exact rfl)
              · ((refine step_append_row (F := ((wx.heap.size, .cells #[.slice A3 ys.length c3] 22 (0, 0)) :: (L3 ++ [(b6, .cells #[.slice A pre.length c] 52 (0, 0))])) ++ (X ++ F)) rfl (.tmp 23) (.tmp 29) 52 rfl 22 (.slice none 0 0) 1 24 Tryd.underlying52 (by kernel_rfl) rfl (by omega) rfl HROW.out (St.swap (A := (wx.heap.size, .cells #[.slice A3 ys.length c3] 22 (0, 0)) :: (L3 ++ [(b6, .cells #[.slice A pre.length c] 52 (0, 0))])) (B := L0) (by simpa using H4.out)) rfl (Src.newS _ 1 #[.slice A3 ys.length c3] 22 rfl 1 rfl) (by intro u hu; simp at hu; subst hu; rfl) (pre.length + 1) rfl ((qs ++ [(⟨A3, c3, ys⟩ : Part)]).map Part.val) (by rw [List.map_append]; rfl) (by unfold maxLen; omega) (by omega) ?_; intro A6 c6 w6 L6 hr6 h6; have g3 : w6.cell? ⟨b2 + 1, 0, none⟩ = some (.slice A0 bs.length cap) := h6.cell (g := b2 + 1) (cs := #[.slice A0 bs.length cap]) (t := 22) (fr := (0, 0)) (by simp [HX3.out]) 0; have g0 : w6.cell? ⟨b6, 0, none⟩ = some (.slice A pre.length c) := h6.cell (g := b6) (cs := #[.slice A pre.length c]) (t := 52) (fr := (0, 0)) (by simp) 0; have g1 : w6.frozen? ⟨b6, 0, none⟩ = false := h6.frozen (g := b6) (cs := #[.slice A pre.length c]) (t := 52) (by simp) 0; have h7 : St W (w6.setCell ⟨b6, 0, none⟩ (.slice A6 (pre.length + 1) c6)) KF (L6 ++ (((wx.heap.size, .cells #[.slice A3 ys.length c3] 22 (0, 0)) :: (L3 ++ [(b6, .cells #[.slice A6 (pre.length + 1) c6] 52 (0, 0))])) ++ (X ++ F))) := (by have h8 := St.set (A := L6 ++ (wx.heap.size, .cells #[.slice A3 ys.length c3] 22 (0, 0)) :: L3) (g := b6) (cs := #[.slice A pre.length c]) (t := 52) (fr := (0, 0)) (B := X ++ F) (by simpa using h6) 0 (.slice A6 (pre.length + 1) c6); simpa using h8); have q3 : (w6.setCell ⟨b6, 0, none⟩ (.slice A6 (pre.length + 1) c6)).cell? ⟨b2 + 1, 0, none⟩ = some (.slice A0 bs.length cap) := h7.cell (g := b2 + 1) (cs := #[.slice A0 bs.length cap]) (t := 22) (fr := (0, 0)) (by simp [HX3.out]) 0; have H7 := Lib.hid h7; have HR6 := Lib.hid hr6; clear h6 h7 hr6; dsimp only))
                refine hK.out _ _ ?_ (fun hHeld => ?_)
                · (try dsimp only) <;> (assumption)
                clear hK K
                try simp only [Act.put, List.setIfInBounds_toArray, List.set_cons_zero, List.set_cons_succ]
                refine wpAnyH_ready (rs := [8]) (by kernel_rfl) (by simp) ?_
                refine AllReadyH.cons (o := ?_) ?_ (fun K hK => ?_) ?_
                rotate_left 1
                · (simp only [List.getElem?_toArray, List.getElem?_cons_succ, List.getElem?_cons_zero]; exact rfl)
                · go_simp
                  refine hK.out _ _ ?_ (fun hHeld => ?_)
                  · (try dsimp only) <;> (assumption)
                  clear hK K
                  try simp only [Act.put, List.setIfInBounds_toArray, List.set_cons_zero, List.set_cons_succ]
                  refine wpAnyH_done (by kernel_rfl) ?_ _
                  refine ⟨rfl, ?_⟩
                  exact cut_step TT.out HHC.out HLE.out HALL.out HX1.out HYS.out HSZ1 HR3.out HR6.out H7.out
                exact AllReadyH.nil
              exact AllReadyH.nil
            exact AllReadyH.nil
          exact AllReadyH.nil
        exact AllReadyH.nil
      case done =>
        rintro D ys W1 hD rfl ⟨J, A, c, L0, qs, HC⟩ hK
        have hst' := HC.st.grownC HC.old (OWNL.out _ _ _ _ _ HC.row) (grownBy_putObj' W1 D (.deferred none)) (fun r e => by cases e; exact ⟨hD, _, hK, rfl⟩)
        have e6 : W1.cell? ⟨b6, 0, none⟩ = some (.slice A (List.range m.n).length c) := HC.st.cell (g := b6) (t := 52) (fr := (0, 0)) (List.mem_cons_self ..) 0
        have hbq := HC.bsq; have hin := HC.in_; have hrow := HC.row; have hle := HC.le
        rw [List.length_range] at e6 hrow hst'
        have HST := Lib.hid hst'; have HROW := Lib.hid hrow; have HK := Lib.hid hK; have HBQ := Lib.hid hbq; have HIN := Lib.hid hin; have HLE := Lib.hid hle
        clear HC hrow hst' hK hbq hin hle
        go_wp2_with fail
        refine ⟨by simp, .inl ⟨_, _, rfl, run_takeDeferred HK.out, ?_⟩⟩
        refine ⟨_, results_tmp2 rfl _ _ _, ?_⟩
        refine ⟨fun h => ?_, fun _ h => absurd HSZ.out h, fun _ _ => ⟨J, A, c, L0, qs, HLE.out, rfl, HBQ.out, HIN.out, HROW.out, St.mid (A := L0) (B := X) (St.weaken (A := [_]) HST.out)⟩⟩
        rw [HR.out] at h
        cases h
      case stop =>
        rintro D c pre W1 _ _ h _
        exact h.elim
    · have HSZ := Lib.hid hsz; have H4 := Lib.hid h4
      clear h4
      go_wp2_with fail
      (try simp only [Exit.inBlock, Exit.then])
      refine ⟨_, results_tmp2 rfl _ _ _, ?_⟩
      refine ⟨fun h => ?_, fun _ _ => ⟨rfl, St.weaken (A := [_, _]) H4.out⟩, fun _ h => absurd h HSZ.out⟩
      rw [HR.out] at h
      cases h
end
end Go.Proofs.YtkpgliaahibjgaaDoor
