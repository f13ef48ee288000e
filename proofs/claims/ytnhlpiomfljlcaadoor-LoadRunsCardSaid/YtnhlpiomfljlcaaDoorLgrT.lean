/- The law's Note: plain data as a note. What is too great to be looked at. -/
import Derived.Test.YtnhlpiomfljlcaaDoorLarg
namespace Go.Proofs.YtnhlpiomfljlcaaDoor
section
set_option linter.unusedVariables false
set_option linter.unusedSimpArgs false
open Go.RowKit Go.Lib

def noteOf (t : Tl) : Nt := if t.kind = 1 then .again t.at_ else if t.kind = 2 then .go t.head t.m else if t.kind = 3 then .body (.agg #[.int .i64 t.at_, .slice t.p.A t.p.bs.length t.p.c]) else .fin (.agg #[])
def Tl.arr (t : Tl) : Array Value := (tcells t).toArray
section
variable {t : Tl}
theorem tl0 : t.arr[0]? = some (.int .i64 t.kind) := rfl
theorem tl1 : t.arr[1]? = some (.int .i64 t.at_) := rfl
theorem tl2 : t.arr[2]? = some (.int .i64 t.head) := rfl
theorem tlm (ok : t.m.Ok) (j : Nat) (hj : j < 37) : t.arr[3 + j]? = t.m.cells[j]? := by
  have := Man.cells_size ok
  unfold Tl.arr tcells
  rw [List.getElem?_toArray, List.getElem?_append_right (by simp), List.getElem?_append_left (by simp; omega)]
  simp
theorem tl40 (ok : t.m.Ok) : t.arr[40]? = some (.slice t.p.A t.p.bs.length t.p.c) := by
  have := Man.cells_size ok
  unfold Tl.arr tcells
  rw [List.getElem?_toArray, List.getElem?_append_right (by simp), List.getElem?_append_right (by simp [this])]
  simp [this]
theorem tl_size (ok : t.m.Ok) : t.arr.size = 41 := by rw [Tl.arr, List.size_toArray, tcells_len t ok]
end
set_option maxRecDepth 100000 in
theorem run_build_go (h : Int) (m : Man) (ok : m.Ok) (w : World) : (Instr.build 62 #[(0, .int .i64 h), (1, .agg m.cells)]).run Tryd.prog w = .ok (.agg (gcells h m)) w := by
  obtain ⟨prod, ver, size, chunk, ds, A, n, c⟩ := m
  obtain ⟨d0, d1, d2, d3, d4, d5, d6, d7, d8, d9, d10, d11, d12, d13, d14, d15, d16, d17, d18, d19, d20, d21, d22, d23, d24, d25, d26, d27, d28, d29, d30, d31, rfl⟩ := thirtytwo ds ok.dig
  exact run_build w _ _ _ (by kernel_rfl)

theorem wpList_build_go {P : Program} {w : World} {ops : Array Oper} {rest : List Oper} {o : Oper} {a : Act} {Q : Exit → Act → World → Prop} (hgd : o.guard = none) (t : TypeId) (ps : Array (Nat × Operand)) (ho : o.op = .build t ps)
    (vs : Array (Nat × Value)) (hvs : (ps.map fun (i, x) => (i, a.eval x)) = vs) {v : Value} (hr : (Instr.build t vs).run P w = .ok v w) (h : wpList P ops Q rest (a.put o.dst v) w) : wpList P ops Q (o :: rest) a w := by
  refine wpList_plain hgd fun K hK => ?_
  subst hvs
  unfold Oper.wp execOp
  simp only [ho, Sem.run_bind, hr, Result.andThen_ok]
  exact hK _ _ h

section
variable {W w : World} {I : Nat → Option Obj} {F : List (Nat × Obj)}
set_option maxRecDepth 100000 in
set_option maxHeartbeats 1000000 in
theorem law_note (t : Tl) (ok : t.m.Ok) (h : St W w I F) : Calls Tryd.prog 21 #[.agg t.arr] w fun e w' => e = .returned (.iface (noteOf t).T (noteOf t).d) ∧ St W w' I F := by
  have h1 := h.alloc (.cells t.arr 71)
  have hc := fun i => h1.cell (g := w.heap.size) (cs := t.arr) (t := 71) (fr := (0, 0)) (List.mem_cons_self ..) i
  have c0 := (hc 0).trans tl0
  have c1 := (hc 1).trans tl1
  have c2 := (hc 2).trans tl2
  have c40 := (hc 40).trans (tl40 ok)
  have hrg : (w.alloc (.cells t.arr 71)).rangeAt w.heap.size 3 t.m.cells.toList := by
    intro j u hj
    have hj37 : j < 37 := by have := (List.getElem?_eq_some_iff.1 hj).1; rw [Array.length_toList, Man.cells_size ok] at this; exact this
    rw [hc (3 + j), tlm ok j hj37]
    simpa using hj
  have hmi := man_info ok
  have hbg := run_build_go t.head t.m ok
  have HBG : Hid (∀ v, (Instr.build 62 #[(0, .int .i64 t.head), (1, .agg t.m.cells)]).run Tryd.prog v = .ok (.agg (gcells t.head t.m)) v) := Lib.hid hbg
  have HI := Lib.hid hmi; have H1 := Lib.hid (h1.weaken (A := [_])); have HRG := Lib.hid hrg
  have hend : (.agg (gcells t.head t.m) : Value) = (Nt.go t.head t.m).d := rfl
  clear hc h1 h hrg hmi hbg
  have hstep : ∀ v, @Eq Value v v := fun _ => rfl
  obtain ⟨nt, hnt⟩ : ∃ nt, noteOf t = nt := ⟨_, rfl⟩
  rw [hnt]
  unfold noteOf at hnt
  obtain ⟨kd, hkd⟩ : ∃ k, t.kind = k := ⟨_, rfl⟩
  rw [hkd] at c0 hnt
  clear hkd hend hstep
  generalize t.arr = T at *
  by_cases k1 : kd = 1
  · subst k1
    rw [if_pos rfl] at hnt
    subst hnt
    go_enter Tryd.func21, Tryd.ntmps21
    go_wp2_with fail
    go_ret
    exact ⟨rfl, H1.out⟩
  · rw [if_neg k1] at hnt
    by_cases k2 : kd = 2
    · subst k2
      rw [if_pos rfl] at hnt
      subst hnt
      clear k1
      obtain ⟨X, hX⟩ : ∃ X, t.m.cells = X := ⟨_, rfl⟩
      obtain ⟨Y, hY⟩ : ∃ Y, gcells t.head t.m = Y := ⟨_, rfl⟩
      rw [hX] at HRG HI HBG
      rw [hY] at HBG
      rw [show (Nt.go t.head t.m).T = 62 from rfl, show (Nt.go t.head t.m).d = .agg Y from congrArg Value.agg hY]
      clear hX hY
      go_enter Tryd.func21, Tryd.ntmps21
      go_wp2_with (first | (with_reducible refine wpList_load_mid rfl 53 (.tmp 15) rfl (w.heap.size) 3 rfl X.toList _ HRG.out Tryd.underlying53 rfl (by rw [Array.length_toList]; exact HI.out) ?_) | (with_reducible refine wpList_build_go rfl 62 _ rfl _ ?_ (HBG.out _) ?_; · go_simp))
      go_ret
      exact ⟨rfl, H1.out⟩
    · rw [if_neg k2] at hnt
      by_cases k3 : kd = 3
      · subst k3
        rw [if_pos rfl] at hnt
        subst hnt
        clear k1 k2
        go_enter Tryd.func21, Tryd.ntmps21
        go_wp2_with fail
        go_ret
        exact ⟨rfl, H1.out⟩
      · rw [if_neg k3] at hnt
        subst hnt
        have e1 : (kd == 1) = false := by simpa using k1
        have e2 : (kd == 2) = false := by simpa using k2
        have e3 : (kd == 3) = false := by simpa using k3
        clear k1 k2 k3
        go_enter Tryd.func21, Tryd.ntmps21
        go_wp2_with fail
        go_ret
        exact ⟨rfl, H1.out⟩
end
end

section
set_option linter.unusedVariables false
set_option linter.unusedSimpArgs false
open Go.RowKit Go.Lib

def zDn : Dn := ⟨0, ⟨0, 0, 0, zman, ⟨none, 0, []⟩⟩, none, 0, []⟩
def Dn.arr (d : Dn) : Array Value := (dcells d).toArray
theorem zdn_lit : zDn.arr = (Value.int .i64 0 :: .int .i64 0 :: .int .i64 0 :: .int .i64 0 :: .string ⟨#[]⟩ :: .int .u64 0 :: .int .i64 0 :: .int .i64 0 :: .int .u8 0 :: .int .u8 0 :: .int .u8 0 :: .int .u8 0 :: .int .u8 0 :: .int .u8 0 :: .int .u8 0 :: .int .u8 0 :: .int .u8 0 :: .int .u8 0 :: .int .u8 0 :: .int .u8 0 :: .int .u8 0 :: .int .u8 0 :: .int .u8 0 :: .int .u8 0 :: .int .u8 0 :: .int .u8 0 :: .int .u8 0 :: .int .u8 0 :: .int .u8 0 :: .int .u8 0 :: .int .u8 0 :: .int .u8 0 :: .int .u8 0 :: .int .u8 0 :: .int .u8 0 :: .int .u8 0 :: .int .u8 0 :: .int .u8 0 :: .int .u8 0 :: .int .u8 0 :: .slice none 0 0 :: .slice none 0 0 :: .slice none 0 0 :: []).toArray := by kernel_rfl
section
variable {d : Dn}
theorem dn0 : d.arr[0]? = some (.int .i64 d.kind) := rfl
theorem dn_t (ok : d.t.m.Ok) (j : Nat) (hj : j < 41) : d.arr[1 + j]? = d.t.arr[j]? := by
  have := tcells_len d.t ok
  unfold Dn.arr dcells Tl.arr
  rw [List.getElem?_toArray, List.getElem?_toArray, Nat.add_comm, List.getElem?_cons_succ, List.getElem?_append_left (by omega)]
theorem dn42 (ok : d.t.m.Ok) : d.arr[42]? = some (.slice d.A d.fs.length d.c) := by
  have := tcells_len d.t ok
  unfold Dn.arr dcells
  rw [List.getElem?_toArray, List.getElem?_cons_succ, List.getElem?_append_right (by omega), this]
  rfl
theorem dn_size (ok : d.t.m.Ok) : d.arr.size = 43 := by rw [Dn.arr, List.size_toArray, dcells_len d ok]
theorem dn4 (ok : d.t.m.Ok) : d.arr[4]? = some (.string d.t.m.prod) := (dn_t ok 3 (by omega)).trans ((tlm ok 0 (by omega)).trans d.t.m.g0)
theorem dn40 (ok : d.t.m.Ok) : d.arr[40]? = some (.slice d.t.m.A d.t.m.n d.t.m.c) := (dn_t ok 39 (by omega)).trans ((tlm ok 36 (by omega)).trans (Man.g36 ok))
theorem tcells_one (t : Tl) : ∀ v ∈ tcells t, v.oneCell' = true := by
  intro v hv
  simp only [tcells, List.mem_append, List.mem_cons, List.not_mem_nil, or_false] at hv
  rcases hv with (rfl | rfl | rfl) | hv | rfl
  · rfl
  · rfl
  · rfl
  · exact Array.all_eq_true_iff_forall_mem.1 (Man.one t.m) v (Array.mem_toList_iff.1 hv)
  · rfl
theorem dn_one (d : Dn) : d.arr.all (·.oneCell') = true := by
  unfold Dn.arr
  apply all_oneCell_toArray
  intro v hv
  simp only [dcells, List.mem_append, List.mem_cons, List.not_mem_nil, or_false] at hv
  rcases hv with rfl | hv | rfl
  · rfl
  · exact tcells_one d.t v hv
  · rfl
theorem dn_info (ok : d.t.m.Ok) : (Tryd.prog.info? 73).map (·.size) = some d.arr.size := by rw [dn_size ok]; kernel_rfl
theorem dn_many (ok : d.t.m.Ok) : setMany zDn.arr 0 d.arr.toList = d.arr := by
  rw [setMany_whole _ _ (by rw [Array.length_toList, dn_size ok]; kernel_rfl), Array.toArray_toList]
theorem dn_fit (ok : d.t.m.Ok) : 0 + d.arr.size ≤ zDn.arr.size := by rw [dn_size ok]; exact Nat.le_of_eq (by kernel_rfl)
end
/-- Acts as they lie in memory. -/
def ActAt (A : Option Addr) (l : List Dn) (W : World) : Prop := ∀ i d, l[i]? = some d → d.Ok W ∧ ∃ b off, A = some (⟨b, off, none⟩ : Addr) ∧ ∀ j, j < 43 → roCell (fun b => W.heap[b]?) ⟨b, off + i * 43 + j, none⟩ = (dcells d)[j]?
theorem act_range {W w : World} {J : Nat → Option Obj} {L : List (Nat × Obj)} {d : Dn} {b off : Nat} (ok : d.t.m.Ok) (hle : Le (fun b => W.heap[b]?) J) (h : ∀ j, j < 43 → roCell (fun b => W.heap[b]?) ⟨b, off + j, none⟩ = (dcells d)[j]?) (hst : St W w J L) : w.rangeAt b off d.arr.toList := by
  intro j v hv
  have h1 : (dcells d)[j]? = some v := by simpa [Dn.arr] using hv
  have hj : j < 43 := by have := (List.getElem?_eq_some_iff.1 h1).1; rw [dcells_len d ok] at this; exact this
  exact hst.ro (roCell_mono hle ((h j hj).trans h1))

/-- What great lets through. -/
structure Small {W : World} (x : WArg W) (l : List Dn) : Prop where
  os : x.os.length ≤ 5
  fs : x.fs.length ≤ 60
  name : x.name.size ≤ 200
  acts : l.length ≤ 80
  off : ∀ o ∈ x.os, o.1.size ≤ 200 ∧ o.2.bs.length ≤ 3000
  act : ∀ d ∈ l, d.t.m.n ≤ 100 ∧ d.t.m.prod.size ≤ 200 ∧ d.fs.length ≤ 10
def GP {W : World} (x : WArg W) (l : List Dn) (I : Nat → Option Obj) (L : List (Nat × Obj)) (e : Ending) (w' : World) : Prop :=
  ∃ b, e = .returned (.bool b) ∧ St W w' I L ∧ (b = false → Small x l)
theorem GP.yes {W w' : World} {x : WArg W} {l : List Dn} {I : Nat → Option Obj} {L : List (Nat × Obj)} (h : St W w' I L) : GP x l I L (.returned (.bool true)) w' := ⟨true, rfl, h, by intro h; cases h⟩

set_option maxRecDepth 100000 in
set_option maxHeartbeats 4000000 in
theorem great_any {W w : World} {I : Nat → Option Obj} {L : List (Nat × Obj)} (x : WArg W) (A : Option Addr) (c : Nat) (l : List Dn) (hA : ActAt A l W) (hlm : l.length ≤ maxLen) (hI : Le (fun b => W.heap[b]?) I) (h : St W w I L) :
    Calls Tryd.prog 20 #[.agg x.cells, .slice A l.length c] w fun e w' => GP x l I L e w' := by
  have hoff := x.off
  have hln := x.lens
  have hyes := fun w' (h : St W w' I L) => GP.yes (x := x) (l := l) h
  have hno : ∀ w', St W w' I L → x.os.length ≤ 5 → x.fs.length ≤ 60 → x.name.size ≤ 200 → l.length ≤ 80 → (∀ o ∈ x.os, o.1.size ≤ 200 ∧ o.2.bs.length ≤ 3000) → (∀ d ∈ l, d.t.m.n ≤ 100 ∧ d.t.m.prod.size ≤ 200 ∧ d.fs.length ≤ 10) → GP x l I L (.returned (.bool false)) w' := fun w' h a b c d e f => ⟨false, rfl, h, fun _ => ⟨a, b, c, d, e, f⟩⟩
  obtain ⟨Q, hQ⟩ : ∃ Q, GP x l I L = Q := ⟨_, rfl⟩
  rw [hQ] at hyes hno ⊢
  clear hQ
  unfold WArg.cells
  generalize x.os = os at *
  generalize x.fs = fs at *
  generalize x.name = nm at *
  generalize x.OA = OA at *
  generalize x.oc = oc at *
  generalize x.FA = FA at *
  generalize x.fc = fc at *
  generalize x.tries = tr at *
  generalize x.r0 = r0 at *
  generalize x.r1 = r1 at *
  obtain ⟨bx, hbx⟩ : ∃ bx, bx = w.heap.size := ⟨_, rfl⟩
  have h1 := h.alloc (.cells #[.slice OA os.length oc, .slice FA fs.length fc, .string nm, .int .i64 tr, .int .i64 r0, .int .i64 r1] 67)
  rw [← hbx] at h1
  have H1 := Lib.hid h1; have HOFF := Lib.hid hoff; have HACT := Lib.hid hA; have HI := Lib.hid hI; have HY := Lib.hid hyes; have HN := Lib.hid hno; have HBX := Lib.hid hbx; have HLN := Lib.hid hln; have HLM := Lib.hid hlm
  clear h h1 hoff hA hI x hyes hno hbx hln hlm
  go_enter Tryd.func20, Tryd.ntmps20
  by_cases g1 : (5 : Int) < os.length
  · have g1' : decide ((5 : Int) < os.length) = true := decide_eq_true g1
    go_wp2_with fail
    all_goals first | exact HY.out _ (St.weaken (A := [_]) H1.out)
  by_cases g2 : (60 : Int) < fs.length
  · have g2' : decide ((60 : Int) < fs.length) = true := decide_eq_true g2
    go_wp2_with fail
    all_goals first | exact HY.out _ (St.weaken (A := [_]) H1.out)
  by_cases g3 : (200 : Int) < nm.size
  · have g3' : decide ((200 : Int) < nm.size) = true := decide_eq_true g3
    go_wp2_with fail
    all_goals first | exact HY.out _ (St.weaken (A := [_]) H1.out)
  by_cases g4 : (80 : Int) < l.length
  · have g4' : decide ((80 : Int) < l.length) = true := decide_eq_true g4
    go_wp2_with fail
    all_goals first | exact HY.out _ (St.weaken (A := [_]) H1.out)
  go_wp2_with fail
  rw [← HBX.out]
  go_loopw [33] (fun i wr => ∃ k : Nat, i = .int .i64 k ∧ k ≤ os.length ∧ (∀ o ∈ os.take k, o.1.size ≤ 200 ∧ o.2.bs.length ≤ 3000) ∧ St W wr I ((bx, .cells #[.slice OA os.length oc, .slice FA fs.length fc, .string nm, .int .i64 tr, .int .i64 r0, .int .i64 r1] 67 (0, 0)) :: L)) (fun i _ => os.length - (intOf i).toNat)
  case atStart => exact ⟨0, rfl, by omega, by simp, H1.out⟩
  case round =>
    obtain ⟨k, rfl, hk, hdon, hst⟩ := hrel
    clear H1
    by_cases hkl : k < os.length
    · obtain ⟨o, hok⟩ : ∃ o, os[k]? = some o := ⟨_, List.getElem?_eq_getElem hkl⟩
      obtain ⟨b, off, rfl, e0, e1⟩ := HOFF.out k o hok
      have q0 := hst.ro (roCell_mono HI.out e0)
      have q1 := hst.ro (roCell_mono HI.out e1)
      have hnext : o.1.size ≤ 200 → o.2.bs.length ≤ 3000 → ∀ o ∈ os.take (k + 1), o.1.size ≤ 200 ∧ o.2.bs.length ≤ 3000 := fun a b x hx => by
        rw [List.take_add_one, hok] at hx
        rcases List.mem_append.1 hx with hx | hx
        · exact hdon x hx
        · simp at hx; subst hx; exact ⟨a, b⟩
      obtain ⟨onm, p⟩ := o
      simp only at q0 q1 hnext
      have hst2 := St.alloc_ hst (.cells #[.string onm, .slice p.A p.bs.length p.c] 57)
      have HST := Lib.hid hst2; have HNX := Lib.hid hnext
      clear hst hst2 hnext hdon e0 e1 hok
      by_cases s1 : (200 : Int) < onm.size
      · have s1' : decide ((200 : Int) < onm.size) = true := decide_eq_true s1
        go_wp2_with fail
        all_goals first | exact HY.out _ (St.weaken (A := [_]) HST.out)
      by_cases s2 : (3000 : Int) < p.bs.length
      · have s2' : decide ((3000 : Int) < p.bs.length) = true := decide_eq_true s2
        go_wp2_with fail
        all_goals first | exact HY.out _ (St.weaken (A := [_]) HST.out)
      go_wp2_with fail
      go_roundw
      case rel => exact ⟨k + 1, by go_num, by omega, HNX.out (by omega) (by omega), HST.out⟩
      case measure => simp [intOf]; omega
    · obtain rfl : k = os.length := by omega
      rw [List.take_length] at hdon
      have HST := Lib.hid (St.weaken (A := [_]) hst); have HD := Lib.hid hdon
      clear hst hdon
      go_wp2_with fail
      go_loopw [50] (fun i wr => ∃ k : Nat, i = .int .i64 k ∧ k ≤ l.length ∧ (∀ d ∈ l.take k, d.t.m.n ≤ 100 ∧ d.t.m.prod.size ≤ 200 ∧ d.fs.length ≤ 10) ∧ St W wr I L) (fun i _ => l.length - (intOf i).toNat)
      case atStart => exact ⟨0, rfl, by omega, by simp, HST.out⟩
      case round =>
        obtain ⟨k, rfl, hk, hdon, hst⟩ := hrel
        clear HST
        by_cases hkl : k < l.length
        · obtain ⟨d, hok⟩ : ∃ d, l[k]? = some d := ⟨_, List.getElem?_eq_getElem hkl⟩
          obtain ⟨dok, b, off, rfl, hro⟩ := HACT.out k d hok
          have mok := dok.t.m
          have hnext : d.t.m.n ≤ 100 → d.t.m.prod.size ≤ 200 → d.fs.length ≤ 10 → ∀ d ∈ l.take (k + 1), d.t.m.n ≤ 100 ∧ d.t.m.prod.size ≤ 200 ∧ d.fs.length ≤ 10 := fun x y u z hz => by
            rw [List.take_add_one, hok] at hz
            rcases List.mem_append.1 hz with hz | hz
            · exact hdon z hz
            · simp at hz; subst hz; exact ⟨x, y, u⟩
          have hrg := act_range (off := off + k * 43) mok HI.out hro hst
          have h8 := hst.alloc (.cells zDn.arr 73)
          have hmany := dn_many mok
          have hfit := dn_fit mok
          rw [zdn_lit] at h8 hmany hfit
          have hfa : ∀ v, St W v I ((wr.heap.size, .cells d.arr 73 (0, 0)) :: L) → v.cell? ⟨wr.heap.size, 4, none⟩ = some (.string d.t.m.prod) ∧ v.cell? ⟨wr.heap.size, 40, none⟩ = some (.slice d.t.m.A d.t.m.n d.t.m.c) ∧ v.cell? ⟨wr.heap.size, 42, none⟩ = some (.slice d.A d.fs.length d.c) := fun v hv =>
            ⟨(hv.cell (g := wr.heap.size) (cs := d.arr) (t := 73) (fr := (0, 0)) (List.mem_cons_self ..) 4).trans (dn4 mok), (hv.cell (g := wr.heap.size) (cs := d.arr) (t := 73) (fr := (0, 0)) (List.mem_cons_self ..) 40).trans (dn40 mok), (hv.cell (g := wr.heap.size) (cs := d.arr) (t := 73) (fr := (0, 0)) (List.mem_cons_self ..) 42).trans (dn42 mok)⟩
          have n1 := mok.n1
          have HR := Lib.hid hrg; have H8 := Lib.hid h8; have HM := Lib.hid hmany; have HFT := Lib.hid hfit; have HIN := Lib.hid (dn_info mok); have HO := Lib.hid (dn_one d); have FAC := Lib.hid hfa; have HNX := Lib.hid hnext; have HST := Lib.hid hst
          clear hst hrg h8 hmany hfit hfa hnext hdon hro hok dok mok
          obtain ⟨C, hC⟩ : ∃ C, d.arr = C := ⟨_, rfl⟩
          rw [hC] at HR HM HFT HIN HO FAC
          clear hC
          generalize d.t.m.prod = pn at *
          generalize d.t.m.n = mn at *
          generalize d.t.m.A = mA at *
          generalize d.t.m.c = mc at *
          generalize d.fs.length = fl at *
          generalize d.A = dA at *
          generalize d.c = dc at *
          have hkb : (k : Int) < l.length := by omega
          by_cases s1 : (100 : Int) < mn
          · have s1' : decide ((100 : Int) < mn) = true := decide_eq_true s1
            go_wp2_with (first | (with_reducible refine wpList_load_mid rfl 73 (.tmp 52) rfl b (off + k * 43) rfl C.toList _ HR.out Tryd.underlying73 rfl (by rw [Array.length_toList]; exact HIN.out) ?_) | (with_reducible refine wpList_store_st rfl 73 (.tmp 8) (.tmp 53) rfl (g := wr.heap.size) (off := 0) C rfl rfl H8.out HFT.out HIN.out HO.out ?_; intro w9 h9; rw [HM.out] at h9; obtain ⟨f4, f40, f42⟩ := FAC.out _ h9; have H9 := Lib.hid (St.weaken (A := [_]) h9); clear h9))
            all_goals first | exact HY.out _ H9.out
          by_cases s2 : (200 : Int) < pn.size
          · have s2' : decide ((200 : Int) < pn.size) = true := decide_eq_true s2
            go_wp2_with (first | (with_reducible refine wpList_load_mid rfl 73 (.tmp 52) rfl b (off + k * 43) rfl C.toList _ HR.out Tryd.underlying73 rfl (by rw [Array.length_toList]; exact HIN.out) ?_) | (with_reducible refine wpList_store_st rfl 73 (.tmp 8) (.tmp 53) rfl (g := wr.heap.size) (off := 0) C rfl rfl H8.out HFT.out HIN.out HO.out ?_; intro w9 h9; rw [HM.out] at h9; obtain ⟨f4, f40, f42⟩ := FAC.out _ h9; have H9 := Lib.hid (St.weaken (A := [_]) h9); clear h9))
            all_goals first | exact HY.out _ H9.out
          by_cases s3 : (10 : Int) < fl
          · have s3' : decide ((10 : Int) < fl) = true := decide_eq_true s3
            go_wp2_with (first | (with_reducible refine wpList_load_mid rfl 73 (.tmp 52) rfl b (off + k * 43) rfl C.toList _ HR.out Tryd.underlying73 rfl (by rw [Array.length_toList]; exact HIN.out) ?_) | (with_reducible refine wpList_store_st rfl 73 (.tmp 8) (.tmp 53) rfl (g := wr.heap.size) (off := 0) C rfl rfl H8.out HFT.out HIN.out HO.out ?_; intro w9 h9; rw [HM.out] at h9; obtain ⟨f4, f40, f42⟩ := FAC.out _ h9; have H9 := Lib.hid (St.weaken (A := [_]) h9); clear h9))
            all_goals first | exact HY.out _ H9.out
          go_wp2_with (first | (with_reducible refine wpList_load_mid rfl 73 (.tmp 52) rfl b (off + k * 43) rfl C.toList _ HR.out Tryd.underlying73 rfl (by rw [Array.length_toList]; exact HIN.out) ?_) | (with_reducible refine wpList_store_st rfl 73 (.tmp 8) (.tmp 53) rfl (g := wr.heap.size) (off := 0) C rfl rfl H8.out HFT.out HIN.out HO.out ?_; intro w9 h9; rw [HM.out] at h9; obtain ⟨f4, f40, f42⟩ := FAC.out _ h9; have H9 := Lib.hid (St.weaken (A := [_]) h9); clear h9))
          go_roundw
          case rel => exact ⟨k + 1, by go_num, by omega, HNX.out (by omega) (by omega) (by omega), H9.out⟩
          case measure => simp [intOf]; omega
        · obtain rfl : k = l.length := by omega
          rw [List.take_length] at hdon
          have HST := Lib.hid hst; have HDN := Lib.hid hdon
          clear hst hdon
          go_wp2_with fail
          exact HN.out _ HST.out (by omega) (by omega) (by omega) (by omega) HD.out HDN.out
end
end Go.Proofs.YtnhlpiomfljlcaaDoor
