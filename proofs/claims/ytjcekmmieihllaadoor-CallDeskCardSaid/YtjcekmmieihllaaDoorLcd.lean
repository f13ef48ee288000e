/- CallDesk: the walk of the law. -/
import Derived.Test.YtjcekmmieihllaaDoorDdH
import Derived.Test.YtjcekmmieihllaaDoorDqA
import Derived.Test.YtjcekmmieihllaaDoorCaV
import Derived.Test.YtjcekmmieihllaaDoorDkC
namespace Go.Proofs.YtjcekmmieihllaaDoor
set_option linter.unusedVariables false
set_option linter.unusedSimpArgs false
set_option linter.unnecessarySimpa false
open Go.RowKit Go.Lib

section
variable {P : Program} {W w : World} {I : Nat → Option Obj}
/-- A load behind a guard, at one place alone. -/
theorem wpList_load_at (n : Nat) {ops : Array Oper} {rest : List Oper} {o : Oper} {a : Act} {Q : Exit → Act → World → Prop} (hn : o.dst = some n) (hw : Region.wanted o (yielded ops a.tmps) = true) (ty : TypeId) (x : Operand) (ho : o.op = .load ty x) {g off : Nat} (hx : a.eval x = .pointer (some ⟨g, off, none⟩))
    {L : List (Nat × Obj)} (hst : St W w I L) {cs : Array Value} {t : TypeId} {fr : Nat × Nat} (hp : (g, Obj.cells cs t fr) ∈ L) (ys : Array Value) (hys : ∀ j, j < ys.size → cs[off + j]? = ys[j]?) (d : TypeDesc) (hu : P.underlying ty = some d) (hd : d.isRow = true)
    (hi : (P.info? ty).map (·.size) = some ys.size) (h : wpList P ops Q rest (a.put o.dst (.agg ys)) w) : wpList P ops Q (o :: rest) a w := wpList_load_g hw ty x ho hx hst hp ys hys d hu hd hi h
theorem waitPost_len {G : List (Nat × Obj)} {l : List Nat} {k : Nat} (hl : l.length = k) {e : Ending} {w' : World} (h : WaitPost W I G l e w') : ∃ A c, e = .returned (.slice A k c) ∧ St W w' I G := by
  obtain ⟨A, c, L, rfl, _, hst⟩ := h
  subst hl
  exact ⟨A, c, rfl, St.weaken hst⟩
/-- Both desks in memory. -/
def BothL (gd gc gr n : Nat) (ps all : List Pn) (last : Int) (A : Option Addr) (c : Nat) (L G : List (Nat × Obj)) : List (Nat × Obj) := DeskL gd gc ps last ++ (RdL gr (n : Int) A all.length c last L ++ G)
theorem first8 {x : Nat × Obj} {gd gc gr n : Nat} {ps all : List Pn} {last : Int} {A : Option Addr} {c : Nat} {L : List (Nat × Obj)} (h : St W w I (x :: BothL gd gc gr n ps all last A c L [])) : St W w I (BothL gd gc gr n ps all last A c L [x]) := by
  unfold BothL at h ⊢
  rw [List.append_nil] at h
  rw [← List.append_assoc]
  exact h.perm ((List.perm_append_comm (l₁ := [x])))
theorem swap2 {A B F L1 : List (Nat × Obj)} (h : St W w I (L1 ++ (A ++ (B ++ F)))) : St W w I (L1 ++ (B ++ (A ++ F))) :=
  h.perm (List.Perm.append_left L1 (by rw [← List.append_assoc, ← List.append_assoc]; exact List.Perm.append_right F List.perm_append_comm))
theorem swapR {x : Nat × Obj} {A B F : List (Nat × Obj)} (h : St W w I (x :: (A ++ (B ++ F)))) : St W w I (B ++ (A ++ (x :: F))) := by
  have h1 : St W w I (A ++ (x :: (B ++ F))) := h.perm List.perm_middle.symm
  have h2 : St W w I (A ++ (B ++ (x :: F))) := h1.perm (List.Perm.append_left A List.perm_middle.symm)
  exact h2.swap
theorem swapS {x : Nat × Obj} {A B F : List (Nat × Obj)} (h : St W w I (x :: (B ++ (A ++ F)))) : St W w I (A ++ (B ++ (x :: F))) := swapR h
theorem dropEnd {D : List (Nat × Obj)} {X : Nat × Obj} {L G : List (Nat × Obj)} (h : St W w I (D ++ (X :: (L ++ G)))) : St W w I (D ++ (([X] ++ ([] : List (Nat × Obj))) ++ G)) := by
  have h1 : St W w I ((D ++ [X]) ++ (L ++ G)) := by rw [List.append_assoc]; exact h
  have h2 := St.mid h1
  rw [List.append_assoc] at h2
  exact h2
theorem swap2' {A B F : List (Nat × Obj)} (h : St W w I (A ++ (B ++ F))) : St W w I (B ++ (A ++ F)) := St.swap h
theorem St.cut9 {gd gc gr n : Nat} {ps all : List Pn} {last : Int} {A : Option Addr} {c : Nat} {L G : List (Nat × Obj)} (h : St W w I (BothL gd gc gr n ps all last A c L G)) : St W w I (BothL gd gc gr n ps all last A c L []) := by
  unfold BothL at h ⊢
  rw [List.append_nil]
  rw [← List.append_assoc] at h
  exact St.weaken (A := G) (h.perm List.perm_append_comm)
end
set_option maxRecDepth 100000 in
set_option maxHeartbeats 16000000 in
theorem walk_callDesk (W : World) (cv : CV0 W) {H : Type} {enc : TypeId × Value → H} {v0 v1 : Value} (a0 : Arg enc Tryd.prog W 3 v0) (a1 : Arg enc Tryd.prog W 31 v1) :
    Calls Tryd.prog 6 #[v0, v1] W fun e w' => e = .returned (.bool true) ∧ Below W.heap.size W w' := by
  obtain ⟨m0, rfl, hm0⟩ := a0.int Tryd.underlying3
  obtain ⟨A1, pl, pc, xs, rfl, hsl⟩ := a1.slice (α := Ac) (Q := fun cs a => cs = a.cells.toList ∧ a.rep.Ok ∧ (-9223372036854775808 ≤ a.n ∧ a.n ≤ 9223372036854775807) ∧ (a.call.name.size ≤ 1000000000 → a.call.Ok) ∧ a.call.name.size ≤ 9223372036854775807) (size := 87) Tryd.underlying31 (by kernel_rfl) (by decide) (fun cs h => Cel.act h)
  have hxs : ∀ k, k < pl → ∃ (b off : Nat) (a : Ac), A1 = some ⟨b, off, none⟩ ∧ (∀ (v : World) (L : List (Nat × Obj)), St W v (fun b => W.heap[b]?) L → v.rangeAt b (off + k * 87) a.cells.toList) ∧ a.rep.Ok ∧ (-9223372036854775808 ≤ a.n ∧ a.n ≤ 9223372036854775807) ∧ (a.call.name.size ≤ 1000000000 → a.call.Ok) ∧ a.call.name.size ≤ 9223372036854775807 := fun k hk => by
    obtain ⟨b, off, cs, h1, h2, h3, h4, h5⟩ := hsl.at_ k _ (List.getElem?_eq_getElem (by rw [hsl.len]; exact hk))
    refine ⟨b, off, _, h1, fun v L hv j u hj => ?_, h5⟩
    have hj2 := (List.getElem?_eq_some_iff.1 hj).1
    rw [← h4] at hj hj2
    exact hv.ro ((h3 j (by omega)).trans hj)
  have hpc := hsl.cap
  have hpm := hsl.cap'
  unfold maxLen at hpm
  obtain ⟨n, hn⟩ : ∃ n : Nat, max 1 (min m0 8) = (n : Int) := ⟨(max 1 (min m0 8)).toNat, by omega⟩
  have n1 : 1 ≤ n := by omega
  have n8' : n ≤ 8 := by omega
  have h0 := St.start W
  have kA := call_alive cv (fun J k => cv.more k) h0
  have kN := fun (v : World) (F : List (Nat × Obj)) (hv : St W v (fun b => W.heap[b]?) F) => desk_new m0 n hn hv
  have kM := fun (v : World) (F : List (Nat × Obj)) (hv : St W v (fun b => W.heap[b]?) F) => rd_new m0 n hn hv
  have KA := Lib.hid kA; have KN := Lib.hid kN; have KM := Lib.hid kM; have HXS := Lib.hid hxs; have CVV := Lib.hid cv
  clear kA kN kM hxs h0 cv a0 a1 hsl hn
  go_enter Tryd.func6, Tryd.ntmps6
  go_wp2_with fail
  refine KA.out.mono ?_
  rintro e w1 ⟨rfl, h1⟩
  have hf : Below W.heap.size W w1 := h1.below (Le.refl _)
  have H1 := Lib.hid h1; have HF := Lib.hid hf
  clear h1 hf KA
  by_cases g1 : 120 < pl
  · have g1' : (120 : Int) < (pl : Int) := by omega
    clear g1
    go_wp2_with fail
    go_ret
    exact ⟨rfl, HF.out⟩
  have g1' : ¬ ((120 : Int) < (pl : Int)) := by omega
  clear HF
  go_wp2_with fail
  refine (KN.out _ _ H1.out).mono ?_
  rintro e w2 ⟨gd, gc, rfl, h2⟩
  have H2 := Lib.hid h2
  clear h2 H1 KN
  go_wp2_with fail
  refine (KM.out _ _ H2.out).mono ?_
  rintro e w3 ⟨gr, rfl, h3⟩
  have h4 : St W w3 (fun b => W.heap[b]?) (BothL gd gc gr n (List.replicate n zP) [] 0 none 0 [] []) := by
    have h := St.swap (A := RdL gr (n : Int) none 0 0 0 []) (B := [_, _]) (F := []) h3
    unfold BothL DeskL
    rw [List.length_replicate]
    exact h
  have H4 := Lib.hid h4
  clear h3 h4 H2 KM
  go_wp2_with fail
  go_loopw [38] (fun i wr => ∃ (k : Nat) (ps all : List Pn) (last : Int) (A : Option Addr) (c : Nat) (L : List (Nat × Obj)), i = .int .i64 k ∧ k ≤ pl ∧ ps.length = n ∧ AllOk ps ∧ Sim ps all last ∧ 0 ≤ last ∧ last ≤ k ∧ RAll A c all L ∧ St W wr (fun b => W.heap[b]?) (BothL gd gc gr n ps all last A c L [])) (fun i _ => pl - (intOf i).toNat)
  case atStart => exact ⟨0, _, _, _, _, _, _, rfl, by omega, List.length_replicate, fun p hp => by rw [List.eq_of_mem_replicate hp]; exact zP_ok, Sim.start n, by omega, by omega, .inl ⟨rfl, rfl, rfl, rfl⟩, H4.out⟩
  case round =>
    obtain ⟨k, ps, all, last, A, c, L, rfl, hk, hpn, ok, sim, l0, l1, hA, hst⟩ := hrel
    clear H4
    by_cases hlt : k < pl
    · obtain ⟨b, off, a, rfl, hra, okr, hna, okc, hnm⟩ := HXS.out k hlt
      have hlI : (k : Int) < (pl : Int) := by omega
      have h2 := hst.alloc (.cells Tryd.zeroCells46 46)
      have hsz := a.size okr
      have hact := a.at_
      have hrep := a.rep_at
      have hrg := hra _ _ hst
      have HI := Lib.hid (act_info a okr)
      have HO := Lib.hid a.one
      have HFT := Lib.hid (show 0 + a.cells.size ≤ (Tryd.zeroCells46).size from by rw [hsz]; decide)
      have HM := Lib.hid (show setMany Tryd.zeroCells46 0 a.cells.toList = a.cells from setMany_whole _ _ (by rw [Array.length_toList, hsz]; rfl))
      obtain ⟨n8, hn8⟩ : ∃ x, wr.heap.size = x := ⟨_, rfl⟩
      rw [hn8] at h2
      have HZ := Lib.hid h2; have HRG := Lib.hid hrg
      generalize hCC : a.cells = C at *
      have fa : ∀ (v : World) (LL : List (Nat × Obj)), St W v (fun b => W.heap[b]?) LL → (n8, Obj.cells C 46 (0, 0)) ∈ LL → v.cell? ⟨n8, 0, none⟩ = some (.int .i64 a.kind) ∧ v.cell? ⟨n8, 1, none⟩ = some (.int .i64 a.n) ∧ v.cell? ⟨n8, 2, none⟩ = some (.int .i64 a.call.client) ∧ v.cell? ⟨n8, 3, none⟩ = some (.int .i64 a.call.kind) ∧ v.cell? ⟨n8, 4, none⟩ = some (.int .i64 a.call.slot) ∧ v.cell? ⟨n8, 5, none⟩ = some (.int .i64 a.call.job) ∧ v.cell? ⟨n8, 6, none⟩ = some (.string a.call.name) := fun v LL hv hm => by
        have e := hv.cell (g := n8) (cs := C) (t := 46) (fr := (0, 0)) hm
        exact ⟨(e 0).trans hact.1, (e 1).trans hact.2.1, (e 2).trans hact.2.2.1, (e 3).trans hact.2.2.2.1, (e 4).trans hact.2.2.2.2.1, (e 5).trans hact.2.2.2.2.2.1, (e 6).trans hact.2.2.2.2.2.2⟩
      have hfin : ∀ v : World, St W v (fun b => W.heap[b]?) (BothL gd gc gr n ps all last A c L [(n8, Obj.cells C 46 (0, 0))]) → Below W.heap.size W v := fun v hv => hv.below (Le.refl _)
      have FA := Lib.hid fa; have HREP := Lib.hid hrep; have HA := Lib.hid hA; have SIM := Lib.hid sim; have OK := Lib.hid ok; have OKR := Lib.hid okr; have HPN := Lib.hid hpn; have HNA := Lib.hid hna; have OKC := Lib.hid okc; have HFIN := Lib.hid hfin
      clear fa hrep hact hra hrg hA sim ok okr hpn hsz hst h2 hCC hna okc hfin
      skip
      by_cases g3 : 300 < a.call.name.size
      · have g3' : (300 : Int) < (a.call.name.size : Int) := by omega
        clear g3 OKC SIM OK HPN HA
        go_wp2_with (first | (with_reducible refine wpList_load_rg rfl 46 (.tmp 40) rfl (g := b) (off := off + k * 87) rfl C HRG.out _ Tryd.underlying46 rfl HI.out ?_) | (with_reducible refine wpList_store_st rfl 46 (.tmp 8) (.tmp 41) rfl (off := 0) C rfl rfl HZ.out HFT.out HI.out HO.out ?_; intro w4 h4; rw [HM.out] at h4; obtain ⟨e0, e1, e2, e3, e4, e5, e6⟩ := FA.out _ _ h4 (by simp); have HX := Lib.hid (show St W w4 (fun b => W.heap[b]?) (BothL gd gc gr n ps all last A c L [(n8, Obj.cells C 46 (0, 0))]) from first8 h4); clear h4))
        go_ret
        exact ⟨rfl, HFIN.out _ HX.out⟩
      have g3' : ¬ ((300 : Int) < (a.call.name.size : Int)) := by omega
      have okc := OKC.out (by omega)
      have OKC2 := Lib.hid okc
      have hnm2 : a.call.name.size ≤ 1000000 := by omega
      clear OKC okc HFIN
      by_cases g0 : a.kind = 0
      · have hs := SIM.out.ask l0 a.call
        rw [HPN.out] at hs
        have hok := askD_ok (last := last) OK.out a.call OKC2.out hnm2
        have kA := fun (v : World) (F : List (Nat × Obj)) (hv : St W v (fun b => W.heap[b]?) (DeskL gd gc ps last ++ F)) => desk_ask CVV.out.t CVV.out.t4 OK.out (by rw [HPN.out]; exact n8') l0 (by omega) a.call OKC2.out hnm2 hv
        have kB := fun (v : World) (F : List (Nat × Obj)) (hv : St W v (fun b => W.heap[b]?) (RdL gr (n : Int) A all.length c last L ++ F)) => rd_ask CVV.out.t CVV.out.t4 (SIM.out.okAll OK.out) (by have := SIM.out.le; rw [HPN.out] at this; omega) n8' HA.out l0 (by omega) a.call OKC2.out hnm2 hv
        obtain ⟨r1, hr1⟩ : ∃ x, askD ps last a.call = x := ⟨_, rfl⟩
        obtain ⟨r2, hr2⟩ : ∃ x, askR n all last a.call = x := ⟨_, rfl⟩
        rw [hr1] at hs hok
        rw [hr2] at hs
        simp only [hr1] at kA
        simp only [hr2] at kB
        clear hr1 hr2
        obtain ⟨⟨ps', last'⟩, an, ae⟩ := r1
        obtain ⟨⟨all', last2⟩, an2, ae2⟩ := r2
        obtain ⟨s1, s2, s3, s4⟩ := hs
        obtain ⟨o1, o2, o3⟩ := hok
        simp only [Prod.mk.injEq] at s1
        obtain ⟨rfl, rfl⟩ := s1
        dsimp only at s2 s3 s4 o1 o2 o3 kA kB
        subst s2
        have SIM2 := Lib.hid s4; have OK2 := Lib.hid o1; have HPN2 := Lib.hid s3
        have KA2 := Lib.hid kA; have KB2 := Lib.hid kB
        clear s3 s4 o1 kA kB SIM OK HPN HA
        have gk : a.kind = 0 := g0
        clear g0
        rw [gk] at FA
        go_wp2_with (first | (with_reducible refine wpList_load_rg rfl 46 (.tmp 40) rfl (g := b) (off := off + k * 87) rfl C HRG.out _ Tryd.underlying46 rfl HI.out ?_) | (with_reducible refine wpList_store_st rfl 46 (.tmp 8) (.tmp 41) rfl (off := 0) C rfl rfl HZ.out HFT.out HI.out HO.out ?_; intro w4 h4; rw [HM.out] at h4; obtain ⟨e0, e1, e2, e3, e4, e5, e6⟩ := FA.out _ _ h4 (by simp); have HX := Lib.hid (show St W w4 (fun b => W.heap[b]?) (BothL gd gc gr n ps all last A c L [(n8, Obj.cells C 46 (0, 0))]) from first8 h4); clear h4))
        refine (KA2.out _ _ HX.out).mono ?_
        rintro e w5 ⟨rfl, h5⟩
        obtain ⟨e0, e1, e2, e3, e4, e5, e6⟩ := FA.out _ _ h5 (by simp [RdL])
        have H5 := Lib.hid (swap2' h5)
        clear h5 HX KA2
        go_wp2_with fail
        refine (KB2.out _ _ H5.out).mono ?_
        rintro e w6 hgp
        obtain ⟨A', c', L', rfl, hA', h6⟩ := hgp
        dsimp only at hA' h6
        obtain ⟨G9, hG9⟩ : ∃ x : List (Nat × Obj), [(n8, Obj.cells C 46 (0, 0))] = x := ⟨_, rfl⟩
        have hy : St W w6 (fun b => W.heap[b]?) (BothL gd gc gr n ps' all' last' A' c' L' G9) := by rw [← hG9]; exact swap2' h6
        have HY := Lib.hid hy; have HA2 := Lib.hid hA'
        clear hA' h6 hy hG9 H5 KB2 e0 e1 e2 e3 e4 e5 e6 FA
        have hee : (an == an) = true := by simp
        have hee2 : (ae == ae) = true := by simp
        have hn82 : ps'.length ≤ 8 := by rw [HPN2.out]; exact n8'
        have hal : all'.length ≤ 8 := by have := SIM2.out.le; omega
        have oka := SIM2.out.okAll OK2.out
        have wlen := SIM2.out.waitR
        rw [HPN2.out] at wlen
        have kW2 : ∀ v, St W v (fun b => W.heap[b]?) (BothL gd gc gr n ps' all' last' A' c' L' G9) → Calls Tryd.prog 18 #[.pointer (some ⟨gd, 0, none⟩)] v fun e w' => e = .returned (.int .i64 (waitD ps' : Nat)) ∧ St W w' (fun b => W.heap[b]?) (BothL gd gc gr n ps' all' last' A' c' L' G9) := fun v hv => desk_waiting OK2.out hn82 hv
        have kR2 : ∀ v, St W v (fun b => W.heap[b]?) (BothL gd gc gr n ps' all' last' A' c' L' G9) → Calls Tryd.prog 28 #[.pointer (some ⟨gr, 0, none⟩)] v (WaitPost W (fun b => W.heap[b]?) (BothL gd gc gr n ps' all' last' A' c' L' G9) (waitR n all')) := fun v hv => (rd_waiting oka hal n8' HA2.out hv.swap).mono fun e w' h => by
          obtain ⟨B, d, L1, h1, h2, h3⟩ := h
          exact ⟨B, d, L1, h1, h2, swap2 h3⟩
        have kP2 : ∀ (j : Int) (v : World), St W v (fun b => W.heap[b]?) (BothL gd gc gr n ps' all' last' A' c' L' G9) → Calls Tryd.prog 16 #[.pointer (some ⟨gd, 0, none⟩), .int .i64 j] v fun e w' => e = .returned (.int .i64 (serR all' j)) ∧ St W w' (fun b => W.heap[b]?) (BothL gd gc gr n ps' all' last' A' c' L' G9) := fun j v hv => by
          rw [← SIM2.out.ser j]
          exact desk_pending OK2.out hn82 j hv
        have kQ2 : ∀ (j : Int) (v : World), St W v (fun b => W.heap[b]?) (BothL gd gc gr n ps' all' last' A' c' L' G9) → Calls Tryd.prog 29 #[.pointer (some ⟨gr, 0, none⟩), .int .i64 j] v fun e w' => e = .returned (.int .i64 (serR all' j)) ∧ St W w' (fun b => W.heap[b]?) (BothL gd gc gr n ps' all' last' A' c' L' G9) := fun j v hv => (rd_serial oka hal HA2.out j hv.swap).mono fun e w' h => ⟨h.1, h.2.swap⟩
        obtain ⟨wd, hwd⟩ : ∃ x, waitD ps' = x := ⟨_, rfl⟩
        rw [hwd] at wlen
        simp only [hwd] at kW2
        have hwd8 : wd ≤ 8 := by rw [← hwd]; have := waitD_le ps'; omega
        have KW2 := Lib.hid kW2; have KR2 := Lib.hid kR2; have KP2 := Lib.hid kP2; have KQ2 := Lib.hid kQ2; have WLEN := Lib.hid wlen
        clear kW2 kR2 kP2 kQ2 wlen oka hal hn82 hwd
        go_wp2_with fail
        refine (KW2.out _ HY.out).mono ?_
        rintro e v1 ⟨rfl, hy⟩
        have HY2 := Lib.hid hy
        clear hy HY KW2
        go_wp2_with fail
        refine (KR2.out _ HY2.out).mono ?_
        rintro e v2 hgp
        obtain ⟨A9, c9, rfl, hy⟩ := waitPost_len WLEN.out hgp
        have HY3 := Lib.hid hy
        clear hgp hy HY2 KR2 WLEN
        go_wp2_with fail
        go_loopw [26] (fun i wr => ∃ j : Int, i = .int .i64 j ∧ -1 ≤ j ∧ j ≤ 9 ∧ St W wr (fun b => W.heap[b]?) (BothL gd gc gr n ps' all' last' A' c' L' G9)) (fun i _ => (9 - intOf i).toNat)
        case atStart => exact ⟨-1, rfl, by omega, by omega, HY3.out⟩
        case round =>
          obtain ⟨j, rfl, hj1, hj2, hy⟩ := hrel
          clear HY3
          by_cases hj : j < 9
          · have kp := KP2.out j _ hy
            have KPJ := Lib.hid kp
            have KQJ := Lib.hid (KQ2.out j)
            clear kp hy KP2 KQ2
            go_wp2_with fail
            refine KPJ.out.mono ?_
            rintro e v4 ⟨rfl, hy⟩
            have HY5 := Lib.hid hy
            clear hy KPJ
            go_wp2_with fail
            refine (KQJ.out _ HY5.out).mono ?_
            rintro e v5 ⟨rfl, hy⟩
            have HY6 := Lib.hid hy
            clear hy HY5 KQJ
            go_wp2_with fail
            go_roundw
            case rel => exact ⟨j + 1, rfl, by omega, by omega, HY6.out⟩
            case measure => simp [intOf]; omega
          · have hy9 := St.cut9 hy
            have HY9 := Lib.hid hy9
            clear hy hy9 KP2 KQ2
            go_wp2_with fail
            go_roundw
            case rel => exact ⟨k + 1, ps', all', last', A', c', L', rfl, by omega, HPN2.out, OK2.out, SIM2.out, by omega, by omega, HA2.out, HY9.out⟩
            case measure => simp [intOf]; omega
      have g0b : (a.kind == 0) = false := beq_eq_false_iff_ne.2 g0
      by_cases g1 : a.kind = 1
      · have hs := SIM.out.next a.n
        rw [HPN.out] at hs
        have hok := nextD_ok OK.out a.n
        have kA := fun (v : World) (F : List (Nat × Obj)) (hv : St W v (fun b => W.heap[b]?) (DeskL gd gc ps last ++ F)) => desk_next OK.out (by rw [HPN.out]; exact n8') a.n HNA.out.2 hv
        have kB := fun (v : World) (F : List (Nat × Obj)) (hv : St W v (fun b => W.heap[b]?) (RdL gr (n : Int) A all.length c last L ++ F)) => rd_next (SIM.out.okAll OK.out) (by have := SIM.out.le; rw [HPN.out] at this; omega) n8' HA.out a.n HNA.out.2 hv
        obtain ⟨r1, hr1⟩ : ∃ x, nextD ps a.n = x := ⟨_, rfl⟩
        obtain ⟨r2, hr2⟩ : ∃ x, nextR n all a.n = x := ⟨_, rfl⟩
        rw [hr1] at hs hok
        rw [hr2] at hs
        simp only [hr1] at kA
        simp only [hr2] at kB
        clear hr1 hr2
        obtain ⟨ps', an, av, ab⟩ := r1
        obtain ⟨all', an2, av2, ab2⟩ := r2
        obtain ⟨s1, s3, s4⟩ := hs
        simp only [Prod.mk.injEq] at s1
        obtain ⟨rfl, rfl, rfl⟩ := s1
        dsimp only at s3 s4 hok kA kB
        have SIM2 := Lib.hid s4; have OK2 := Lib.hid hok.1; have HPN2 := Lib.hid s3
        have KA2 := Lib.hid kA; have KB2 := Lib.hid kB
        clear s3 s4 kA kB SIM OK HPN HA
        have okv := hok.2
        clear hok
        have fz := call_fit zC av
        have iz := call_info av
        have oz := av.one
        have heq : ∀ w, (Op.equalIn 10000 23 (.agg av.cells) (.agg av.cells)).run Tryd.prog w = .ok true w := fun w => by rw [eq_call, eqC_refl]
        obtain ⟨V, hV⟩ : ∃ x, av.cells = x := ⟨_, rfl⟩
        rw [hV] at fz iz oz
        simp only [hV] at heq KA2 KB2
        have FZ : Hid (0 + V.size ≤ (#[Value.int .i64 0, .int .i64 0, .int .i64 0, .int .i64 0, .string ⟨#[]⟩] : Array Value).size) := Lib.hid fz.1
        have MZ : Hid (setMany #[Value.int .i64 0, .int .i64 0, .int .i64 0, .int .i64 0, .string ⟨#[]⟩] 0 V.toList = V) := Lib.hid fz.2
        have IZ := Lib.hid iz; have OZ := Lib.hid oz; have HVV := Lib.hid hV
        clear fz iz oz okv hV
        have gk : a.kind = 1 := g1
        clear g1
        rw [gk] at FA
        go_wp2_with (first | (with_reducible refine wpList_load_rg rfl 46 (.tmp 40) rfl (g := b) (off := off + k * 87) rfl C HRG.out _ Tryd.underlying46 rfl HI.out ?_) | (with_reducible refine wpList_store_st rfl 46 (.tmp 8) (.tmp 41) rfl (off := 0) C rfl rfl HZ.out HFT.out HI.out HO.out ?_; intro w4 h4; rw [HM.out] at h4; obtain ⟨e0, e1, e2, e3, e4, e5, e6⟩ := FA.out _ _ h4 (by simp); have HX := Lib.hid (show St W w4 (fun b => W.heap[b]?) (BothL gd gc gr n ps all last A c L [(n8, Obj.cells C 46 (0, 0))]) from first8 h4); clear h4))
        refine (KA2.out _ _ HX.out).mono ?_
        rintro e w5 ⟨rfl, h5⟩
        obtain ⟨e0, e1, e2, e3, e4, e5, e6⟩ := FA.out _ _ h5 (by simp [RdL])
        have h5z := h5.alloc (.cells #[Value.int .i64 0, .int .i64 0, .int .i64 0, .int .i64 0, .string ⟨#[]⟩] 23)
        obtain ⟨n15, hn15⟩ : ∃ x, w5.heap.size = x := ⟨_, rfl⟩
        rw [hn15] at h5z
        have H5Z := Lib.hid h5z
        clear h5 h5z HX KA2
        go_wp2_with (with_reducible refine wpList_store_st rfl 23 (.tmp 15) (.tmp 92) rfl (off := 0) V rfl rfl H5Z.out FZ.out IZ.out OZ.out ?_; intro w9 h9; rw [MZ.out] at h9; obtain ⟨e0, e1, e2, e3, e4, e5, e6⟩ := FA.out _ _ h9 (by simp [RdL]); have HS15 := Lib.hid h9; clear h9)
        have H6 := Lib.hid (swapR HS15.out)
        clear HS15 H5Z
        go_wp2_with fail
        refine (KB2.out _ _ H6.out).mono ?_
        rintro e w6 hgp
        obtain ⟨A', c', L', rfl, hA', h6⟩ := hgp
        dsimp only at hA' h6
        have h6z := h6.alloc (.cells #[Value.int .i64 0, .int .i64 0, .int .i64 0, .int .i64 0, .string ⟨#[]⟩] 23)
        obtain ⟨n18, hn18⟩ : ∃ x, w6.heap.size = x := ⟨_, rfl⟩
        rw [hn18] at h6z
        have H6Z := Lib.hid h6z; have HA2 := Lib.hid hA'
        clear h6 h6z H6 KB2 hA'
        rw [HVV.out]
        go_wp2_with (first | (with_reducible refine wpList_store_st rfl 23 (.tmp 18) (.tmp 100) rfl (off := 0) V rfl rfl H6Z.out FZ.out IZ.out OZ.out ?_; intro w9 h9; rw [MZ.out] at h9; obtain ⟨e0, e1, e2, e3, e4, e5, e6⟩ := FA.out _ _ h9 (by simp [RdL]); have HS18 := Lib.hid h9; clear h9) | (with_reducible refine wpList_load_at 106 rfl (by kernel_rfl) 23 (.tmp 15) rfl (g := n15) (off := 0) rfl HS18.out (cs := V) (t := 23) (fr := (0, 0)) (by simp [RdL]) V (fun j hj => by rw [Nat.zero_add]) _ Tryd.underlying23 rfl IZ.out ?_) | (with_reducible refine wpList_load_at 107 rfl (by kernel_rfl) 23 (.tmp 18) rfl (g := n18) (off := 0) rfl HS18.out (cs := V) (t := 23) (fr := (0, 0)) (by simp [RdL]) V (fun j hj => by rw [Nat.zero_add]) _ Tryd.underlying23 rfl IZ.out ?_))
        obtain ⟨G9, hG9⟩ : ∃ x : List (Nat × Obj), [(n18, Obj.cells V 23 (0, 0)), (n15, Obj.cells V 23 (0, 0)), (n8, Obj.cells C 46 (0, 0))] = x := ⟨_, rfl⟩
        have hy0 := swapS HS18.out
        have HY : Hid (St W _ (fun b => W.heap[b]?) (BothL gd gc gr n ps' all' last A' c' L' G9)) := Lib.hid (by rw [← hG9]; exact hy0)
        clear hy0 hG9 HS18 H6Z e0 e1 e2 e3 e4 e5 e6 FA heq
        have hn82 : ps'.length ≤ 8 := by rw [HPN2.out]; exact n8'
        have hal : all'.length ≤ 8 := by have := SIM2.out.le; omega
        have oka := SIM2.out.okAll OK2.out
        have wlen := SIM2.out.waitR
        rw [HPN2.out] at wlen
        have kW2 : ∀ v, St W v (fun b => W.heap[b]?) (BothL gd gc gr n ps' all' last A' c' L' G9) → Calls Tryd.prog 18 #[.pointer (some ⟨gd, 0, none⟩)] v fun e w' => e = .returned (.int .i64 (waitD ps' : Nat)) ∧ St W w' (fun b => W.heap[b]?) (BothL gd gc gr n ps' all' last A' c' L' G9) := fun v hv => desk_waiting OK2.out hn82 hv
        have kR2 : ∀ v, St W v (fun b => W.heap[b]?) (BothL gd gc gr n ps' all' last A' c' L' G9) → Calls Tryd.prog 28 #[.pointer (some ⟨gr, 0, none⟩)] v (WaitPost W (fun b => W.heap[b]?) (BothL gd gc gr n ps' all' last A' c' L' G9) (waitR n all')) := fun v hv => (rd_waiting oka hal n8' HA2.out hv.swap).mono fun e w' h => by
          obtain ⟨B, d, L1, h1, h2, h3⟩ := h
          exact ⟨B, d, L1, h1, h2, swap2 h3⟩
        have kP2 : ∀ (j : Int) (v : World), St W v (fun b => W.heap[b]?) (BothL gd gc gr n ps' all' last A' c' L' G9) → Calls Tryd.prog 16 #[.pointer (some ⟨gd, 0, none⟩), .int .i64 j] v fun e w' => e = .returned (.int .i64 (serR all' j)) ∧ St W w' (fun b => W.heap[b]?) (BothL gd gc gr n ps' all' last A' c' L' G9) := fun j v hv => by
          rw [← SIM2.out.ser j]
          exact desk_pending OK2.out hn82 j hv
        have kQ2 : ∀ (j : Int) (v : World), St W v (fun b => W.heap[b]?) (BothL gd gc gr n ps' all' last A' c' L' G9) → Calls Tryd.prog 29 #[.pointer (some ⟨gr, 0, none⟩), .int .i64 j] v fun e w' => e = .returned (.int .i64 (serR all' j)) ∧ St W w' (fun b => W.heap[b]?) (BothL gd gc gr n ps' all' last A' c' L' G9) := fun j v hv => (rd_serial oka hal HA2.out j hv.swap).mono fun e w' h => ⟨h.1, h.2.swap⟩
        obtain ⟨wd, hwd⟩ : ∃ x, waitD ps' = x := ⟨_, rfl⟩
        rw [hwd] at wlen
        simp only [hwd] at kW2
        have hwd8 : wd ≤ 8 := by rw [← hwd]; have := waitD_le ps'; omega
        have KW2 := Lib.hid kW2; have KR2 := Lib.hid kR2; have KP2 := Lib.hid kP2; have KQ2 := Lib.hid kQ2; have WLEN := Lib.hid wlen
        clear kW2 kR2 kP2 kQ2 wlen oka hal hn82 hwd
        go_wp2_with fail
        refine (KW2.out _ HY.out).mono ?_
        rintro e v1 ⟨rfl, hy⟩
        have HY2 := Lib.hid hy
        clear hy HY KW2
        go_wp2_with fail
        refine (KR2.out _ HY2.out).mono ?_
        rintro e v2 hgp
        obtain ⟨A9, c9, rfl, hy⟩ := waitPost_len WLEN.out hgp
        have HY3 := Lib.hid hy
        clear hgp hy HY2 KR2 WLEN
        go_wp2_with fail
        go_loopw [26] (fun i wr => ∃ j : Int, i = .int .i64 j ∧ -1 ≤ j ∧ j ≤ 9 ∧ St W wr (fun b => W.heap[b]?) (BothL gd gc gr n ps' all' last A' c' L' G9)) (fun i _ => (9 - intOf i).toNat)
        case atStart => exact ⟨-1, rfl, by omega, by omega, HY3.out⟩
        case round =>
          obtain ⟨j, rfl, hj1, hj2, hy⟩ := hrel
          clear HY3
          by_cases hj : j < 9
          · have kp := KP2.out j _ hy
            have KPJ := Lib.hid kp
            have KQJ := Lib.hid (KQ2.out j)
            clear kp hy KP2 KQ2
            go_wp2_with fail
            refine KPJ.out.mono ?_
            rintro e v4 ⟨rfl, hy⟩
            have HY5 := Lib.hid hy
            clear hy KPJ
            go_wp2_with fail
            refine (KQJ.out _ HY5.out).mono ?_
            rintro e v5 ⟨rfl, hy⟩
            have HY6 := Lib.hid hy
            clear hy HY5 KQJ
            go_wp2_with fail
            go_roundw
            case rel => exact ⟨j + 1, rfl, by omega, by omega, HY6.out⟩
            case measure => simp [intOf]; omega
          · have hy9 := St.cut9 hy
            have HY9 := Lib.hid hy9
            clear hy hy9 KP2 KQ2
            go_wp2_with fail
            go_roundw
            case rel => exact ⟨k + 1, ps', all', last, A', c', L', rfl, by omega, HPN2.out, OK2.out, SIM2.out, by omega, by omega, HA2.out, HY9.out⟩
            case measure => simp [intOf]; omega
      have g1b : (a.kind == 1) = false := beq_eq_false_iff_ne.2 g1
      by_cases g2 : a.kind = 2
      · have hs := SIM.out.ans a.n a.rep
        rw [HPN.out] at hs
        have hok := ansD_ok OK.out a.n a.rep OKR.out
        have kA := fun (v : World) (F : List (Nat × Obj)) (hv : St W v (fun b => W.heap[b]?) (DeskL gd gc ps last ++ F)) => desk_answer OK.out (by rw [HPN.out]; exact n8') a.n a.rep OKR.out hv
        have kB := fun (v : World) (F : List (Nat × Obj)) (hv : St W v (fun b => W.heap[b]?) (RdL gr (n : Int) A all.length c last L ++ F)) => rd_answer (SIM.out.okAll OK.out) (by have := SIM.out.le; rw [HPN.out] at this; omega) HA.out a.n a.rep OKR.out hv
        obtain ⟨r1, hr1⟩ : ∃ x, ansD ps a.n a.rep = x := ⟨_, rfl⟩
        obtain ⟨r2, hr2⟩ : ∃ x, ansD all a.n a.rep = x := ⟨_, rfl⟩
        rw [hr1] at hs hok
        rw [hr2] at hs
        simp only [hr1] at kA
        simp only [hr2] at kB
        clear hr1 hr2
        obtain ⟨ps', ab⟩ := r1
        obtain ⟨all', ab2⟩ := r2
        obtain ⟨s1, s3, s4⟩ := hs
        subst s1
        dsimp only at s3 s4 hok kA kB
        have SIM2 := Lib.hid s4; have OK2 := Lib.hid hok; have HPN2 := Lib.hid s3
        have KA2 := Lib.hid kA; have KB2 := Lib.hid kB
        clear s3 s4 kA kB SIM OK HPN HA
        clear hok
        have infr := rp_info a.rep OKR.out
        obtain ⟨V, hV⟩ : ∃ x, a.rep.cells = x := ⟨_, rfl⟩
        have hrep := HREP.out
        simp only [hV] at KA2 KB2 hrep
        rw [hV] at infr
        have HMA : Hid ((Tryd.prog.info? 44).map (·.size) = some V.toList.length) := Lib.hid (by rw [infr, Array.length_toList])
        have HUL := Lib.hid Tryd.underlying44
        have sx : ∀ (v : World) (LL : List (Nat × Obj)), St W v (fun b => W.heap[b]?) LL → (n8, Obj.cells C 46 (0, 0)) ∈ LL → (v.cell? ⟨n8, 1, none⟩ = some (.int .i64 a.n) ∧ v.rangeAt n8 7 V.toList) := fun v LL hv hm => ⟨(FA.out v LL hv hm).2.1, hv.rangeAt (g := n8) (cs := C) (t := 46) (fr := (0, 0)) hm (fun j hj => by rw [hrep, Array.getElem?_toList])⟩
        have SX := Lib.hid sx
        have gk : a.kind = 2 := g2
        clear g2 sx hrep infr hV HREP
        rw [gk] at FA
        go_wp2_with (first | (with_reducible refine wpList_load_rg rfl 46 (.tmp 40) rfl (g := b) (off := off + k * 87) rfl C HRG.out _ Tryd.underlying46 rfl HI.out ?_) | (with_reducible refine wpList_store_st rfl 46 (.tmp 8) (.tmp 41) rfl (off := 0) C rfl rfl HZ.out HFT.out HI.out HO.out ?_; intro w4 h4; rw [HM.out] at h4; obtain ⟨e0, e1, e2, e3, e4, e5, e6⟩ := FA.out _ _ h4 (by simp); have HX := Lib.hid (show St W w4 (fun b => W.heap[b]?) (BothL gd gc gr n ps all last A c L [(n8, Obj.cells C 46 (0, 0))]) from first8 h4); clear h4))
        have hx : St W _ (fun b => W.heap[b]?) (DeskL gd gc ps last ++ (RdL gr (n : Int) A all.length c last L ++ [(n8, Obj.cells C 46 (0, 0))])) := HX.out.drew1
        clear HX e0 e1 e2 e3 e4 e5 e6 FA
        refine wp_region_held_drew (S := fun v => (v.cell? ⟨n8, 1, none⟩ = some (.int .i64 a.n) ∧ v.rangeAt n8 7 V.toList)) (by kernel_rfl) (SX.out _ _ hx (by simp [RdL])) (fun hHeld => ?_)
        refine wpAnyH_take (i := 0) (oi := ?_) (v := ?_) ?_ ?_ ?_ ?_ ?_ ?_ ?_ ?_
        rotate_left 2
        · (simp only [List.getElem?_toArray, List.getElem?_cons_succ, List.getElem?_cons_zero]; exact rfl)
        · kernel_rfl
        · kernel_rfl
        · kernel_rfl
        · exact fun _ _ _ h => h
        · first | (refine Or.inl ⟨by rfl, ?_⟩; intro w hSw; (try dsimp only at hSw); go_simp; try with_reducible rfl) | (refine Or.inr ⟨by rfl, ?_⟩; rfl)
        · assumption
        try simp only [Act.put, List.setIfInBounds_toArray, List.set_cons_zero, List.set_cons_succ]
        refine wpAnyH_take (i := 1) (oi := ?_) (v := ?_) ?_ ?_ ?_ ?_ ?_ ?_ ?_ ?_
        rotate_left 2
        · (simp only [List.getElem?_toArray, List.getElem?_cons_succ, List.getElem?_cons_zero]; exact rfl)
        · kernel_rfl
        · kernel_rfl
        · kernel_rfl
        · exact fun _ _ _ h => h
        · first | (refine Or.inl ⟨by rfl, ?_⟩; intro w hSw; (try dsimp only at hSw); go_simp; try with_reducible rfl) | (refine Or.inr ⟨by rfl, ?_⟩; rfl)
        · assumption
        try simp only [Act.put, List.setIfInBounds_toArray, List.set_cons_zero, List.set_cons_succ]
        refine wpAnyH_take (i := 2) (oi := ?_) (v := ?_) ?_ ?_ ?_ ?_ ?_ ?_ ?_ ?_
        rotate_left 2
        · (simp only [List.getElem?_toArray, List.getElem?_cons_succ, List.getElem?_cons_zero]; exact rfl)
        · kernel_rfl
        · kernel_rfl
        · kernel_rfl
        · exact fun _ _ _ h => h
        · first | (first | ((refine yieldsIf_load_mid ?_ 44 (.tmp 120) ?_ n8 7 ?_ V.toList _ ?_ HUL.out ?_ HMA.out) <;> first | rfl | exact fun w h => h.2) | ((refine yieldsIf_load_mid ?_ 44 (.tmp 126) ?_ n8 7 ?_ V.toList _ ?_ HUL.out ?_ HMA.out) <;> first | rfl | exact fun w h => h.2) | (refine Or.inl ⟨by rfl, ?_⟩; intro w hSw; obtain ⟨hS1, hS2⟩ := hSw; go_simp; try with_reducible rfl)) | (refine Or.inr ⟨by rfl, ?_⟩; rfl)
        · assumption
        try simp only [Act.put, List.setIfInBounds_toArray, List.set_cons_zero, List.set_cons_succ]
        refine wpAnyH_take (i := 3) (oi := ?_) (v := ?_) ?_ ?_ ?_ ?_ ?_ ?_ ?_ ?_
        rotate_left 2
        · (simp only [List.getElem?_toArray, List.getElem?_cons_succ, List.getElem?_cons_zero]; exact rfl)
        · kernel_rfl
        · kernel_rfl
        · kernel_rfl
        · exact fun _ _ _ h => h
        · first | (refine Or.inl ⟨by rfl, ?_⟩; intro w hSw; (try dsimp only at hSw); go_simp; try with_reducible rfl) | (refine Or.inr ⟨by rfl, ?_⟩; rfl)
        · assumption
        try simp only [Act.put, List.setIfInBounds_toArray, List.set_cons_zero, List.set_cons_succ]
        refine wpAnyH_take (i := 4) (oi := ?_) (v := ?_) ?_ ?_ ?_ ?_ ?_ ?_ ?_ ?_
        rotate_left 2
        · (simp only [List.getElem?_toArray, List.getElem?_cons_succ, List.getElem?_cons_zero]; exact rfl)
        · kernel_rfl
        · kernel_rfl
        · kernel_rfl
        · exact fun _ _ _ h => h
        · first | (first | ((refine yieldsIf_load_mid ?_ 44 (.tmp 120) ?_ n8 7 ?_ V.toList _ ?_ HUL.out ?_ HMA.out) <;> first | rfl | exact fun w h => h.2) | ((refine yieldsIf_load_mid ?_ 44 (.tmp 126) ?_ n8 7 ?_ V.toList _ ?_ HUL.out ?_ HMA.out) <;> first | rfl | exact fun w h => h.2) | (refine Or.inl ⟨by rfl, ?_⟩; intro w hSw; obtain ⟨hS1, hS2⟩ := hSw; go_simp; try with_reducible rfl)) | (refine Or.inr ⟨by rfl, ?_⟩; rfl)
        · assumption
        try simp only [Act.put, List.setIfInBounds_toArray, List.set_cons_zero, List.set_cons_succ]
        refine wpAnyH_take (i := 6) (oi := ?_) (v := ?_) ?_ ?_ ?_ ?_ ?_ ?_ ?_ ?_
        rotate_left 2
        · (simp only [List.getElem?_toArray, List.getElem?_cons_succ, List.getElem?_cons_zero]; exact rfl)
        · kernel_rfl
        · kernel_rfl
        · kernel_rfl
        · exact fun _ _ _ h => h
        · first | (refine Or.inl ⟨by rfl, ?_⟩; intro w hSw; (try dsimp only at hSw); go_simp; try with_reducible rfl) | (refine Or.inr ⟨by rfl, ?_⟩; rfl)
        · assumption
        try simp only [Act.put, List.setIfInBounds_toArray, List.set_cons_zero, List.set_cons_succ]
        refine wpAnyH_take (i := 7) (oi := ?_) (v := ?_) ?_ ?_ ?_ ?_ ?_ ?_ ?_ ?_
        rotate_left 2
        · (simp only [List.getElem?_toArray, List.getElem?_cons_succ, List.getElem?_cons_zero]; exact rfl)
        · kernel_rfl
        · kernel_rfl
        · kernel_rfl
        · exact fun _ _ _ h => h
        · first | (refine Or.inl ⟨by rfl, ?_⟩; intro w hSw; (try dsimp only at hSw); go_simp; try with_reducible rfl) | (refine Or.inr ⟨by rfl, ?_⟩; rfl)
        · assumption
        try simp only [Act.put, List.setIfInBounds_toArray, List.set_cons_zero, List.set_cons_succ]
        refine wpAnyH_take (i := 8) (oi := ?_) (v := ?_) ?_ ?_ ?_ ?_ ?_ ?_ ?_ ?_
        rotate_left 2
        · (simp only [List.getElem?_toArray, List.getElem?_cons_succ, List.getElem?_cons_zero]; exact rfl)
        · kernel_rfl
        · kernel_rfl
        · kernel_rfl
        · exact fun _ _ _ h => h
        · first | (first | ((refine yieldsIf_load_mid ?_ 44 (.tmp 120) ?_ n8 7 ?_ V.toList _ ?_ HUL.out ?_ HMA.out) <;> first | rfl | exact fun w h => h.2) | ((refine yieldsIf_load_mid ?_ 44 (.tmp 126) ?_ n8 7 ?_ V.toList _ ?_ HUL.out ?_ HMA.out) <;> first | rfl | exact fun w h => h.2) | (refine Or.inl ⟨by rfl, ?_⟩; intro w hSw; obtain ⟨hS1, hS2⟩ := hSw; go_simp; try with_reducible rfl)) | (refine Or.inr ⟨by rfl, ?_⟩; rfl)
        · assumption
        try simp only [Act.put, List.setIfInBounds_toArray, List.set_cons_zero, List.set_cons_succ]
        refine wpAnyH_take (i := 9) (oi := ?_) (v := ?_) ?_ ?_ ?_ ?_ ?_ ?_ ?_ ?_
        rotate_left 2
        · (simp only [List.getElem?_toArray, List.getElem?_cons_succ, List.getElem?_cons_zero]; exact rfl)
        · kernel_rfl
        · kernel_rfl
        · kernel_rfl
        · exact fun _ _ _ h => h
        · first | (refine Or.inl ⟨by rfl, ?_⟩; intro w hSw; (try dsimp only at hSw); go_simp; try with_reducible rfl) | (refine Or.inr ⟨by rfl, ?_⟩; rfl)
        · assumption
        try simp only [Act.put, List.setIfInBounds_toArray, List.set_cons_zero, List.set_cons_succ]
        refine wpAnyH_take (i := 10) (oi := ?_) (v := ?_) ?_ ?_ ?_ ?_ ?_ ?_ ?_ ?_
        rotate_left 2
        · (simp only [List.getElem?_toArray, List.getElem?_cons_succ, List.getElem?_cons_zero]; exact rfl)
        · kernel_rfl
        · kernel_rfl
        · kernel_rfl
        · exact fun _ _ _ h => h
        · first | (first | ((refine yieldsIf_load_mid ?_ 44 (.tmp 120) ?_ n8 7 ?_ V.toList _ ?_ HUL.out ?_ HMA.out) <;> first | rfl | exact fun w h => h.2) | ((refine yieldsIf_load_mid ?_ 44 (.tmp 126) ?_ n8 7 ?_ V.toList _ ?_ HUL.out ?_ HMA.out) <;> first | rfl | exact fun w h => h.2) | (refine Or.inl ⟨by rfl, ?_⟩; intro w hSw; obtain ⟨hS1, hS2⟩ := hSw; go_simp; try with_reducible rfl)) | (refine Or.inr ⟨by rfl, ?_⟩; rfl)
        · assumption
        try simp only [Act.put, List.setIfInBounds_toArray, List.set_cons_zero, List.set_cons_succ]
        refine wpAnyH_ready (rs := [5]) (by kernel_rfl) (by simp) ?_
        refine AllReadyH.cons (o := ?_) ?_ (fun K hK => ?_) ?_
        rotate_left 1
        · (simp only [List.getElem?_toArray, List.getElem?_cons_succ, List.getElem?_cons_zero]; exact rfl)
        · go_simp
          (first | (go_at_call 20; (with_reducible refine (KA2.out _ _ (by first | exact hx | exact hx.drew1)).mono ?_); rintro e wx ⟨rfl, hx⟩; dsimp only) | (go_at_call 26; (with_reducible refine (KB2.out _ _ (swap2' hx)).mono ?_); rintro e wx hgp; obtain ⟨A', c', L', rfl, hA', h6⟩ := hgp; have hx := swap2' h6; dsimp only))
          refine hK.out _ _ ?_ (fun hHeld => ?_)
          · (try dsimp only) <;> (exact SX.out _ _ hx (by simp [RdL]))
          clear hK K
          try simp only [Act.put, List.setIfInBounds_toArray, List.set_cons_zero, List.set_cons_succ]
          refine wpAnyH_ready (rs := [11]) (by kernel_rfl) (by simp) ?_
          refine AllReadyH.cons (o := ?_) ?_ (fun K hK => ?_) ?_
          rotate_left 1
          · (simp only [List.getElem?_toArray, List.getElem?_cons_succ, List.getElem?_cons_zero]; exact rfl)
          · go_simp
            (first | (go_at_call 20; (with_reducible refine (KA2.out _ _ (by first | exact hx | exact hx.drew1)).mono ?_); rintro e wx ⟨rfl, hx⟩; dsimp only) | (go_at_call 26; (with_reducible refine (KB2.out _ _ (swap2' hx)).mono ?_); rintro e wx hgp; obtain ⟨A', c', L', rfl, hA', h6⟩ := hgp; have hx := swap2' h6; dsimp only))
            refine hK.out _ _ ?_ (fun hHeld => ?_)
            · (try dsimp only) <;> (exact SX.out _ _ hx (by simp [RdL]))
            clear hK K
            try simp only [Act.put, List.setIfInBounds_toArray, List.set_cons_zero, List.set_cons_succ]
            refine wpAnyH_take (i := 12) (oi := ?_) (v := ?_) ?_ ?_ ?_ ?_ ?_ ?_ ?_ ?_
            rotate_left 2
            · (simp only [List.getElem?_toArray, List.getElem?_cons_succ, List.getElem?_cons_zero]; exact rfl)
            · kernel_rfl
            · kernel_rfl
            · kernel_rfl
            · exact fun _ _ _ h => h
            · first | (refine Or.inl ⟨by rfl, ?_⟩; intro w hSw; (try dsimp only at hSw); go_simp; try with_reducible rfl) | (refine Or.inr ⟨by rfl, ?_⟩; rfl)
            · assumption
            try simp only [Act.put, List.setIfInBounds_toArray, List.set_cons_zero, List.set_cons_succ]
            refine wpAnyH_take (i := 13) (oi := ?_) (v := ?_) ?_ ?_ ?_ ?_ ?_ ?_ ?_ ?_
            rotate_left 2
            · (simp only [List.getElem?_toArray, List.getElem?_cons_succ, List.getElem?_cons_zero]; exact rfl)
            · kernel_rfl
            · kernel_rfl
            · kernel_rfl
            · exact fun _ _ _ h => h
            · first | (refine Or.inl ⟨by rfl, ?_⟩; intro w hSw; (try dsimp only at hSw); go_simp; try with_reducible rfl) | (refine Or.inr ⟨by rfl, ?_⟩; rfl)
            · assumption
            try simp only [Act.put, List.setIfInBounds_toArray, List.set_cons_zero, List.set_cons_succ]
            refine wpAnyH_done (by kernel_rfl) ?_ _
            obtain ⟨G9, hG9⟩ : ∃ x : List (Nat × Obj), [(n8, Obj.cells C 46 (0, 0))] = x := ⟨_, rfl⟩
            have hy := hx
            rw [hG9] at hy
            have HY : Hid (St W _ (fun b => W.heap[b]?) (BothL gd gc gr n ps' all' last A' c' L' G9)) := Lib.hid hy
            have HA2 := Lib.hid hA'
            clear hy hx h6 hA' hG9 SX KA2 KB2
            have hn82 : ps'.length ≤ 8 := by rw [HPN2.out]; exact n8'
            have hal : all'.length ≤ 8 := by have := SIM2.out.le; omega
            have oka := SIM2.out.okAll OK2.out
            have wlen := SIM2.out.waitR
            rw [HPN2.out] at wlen
            have kW2 : ∀ v, St W v (fun b => W.heap[b]?) (BothL gd gc gr n ps' all' last A' c' L' G9) → Calls Tryd.prog 18 #[.pointer (some ⟨gd, 0, none⟩)] v fun e w' => e = .returned (.int .i64 (waitD ps' : Nat)) ∧ St W w' (fun b => W.heap[b]?) (BothL gd gc gr n ps' all' last A' c' L' G9) := fun v hv => desk_waiting OK2.out hn82 hv
            have kR2 : ∀ v, St W v (fun b => W.heap[b]?) (BothL gd gc gr n ps' all' last A' c' L' G9) → Calls Tryd.prog 28 #[.pointer (some ⟨gr, 0, none⟩)] v (WaitPost W (fun b => W.heap[b]?) (BothL gd gc gr n ps' all' last A' c' L' G9) (waitR n all')) := fun v hv => (rd_waiting oka hal n8' HA2.out hv.swap).mono fun e w' h => by
              obtain ⟨B, d, L1, h1, h2, h3⟩ := h
              exact ⟨B, d, L1, h1, h2, swap2 h3⟩
            have kP2 : ∀ (j : Int) (v : World), St W v (fun b => W.heap[b]?) (BothL gd gc gr n ps' all' last A' c' L' G9) → Calls Tryd.prog 16 #[.pointer (some ⟨gd, 0, none⟩), .int .i64 j] v fun e w' => e = .returned (.int .i64 (serR all' j)) ∧ St W w' (fun b => W.heap[b]?) (BothL gd gc gr n ps' all' last A' c' L' G9) := fun j v hv => by
              rw [← SIM2.out.ser j]
              exact desk_pending OK2.out hn82 j hv
            have kQ2 : ∀ (j : Int) (v : World), St W v (fun b => W.heap[b]?) (BothL gd gc gr n ps' all' last A' c' L' G9) → Calls Tryd.prog 29 #[.pointer (some ⟨gr, 0, none⟩), .int .i64 j] v fun e w' => e = .returned (.int .i64 (serR all' j)) ∧ St W w' (fun b => W.heap[b]?) (BothL gd gc gr n ps' all' last A' c' L' G9) := fun j v hv => (rd_serial oka hal HA2.out j hv.swap).mono fun e w' h => ⟨h.1, h.2.swap⟩
            obtain ⟨wd, hwd⟩ : ∃ x, waitD ps' = x := ⟨_, rfl⟩
            rw [hwd] at wlen
            simp only [hwd] at kW2
            have hwd8 : wd ≤ 8 := by rw [← hwd]; have := waitD_le ps'; omega
            have KW2 := Lib.hid kW2; have KR2 := Lib.hid kR2; have KP2 := Lib.hid kP2; have KQ2 := Lib.hid kQ2; have WLEN := Lib.hid wlen
            clear kW2 kR2 kP2 kQ2 wlen oka hal hn82 hwd
            go_wp2_with fail
            refine (KW2.out _ HY.out).mono ?_
            rintro e v1 ⟨rfl, hy⟩
            have HY2 := Lib.hid hy
            clear hy HY KW2
            go_wp2_with fail
            refine (KR2.out _ HY2.out).mono ?_
            rintro e v2 hgp
            obtain ⟨A9, c9, rfl, hy⟩ := waitPost_len WLEN.out hgp
            have HY3 := Lib.hid hy
            clear hgp hy HY2 KR2 WLEN
            go_wp2_with fail
            go_loopw [26] (fun i wr => ∃ j : Int, i = .int .i64 j ∧ -1 ≤ j ∧ j ≤ 9 ∧ St W wr (fun b => W.heap[b]?) (BothL gd gc gr n ps' all' last A' c' L' G9)) (fun i _ => (9 - intOf i).toNat)
            case atStart => exact ⟨-1, rfl, by omega, by omega, HY3.out⟩
            case round =>
              obtain ⟨j, rfl, hj1, hj2, hy⟩ := hrel
              clear HY3
              by_cases hj : j < 9
              · have kp := KP2.out j _ hy
                have KPJ := Lib.hid kp
                have KQJ := Lib.hid (KQ2.out j)
                clear kp hy KP2 KQ2
                go_wp2_with fail
                refine KPJ.out.mono ?_
                rintro e v4 ⟨rfl, hy⟩
                have HY5 := Lib.hid hy
                clear hy KPJ
                go_wp2_with fail
                refine (KQJ.out _ HY5.out).mono ?_
                rintro e v5 ⟨rfl, hy⟩
                have HY6 := Lib.hid hy
                clear hy HY5 KQJ
                go_wp2_with fail
                go_roundw
                case rel => exact ⟨j + 1, rfl, by omega, by omega, HY6.out⟩
                case measure => simp [intOf]; omega
              · have hy9 := St.cut9 hy
                have HY9 := Lib.hid hy9
                clear hy hy9 KP2 KQ2
                go_wp2_with fail
                go_roundw
                case rel => exact ⟨k + 1, ps', all', last, A', c', L', rfl, by omega, HPN2.out, OK2.out, SIM2.out, by omega, by omega, HA2.out, HY9.out⟩
                case measure => simp [intOf]; omega
          exact AllReadyH.nil
        exact AllReadyH.nil
      have g2b : (a.kind == 2) = false := beq_eq_false_iff_ne.2 g2
      by_cases g4 : a.kind = 3
      · have hs := SIM.out.take a.n
        rw [HPN.out] at hs
        have hok := takeD_ok OK.out a.n
        have kA := fun (v : World) (F : List (Nat × Obj)) (hv : St W v (fun b => W.heap[b]?) (DeskL gd gc ps last ++ F)) => desk_take OK.out (by rw [HPN.out]; exact n8') a.n hv
        have kB := fun (v : World) (F : List (Nat × Obj)) (hv : St W v (fun b => W.heap[b]?) (RdL gr (n : Int) A all.length c last L ++ F)) => rd_take (SIM.out.okAll OK.out) (by have := SIM.out.le; rw [HPN.out] at this; omega) HA.out a.n hv
        obtain ⟨r1, hr1⟩ : ∃ x, takeD ps a.n = x := ⟨_, rfl⟩
        obtain ⟨r2, hr2⟩ : ∃ x, takeR all a.n = x := ⟨_, rfl⟩
        rw [hr1] at hs hok
        rw [hr2] at hs
        simp only [hr1] at kA
        simp only [hr2] at kB
        clear hr1 hr2
        obtain ⟨ps', an, av, ab⟩ := r1
        obtain ⟨all', an2, av2, ab2⟩ := r2
        obtain ⟨s1, s3, s4⟩ := hs
        simp only [Prod.mk.injEq] at s1
        obtain ⟨rfl, rfl, rfl⟩ := s1
        dsimp only at s3 s4 hok kA kB
        have SIM2 := Lib.hid s4; have OK2 := Lib.hid hok.1; have HPN2 := Lib.hid s3
        have KA2 := Lib.hid kA; have KB2 := Lib.hid kB
        clear s3 s4 kA kB SIM OK HPN HA
        have okv := hok.2
        clear hok
        have fz := zr_whole Tryd.zeroCells44 (by decide) av okv
        have iz := rp_info av okv
        have oz := av.one
        have heq := fun w => eq_reply_refl av okv w
        obtain ⟨V, hV⟩ : ∃ x, av.cells = x := ⟨_, rfl⟩
        rw [hV] at fz iz oz
        simp only [hV] at heq KA2 KB2
        have FZ : Hid (0 + V.size ≤ (Tryd.zeroCells44 : Array Value).size) := Lib.hid fz.1
        have MZ : Hid (setMany Tryd.zeroCells44 0 V.toList = V) := Lib.hid fz.2
        have IZ := Lib.hid iz; have OZ := Lib.hid oz; have HVV := Lib.hid hV
        clear fz iz oz okv hV
        have gk : a.kind = 3 := g4
        clear g4
        rw [gk] at FA
        go_wp2_with (first | (with_reducible refine wpList_load_rg rfl 46 (.tmp 40) rfl (g := b) (off := off + k * 87) rfl C HRG.out _ Tryd.underlying46 rfl HI.out ?_) | (with_reducible refine wpList_store_st rfl 46 (.tmp 8) (.tmp 41) rfl (off := 0) C rfl rfl HZ.out HFT.out HI.out HO.out ?_; intro w4 h4; rw [HM.out] at h4; obtain ⟨e0, e1, e2, e3, e4, e5, e6⟩ := FA.out _ _ h4 (by simp); have HX := Lib.hid (show St W w4 (fun b => W.heap[b]?) (BothL gd gc gr n ps all last A c L [(n8, Obj.cells C 46 (0, 0))]) from first8 h4); clear h4))
        refine (KA2.out _ _ HX.out).mono ?_
        rintro e w5 ⟨rfl, h5⟩
        obtain ⟨e0, e1, e2, e3, e4, e5, e6⟩ := FA.out _ _ h5 (by simp [RdL])
        have h5z := h5.alloc (.cells Tryd.zeroCells44 44)
        obtain ⟨n15, hn15⟩ : ∃ x, w5.heap.size = x := ⟨_, rfl⟩
        rw [hn15] at h5z
        have H5Z := Lib.hid h5z
        clear h5 h5z HX KA2
        go_wp2_with (with_reducible refine wpList_store_st rfl 44 (.tmp 21) (.tmp 138) rfl (off := 0) V rfl rfl H5Z.out FZ.out IZ.out OZ.out ?_; intro w9 h9; rw [MZ.out] at h9; obtain ⟨e0, e1, e2, e3, e4, e5, e6⟩ := FA.out _ _ h9 (by simp [RdL]); have HS21 := Lib.hid h9; clear h9)
        have H6 := Lib.hid (swapR HS21.out)
        clear HS21 H5Z
        go_wp2_with fail
        refine (KB2.out _ _ H6.out).mono ?_
        rintro e w6 hgp
        obtain ⟨A', c', L', rfl, hA', h6⟩ := hgp
        dsimp only at hA' h6
        have h6z := h6.alloc (.cells Tryd.zeroCells44 44)
        obtain ⟨n18, hn18⟩ : ∃ x, w6.heap.size = x := ⟨_, rfl⟩
        rw [hn18] at h6z
        have H6Z := Lib.hid h6z; have HA2 := Lib.hid hA'
        clear h6 h6z H6 KB2 hA'
        rw [HVV.out]
        go_wp2_with (first | (with_reducible refine wpList_store_st rfl 44 (.tmp 24) (.tmp 146) rfl (off := 0) V rfl rfl H6Z.out FZ.out IZ.out OZ.out ?_; intro w9 h9; rw [MZ.out] at h9; obtain ⟨e0, e1, e2, e3, e4, e5, e6⟩ := FA.out _ _ h9 (by simp [RdL]); have HS24 := Lib.hid h9; clear h9) | (with_reducible refine wpList_load_at 152 rfl (by kernel_rfl) 44 (.tmp 21) rfl (g := n15) (off := 0) rfl HS24.out (cs := V) (t := 44) (fr := (0, 0)) (by simp [RdL]) V (fun j hj => by rw [Nat.zero_add]) _ Tryd.underlying44 rfl IZ.out ?_) | (with_reducible refine wpList_load_at 153 rfl (by kernel_rfl) 44 (.tmp 24) rfl (g := n18) (off := 0) rfl HS24.out (cs := V) (t := 44) (fr := (0, 0)) (by simp [RdL]) V (fun j hj => by rw [Nat.zero_add]) _ Tryd.underlying44 rfl IZ.out ?_))
        obtain ⟨G9, hG9⟩ : ∃ x : List (Nat × Obj), [(n18, Obj.cells V 44 (0, 0)), (n15, Obj.cells V 44 (0, 0)), (n8, Obj.cells C 46 (0, 0))] = x := ⟨_, rfl⟩
        have hy0 := swapS HS24.out
        have HY : Hid (St W _ (fun b => W.heap[b]?) (BothL gd gc gr n ps' all' last A' c' L' G9)) := Lib.hid (by rw [← hG9]; exact hy0)
        clear hy0 hG9 HS24 H6Z e0 e1 e2 e3 e4 e5 e6 FA heq
        have hn82 : ps'.length ≤ 8 := by rw [HPN2.out]; exact n8'
        have hal : all'.length ≤ 8 := by have := SIM2.out.le; omega
        have oka := SIM2.out.okAll OK2.out
        have wlen := SIM2.out.waitR
        rw [HPN2.out] at wlen
        have kW2 : ∀ v, St W v (fun b => W.heap[b]?) (BothL gd gc gr n ps' all' last A' c' L' G9) → Calls Tryd.prog 18 #[.pointer (some ⟨gd, 0, none⟩)] v fun e w' => e = .returned (.int .i64 (waitD ps' : Nat)) ∧ St W w' (fun b => W.heap[b]?) (BothL gd gc gr n ps' all' last A' c' L' G9) := fun v hv => desk_waiting OK2.out hn82 hv
        have kR2 : ∀ v, St W v (fun b => W.heap[b]?) (BothL gd gc gr n ps' all' last A' c' L' G9) → Calls Tryd.prog 28 #[.pointer (some ⟨gr, 0, none⟩)] v (WaitPost W (fun b => W.heap[b]?) (BothL gd gc gr n ps' all' last A' c' L' G9) (waitR n all')) := fun v hv => (rd_waiting oka hal n8' HA2.out hv.swap).mono fun e w' h => by
          obtain ⟨B, d, L1, h1, h2, h3⟩ := h
          exact ⟨B, d, L1, h1, h2, swap2 h3⟩
        have kP2 : ∀ (j : Int) (v : World), St W v (fun b => W.heap[b]?) (BothL gd gc gr n ps' all' last A' c' L' G9) → Calls Tryd.prog 16 #[.pointer (some ⟨gd, 0, none⟩), .int .i64 j] v fun e w' => e = .returned (.int .i64 (serR all' j)) ∧ St W w' (fun b => W.heap[b]?) (BothL gd gc gr n ps' all' last A' c' L' G9) := fun j v hv => by
          rw [← SIM2.out.ser j]
          exact desk_pending OK2.out hn82 j hv
        have kQ2 : ∀ (j : Int) (v : World), St W v (fun b => W.heap[b]?) (BothL gd gc gr n ps' all' last A' c' L' G9) → Calls Tryd.prog 29 #[.pointer (some ⟨gr, 0, none⟩), .int .i64 j] v fun e w' => e = .returned (.int .i64 (serR all' j)) ∧ St W w' (fun b => W.heap[b]?) (BothL gd gc gr n ps' all' last A' c' L' G9) := fun j v hv => (rd_serial oka hal HA2.out j hv.swap).mono fun e w' h => ⟨h.1, h.2.swap⟩
        obtain ⟨wd, hwd⟩ : ∃ x, waitD ps' = x := ⟨_, rfl⟩
        rw [hwd] at wlen
        simp only [hwd] at kW2
        have hwd8 : wd ≤ 8 := by rw [← hwd]; have := waitD_le ps'; omega
        have KW2 := Lib.hid kW2; have KR2 := Lib.hid kR2; have KP2 := Lib.hid kP2; have KQ2 := Lib.hid kQ2; have WLEN := Lib.hid wlen
        clear kW2 kR2 kP2 kQ2 wlen oka hal hn82 hwd
        go_wp2_with fail
        refine (KW2.out _ HY.out).mono ?_
        rintro e v1 ⟨rfl, hy⟩
        have HY2 := Lib.hid hy
        clear hy HY KW2
        go_wp2_with fail
        refine (KR2.out _ HY2.out).mono ?_
        rintro e v2 hgp
        obtain ⟨A9, c9, rfl, hy⟩ := waitPost_len WLEN.out hgp
        have HY3 := Lib.hid hy
        clear hgp hy HY2 KR2 WLEN
        go_wp2_with fail
        go_loopw [26] (fun i wr => ∃ j : Int, i = .int .i64 j ∧ -1 ≤ j ∧ j ≤ 9 ∧ St W wr (fun b => W.heap[b]?) (BothL gd gc gr n ps' all' last A' c' L' G9)) (fun i _ => (9 - intOf i).toNat)
        case atStart => exact ⟨-1, rfl, by omega, by omega, HY3.out⟩
        case round =>
          obtain ⟨j, rfl, hj1, hj2, hy⟩ := hrel
          clear HY3
          by_cases hj : j < 9
          · have kp := KP2.out j _ hy
            have KPJ := Lib.hid kp
            have KQJ := Lib.hid (KQ2.out j)
            clear kp hy KP2 KQ2
            go_wp2_with fail
            refine KPJ.out.mono ?_
            rintro e v4 ⟨rfl, hy⟩
            have HY5 := Lib.hid hy
            clear hy KPJ
            go_wp2_with fail
            refine (KQJ.out _ HY5.out).mono ?_
            rintro e v5 ⟨rfl, hy⟩
            have HY6 := Lib.hid hy
            clear hy HY5 KQJ
            go_wp2_with fail
            go_roundw
            case rel => exact ⟨j + 1, rfl, by omega, by omega, HY6.out⟩
            case measure => simp [intOf]; omega
          · have hy9 := St.cut9 hy
            have HY9 := Lib.hid hy9
            clear hy hy9 KP2 KQ2
            go_wp2_with fail
            go_roundw
            case rel => exact ⟨k + 1, ps', all', last, A', c', L', rfl, by omega, HPN2.out, OK2.out, SIM2.out, by omega, by omega, HA2.out, HY9.out⟩
            case measure => simp [intOf]; omega
      have g4b : (a.kind == 3) = false := beq_eq_false_iff_ne.2 g4
      have kD := fun (v : World) (F : List (Nat × Obj)) (hv : St W v (fun b => W.heap[b]?) (DeskL gd gc ps last ++ F)) => desk_drop OK.out (by rw [HPN.out]; exact n1) (by rw [HPN.out]; exact n8') hv
      simp only [SIM.out.count, HPN.out] at kD
      have KD := Lib.hid kD
      have sx : ∀ (v : World) (LL : List (Nat × Obj)), St W v (fun b => W.heap[b]?) LL → (gr, Obj.cells (rdesk (n : Int) A all.length c last) 66 (0, 0)) ∈ LL → (v.cell? ⟨gr, 1, none⟩ = some (.slice A all.length c)) := fun v LL hv hm => hv.cell (g := gr) (cs := rdesk (n : Int) A all.length c last) (t := 66) (fr := (0, 0)) hm 1
      have SX := Lib.hid sx
      have hal8 : all.length ≤ 8 := by have := SIM.out.le; rw [HPN.out] at this; omega
      clear kD sx SIM OK HPN HA
      go_wp2_with (first | (with_reducible refine wpList_load_rg rfl 46 (.tmp 40) rfl (g := b) (off := off + k * 87) rfl C HRG.out _ Tryd.underlying46 rfl HI.out ?_) | (with_reducible refine wpList_store_st rfl 46 (.tmp 8) (.tmp 41) rfl (off := 0) C rfl rfl HZ.out HFT.out HI.out HO.out ?_; intro w4 h4; rw [HM.out] at h4; obtain ⟨e0, e1, e2, e3, e4, e5, e6⟩ := FA.out _ _ h4 (by simp); have HX := Lib.hid (show St W w4 (fun b => W.heap[b]?) (BothL gd gc gr n ps all last A c L [(n8, Obj.cells C 46 (0, 0))]) from first8 h4); clear h4))
      have hx : St W _ (fun b => W.heap[b]?) (DeskL gd gc ps last ++ (RdL gr (n : Int) A all.length c last L ++ [(n8, Obj.cells C 46 (0, 0))])) := HX.out.drew1
      clear HX e0 e1 e2 e3 e4 e5 e6 FA
      refine wp_region_held_drew (S := fun v => (v.cell? ⟨gr, 1, none⟩ = some (.slice A all.length c))) (by kernel_rfl) (SX.out _ _ hx (by simp [RdL])) (fun hHeld => ?_)
      refine wpAnyH_take (i := 0) (oi := ?_) (v := ?_) ?_ ?_ ?_ ?_ ?_ ?_ ?_ ?_
      rotate_left 2
      · (simp only [List.getElem?_toArray, List.getElem?_cons_succ, List.getElem?_cons_zero]; exact rfl)
      · kernel_rfl
      · kernel_rfl
      · kernel_rfl
      · exact fun _ _ _ h => h
      · first | (refine Or.inl ⟨by rfl, ?_⟩; intro w hSw; (try dsimp only at hSw); go_simp; try with_reducible rfl) | (refine Or.inr ⟨by rfl, ?_⟩; rfl)
      · assumption
      try simp only [Act.put, List.setIfInBounds_toArray, List.set_cons_zero, List.set_cons_succ]
      refine wpAnyH_take (i := 2) (oi := ?_) (v := ?_) ?_ ?_ ?_ ?_ ?_ ?_ ?_ ?_
      rotate_left 2
      · (simp only [List.getElem?_toArray, List.getElem?_cons_succ, List.getElem?_cons_zero]; exact rfl)
      · kernel_rfl
      · kernel_rfl
      · kernel_rfl
      · exact fun _ _ _ h => h
      · first | (refine Or.inl ⟨by rfl, ?_⟩; intro w hSw; (try dsimp only at hSw); go_simp; try with_reducible rfl) | (refine Or.inr ⟨by rfl, ?_⟩; rfl)
      · assumption
      try simp only [Act.put, List.setIfInBounds_toArray, List.set_cons_zero, List.set_cons_succ]
      refine wpAnyH_take (i := 3) (oi := ?_) (v := ?_) ?_ ?_ ?_ ?_ ?_ ?_ ?_ ?_
      rotate_left 2
      · (simp only [List.getElem?_toArray, List.getElem?_cons_succ, List.getElem?_cons_zero]; exact rfl)
      · kernel_rfl
      · kernel_rfl
      · kernel_rfl
      · exact fun _ _ _ h => h
      · first | (refine Or.inl ⟨by rfl, ?_⟩; intro w hSw; (try dsimp only at hSw); go_simp; try with_reducible rfl) | (refine Or.inr ⟨by rfl, ?_⟩; rfl)
      · assumption
      try simp only [Act.put, List.setIfInBounds_toArray, List.set_cons_zero, List.set_cons_succ]
      refine wpAnyH_take (i := 4) (oi := ?_) (v := ?_) ?_ ?_ ?_ ?_ ?_ ?_ ?_ ?_
      rotate_left 2
      · (simp only [List.getElem?_toArray, List.getElem?_cons_succ, List.getElem?_cons_zero]; exact rfl)
      · kernel_rfl
      · kernel_rfl
      · kernel_rfl
      · exact fun _ _ _ h => h
      · first | (refine Or.inl ⟨by rfl, ?_⟩; intro w hSw; (try dsimp only at hSw); go_simp; try with_reducible rfl) | (refine Or.inr ⟨by rfl, ?_⟩; rfl)
      · assumption
      try simp only [Act.put, List.setIfInBounds_toArray, List.set_cons_zero, List.set_cons_succ]
      refine wpAnyH_take (i := 5) (oi := ?_) (v := ?_) ?_ ?_ ?_ ?_ ?_ ?_ ?_ ?_
      rotate_left 2
      · (simp only [List.getElem?_toArray, List.getElem?_cons_succ, List.getElem?_cons_zero]; exact rfl)
      · kernel_rfl
      · kernel_rfl
      · kernel_rfl
      · exact fun _ _ _ h => h
      · first | ((refine Or.inl ⟨by rfl, ?_⟩; intro w hSw; have hS1 := hSw; clear hSw; go_simp; try with_reducible rfl)) | (refine Or.inr ⟨by rfl, ?_⟩; rfl)
      · assumption
      try simp only [Act.put, List.setIfInBounds_toArray, List.set_cons_zero, List.set_cons_succ]
      refine wpAnyH_take (i := 6) (oi := ?_) (v := ?_) ?_ ?_ ?_ ?_ ?_ ?_ ?_ ?_
      rotate_left 2
      · (simp only [List.getElem?_toArray, List.getElem?_cons_succ, List.getElem?_cons_zero]; exact rfl)
      · kernel_rfl
      · kernel_rfl
      · kernel_rfl
      · exact fun _ _ _ h => h
      · first | (refine Or.inl ⟨by rfl, ?_⟩; intro w hSw; (try dsimp only at hSw); go_simp; try with_reducible rfl) | (refine Or.inr ⟨by rfl, ?_⟩; rfl)
      · assumption
      try simp only [Act.put, List.setIfInBounds_toArray, List.set_cons_zero, List.set_cons_succ]
      refine wpAnyH_ready (rs := [1]) (by kernel_rfl) (by simp) ?_
      refine AllReadyH.cons (o := ?_) ?_ (fun K hK => ?_) ?_
      rotate_left 1
      · (simp only [List.getElem?_toArray, List.getElem?_cons_succ, List.getElem?_cons_zero]; exact rfl)
      · go_simp
        ((go_at_call 22; (with_reducible refine (KD.out _ _ (by first | exact hx | exact hx.drew1)).mono ?_); rintro e wx ⟨rfl, hx⟩; dsimp only))
        refine hK.out _ _ ?_ (fun hHeld => ?_)
        · (try dsimp only) <;> (exact SX.out _ _ hx (by simp [RdL]))
        clear hK K
        try simp only [Act.put, List.setIfInBounds_toArray, List.set_cons_zero, List.set_cons_succ]
        refine wpAnyH_take (i := 7) (oi := ?_) (v := ?_) ?_ ?_ ?_ ?_ ?_ ?_ ?_ ?_
        rotate_left 2
        · (simp only [List.getElem?_toArray, List.getElem?_cons_succ, List.getElem?_cons_zero]; exact rfl)
        · kernel_rfl
        · kernel_rfl
        · kernel_rfl
        · exact fun _ _ _ h => h
        · first | (refine Or.inl ⟨by rfl, ?_⟩; intro w hSw; (try dsimp only at hSw); go_simp; try with_reducible rfl) | (refine Or.inr ⟨by rfl, ?_⟩; rfl)
        · assumption
        try simp only [Act.put, List.setIfInBounds_toArray, List.set_cons_zero, List.set_cons_succ]
        refine wpAnyH_take (i := 8) (oi := ?_) (v := ?_) ?_ ?_ ?_ ?_ ?_ ?_ ?_ ?_
        rotate_left 2
        · (simp only [List.getElem?_toArray, List.getElem?_cons_succ, List.getElem?_cons_zero]; exact rfl)
        · kernel_rfl
        · kernel_rfl
        · kernel_rfl
        · exact fun _ _ _ h => h
        · first | (refine Or.inl ⟨by rfl, ?_⟩; intro w hSw; (try dsimp only at hSw); go_simp; try with_reducible rfl) | (refine Or.inr ⟨by rfl, ?_⟩; rfl)
        · assumption
        try simp only [Act.put, List.setIfInBounds_toArray, List.set_cons_zero, List.set_cons_succ]
        refine wpAnyH_done (by kernel_rfl) ?_ _
        have hx4 : St W _ (fun b => W.heap[b]?) ((DeskL gd gc (List.replicate n zP) last) ++ ((gr, Obj.cells (rdesk (n : Int) A all.length c last) 66 (0, 0)) :: (L ++ [(n8, Obj.cells C 46 (0, 0))]))) := hx
        have c1 := SX.out _ _ hx4 (by simp)
        have f1 := hx4.frozen (g := gr) (t := 66) (cs := rdesk (n : Int) A all.length c last) (by simp) 1
        have h7 := St.set (A := DeskL gd gc (List.replicate n zP) last) hx4 1 (.slice none 0 0)
        obtain ⟨G9, hG9⟩ : ∃ x : List (Nat × Obj), [(n8, Obj.cells C 46 (0, 0))] = x := ⟨_, rfl⟩
        have hy := dropEnd (X := (gr, Obj.cells (rdesk (n : Int) none 0 0 last) 66 (0, 0))) h7
        rw [hG9] at hy
        have HY : Hid (St W _ (fun b => W.heap[b]?) (BothL gd gc gr n (List.replicate n zP) [] last none 0 [] G9)) := Lib.hid hy
        have HA2 : Hid (RAll none 0 [] []) := Lib.hid (.inl ⟨rfl, rfl, rfl, rfl⟩)
        have SIM2 : Hid (Sim (List.replicate n zP) [] last) := Lib.hid (Sim.empty n last)
        have OK2 : Hid (AllOk (List.replicate n zP)) := Lib.hid (fun p hp => by rw [List.eq_of_mem_replicate hp]; exact zP_ok)
        have HPN2 : Hid ((List.replicate n zP).length = n) := Lib.hid List.length_replicate
        clear hy h7 hx hx4 hG9 SX KD
        have hn82 : (List.replicate n zP).length ≤ 8 := by rw [HPN2.out]; exact n8'
        have hal : ([] : List Pn).length ≤ 8 := by have := SIM2.out.le; omega
        have oka := SIM2.out.okAll OK2.out
        have wlen := SIM2.out.waitR
        rw [HPN2.out] at wlen
        have kW2 : ∀ v, St W v (fun b => W.heap[b]?) (BothL gd gc gr n (List.replicate n zP) ([] : List Pn) last none 0 ([] : List (Nat × Obj)) G9) → Calls Tryd.prog 18 #[.pointer (some ⟨gd, 0, none⟩)] v fun e w' => e = .returned (.int .i64 (waitD (List.replicate n zP) : Nat)) ∧ St W w' (fun b => W.heap[b]?) (BothL gd gc gr n (List.replicate n zP) ([] : List Pn) last none 0 ([] : List (Nat × Obj)) G9) := fun v hv => desk_waiting OK2.out hn82 hv
        have kR2 : ∀ v, St W v (fun b => W.heap[b]?) (BothL gd gc gr n (List.replicate n zP) ([] : List Pn) last none 0 ([] : List (Nat × Obj)) G9) → Calls Tryd.prog 28 #[.pointer (some ⟨gr, 0, none⟩)] v (WaitPost W (fun b => W.heap[b]?) (BothL gd gc gr n (List.replicate n zP) ([] : List Pn) last none 0 ([] : List (Nat × Obj)) G9) (waitR n ([] : List Pn))) := fun v hv => (rd_waiting oka hal n8' HA2.out hv.swap).mono fun e w' h => by
          obtain ⟨B, d, L1, h1, h2, h3⟩ := h
          exact ⟨B, d, L1, h1, h2, swap2 h3⟩
        have kP2 : ∀ (j : Int) (v : World), St W v (fun b => W.heap[b]?) (BothL gd gc gr n (List.replicate n zP) ([] : List Pn) last none 0 ([] : List (Nat × Obj)) G9) → Calls Tryd.prog 16 #[.pointer (some ⟨gd, 0, none⟩), .int .i64 j] v fun e w' => e = .returned (.int .i64 (serR ([] : List Pn) j)) ∧ St W w' (fun b => W.heap[b]?) (BothL gd gc gr n (List.replicate n zP) ([] : List Pn) last none 0 ([] : List (Nat × Obj)) G9) := fun j v hv => by
          rw [← SIM2.out.ser j]
          exact desk_pending OK2.out hn82 j hv
        have kQ2 : ∀ (j : Int) (v : World), St W v (fun b => W.heap[b]?) (BothL gd gc gr n (List.replicate n zP) ([] : List Pn) last none 0 ([] : List (Nat × Obj)) G9) → Calls Tryd.prog 29 #[.pointer (some ⟨gr, 0, none⟩), .int .i64 j] v fun e w' => e = .returned (.int .i64 (serR ([] : List Pn) j)) ∧ St W w' (fun b => W.heap[b]?) (BothL gd gc gr n (List.replicate n zP) ([] : List Pn) last none 0 ([] : List (Nat × Obj)) G9) := fun j v hv => (rd_serial oka hal HA2.out j hv.swap).mono fun e w' h => ⟨h.1, h.2.swap⟩
        obtain ⟨wd, hwd⟩ : ∃ x, waitD (List.replicate n zP) = x := ⟨_, rfl⟩
        rw [hwd] at wlen
        simp only [hwd] at kW2
        have hwd8 : wd ≤ 8 := by rw [← hwd]; have := waitD_le (List.replicate n zP); omega
        have KW2 := Lib.hid kW2; have KR2 := Lib.hid kR2; have KP2 := Lib.hid kP2; have KQ2 := Lib.hid kQ2; have WLEN := Lib.hid wlen
        clear kW2 kR2 kP2 kQ2 wlen oka hal hn82 hwd
        go_wp2_with fail
        refine (KW2.out _ HY.out).mono ?_
        rintro e v1 ⟨rfl, hy⟩
        have HY2 := Lib.hid hy
        clear hy HY KW2
        go_wp2_with fail
        refine (KR2.out _ HY2.out).mono ?_
        rintro e v2 hgp
        obtain ⟨A9, c9, rfl, hy⟩ := waitPost_len WLEN.out hgp
        have HY3 := Lib.hid hy
        clear hgp hy HY2 KR2 WLEN
        go_wp2_with fail
        go_loopw [26] (fun i wr => ∃ j : Int, i = .int .i64 j ∧ -1 ≤ j ∧ j ≤ 9 ∧ St W wr (fun b => W.heap[b]?) (BothL gd gc gr n (List.replicate n zP) ([] : List Pn) last none 0 ([] : List (Nat × Obj)) G9)) (fun i _ => (9 - intOf i).toNat)
        case atStart => exact ⟨-1, rfl, by omega, by omega, HY3.out⟩
        case round =>
          obtain ⟨j, rfl, hj1, hj2, hy⟩ := hrel
          clear HY3
          by_cases hj : j < 9
          · have kp := KP2.out j _ hy
            have KPJ := Lib.hid kp
            have KQJ := Lib.hid (KQ2.out j)
            clear kp hy KP2 KQ2
            go_wp2_with fail
            refine KPJ.out.mono ?_
            rintro e v4 ⟨rfl, hy⟩
            have HY5 := Lib.hid hy
            clear hy KPJ
            go_wp2_with fail
            refine (KQJ.out _ HY5.out).mono ?_
            rintro e v5 ⟨rfl, hy⟩
            have HY6 := Lib.hid hy
            clear hy HY5 KQJ
            go_wp2_with fail
            go_roundw
            case rel => exact ⟨j + 1, rfl, by omega, by omega, HY6.out⟩
            case measure => simp [intOf]; omega
          · have hy9 := St.cut9 hy
            have HY9 := Lib.hid hy9
            clear hy hy9 KP2 KQ2
            go_wp2_with fail
            go_roundw
            case rel => exact ⟨k + 1, (List.replicate n zP), ([] : List Pn), last, none, 0, ([] : List (Nat × Obj)), rfl, by omega, HPN2.out, OK2.out, SIM2.out, by omega, by omega, HA2.out, HY9.out⟩
            case measure => simp [intOf]; omega
      exact AllReadyH.nil
    · have hkn : ¬ (k : Int) < (pl : Int) := by omega
      have hf : Below W.heap.size W wr := hst.below (Le.refl _)
      have HF := Lib.hid hf
      clear hst hf hA sim ok HXS
      go_wp2_with fail
      go_ret
      exact ⟨rfl, HF.out⟩
end Go.Proofs.YtjcekmmieihllaaDoor
