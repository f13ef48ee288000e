/- NetRuns: its argument; great. -/
import Derived.Test.YtjmdhljhlcbneaaDoorRefF
import Derived.Test.YtjmdhljhlcbneaaDoorNetF
namespace Go.Proofs.YtjmdhljhlcbneaaDoor
set_option linter.unusedVariables false
set_option linter.unusedSimpArgs false
open Go.RowKit

structure Ask where
  name : ByteArray
  at_ : Int
  many : Int
  A : Option Addr
  c : Nat
  more : List Fault
instance : Inhabited Ask := ⟨⟨⟨#[]⟩, 0, 0, none, 0, []⟩⟩
instance : Inhabited Part := ⟨⟨none, 0, []⟩⟩
instance : Inhabited Fault := ⟨⟨0, 0, 0⟩⟩
def askc (a : Ask) : List Value := [.string a.name, .int .i64 a.at_, .int .i64 a.many, .slice a.A a.more.length a.c]

section
variable {H : Type} {enc : TypeId × Value → H} {W : World}
theorem cel_fault {cs : List Value} (h : Cel enc Tryd.prog W 36 cs) : ∃ f : Fault, cs = fcells f := by
  obtain ⟨hl, hf⟩ := h.ones Tryd.underlying36 (by kernel_rfl) (by kernel_rfl)
  obtain ⟨c0, e0, h0⟩ := hf 0 _ rfl
  obtain ⟨c1, e1, h1⟩ := hf 1 _ rfl
  obtain ⟨c2, e2, h2⟩ := hf 2 _ rfl
  obtain ⟨k, hk, _⟩ := Cel.int (t := 3) Tryd.underlying3 h0
  obtain ⟨a, ha, _⟩ := Cel.int (t := 3) Tryd.underlying3 h1
  obtain ⟨u, hu, hw⟩ := Cel.int (t := 5) Tryd.underlying5 h2
  obtain ⟨w0, w1⟩ := wf_u8 hw
  have hl' : cs.length = 3 := hl
  match cs, hl' with
  | [x0, x1, x2], _ =>
    simp at e0 e1 e2 hk ha hu
    refine ⟨⟨k, a, UInt8.ofNat u.toNat⟩, ?_⟩
    have : (((UInt8.ofNat u.toNat).toNat : Nat) : Int) = u := by
      rw [UInt8.toNat_ofNat']; omega
    simp only [fcells]
    rw [this, e0, e1, e2, hk, ha, hu]
theorem cel_faults {cs : List Value} (h : Cel enc Tryd.prog W 33 cs) : ∃ A c fs, cs = [.slice A fs.length c] ∧ FIn A fs W (fun b => W.heap[b]?) := by
  obtain ⟨A, n, c, fs, rfl, hsl⟩ := h.slice (α := Fault) (Q := fun cs f => cs = fcells f) (size := 3) Tryd.underlying33 (by kernel_rfl) (by omega) (fun cs h => cel_fault h)
  have hn := hsl.len
  subst hn
  refine ⟨A, c, fs, rfl, fun w L hst => ⟨fall_len fs, fun j u hj => ?_⟩⟩
  have hj3 : j < fs.length * 3 := by have := (List.getElem?_eq_some_iff.1 hj).1; rw [fall_len] at this; exact this
  have hi : j / 3 < fs.length := by omega
  obtain ⟨b, off, cs, h1, h2, h3, h4⟩ := hsl.at_ (j / 3) (fs[j / 3]) (List.getElem?_eq_getElem hi)
  subst h4
  refine ⟨_, h1, ?_⟩
  have h5 := h3 (j % 3) (by omega)
  have hfj := fall_get fs j _ (List.getElem?_eq_getElem hi)
  rw [hfj] at hj
  rw [hj] at h5
  rw [show (⟨b, off, none⟩ : Addr).add j = ⟨b, off + j / 3 * 3 + j % 3, none⟩ by unfold Addr.add; split <;> simp_all <;> omega]
  exact hst.ro h5
/-- Bytes, as they were read. -/
def PIn (p : Part) (W : World) : Prop := p.In W (fun b => W.heap[b]?) ∧ p.bs.length ≤ p.c ∧ p.c ≤ maxLen
theorem cel_bytes {cs : List Value} (h : Cel enc Tryd.prog W 22 cs) : ∃ p : Part, cs = [.slice p.A p.bs.length p.c] ∧ PIn p W := by
  obtain ⟨A, n, c, xs, rfl, hs⟩ := h.slice (α := UInt8) (Q := fun cs b => cs = [bval b]) (size := 1) Tryd.underlying22 (by kernel_rfl) (by omega) (fun cs hcs => hcs.byte Tryd.underlying5)
  have hn := hs.len
  subst hn
  exact ⟨⟨A, c, xs⟩, rfl, part_of_slc hs, hs.cap, hs.cap'⟩
theorem cel_offer {cs : List Value} (h : Cel enc Tryd.prog W 27 cs) : ∃ o : ByteArray × Part, cs = ocell o ∧ o.1.size ≤ maxLen ∧ PIn o.2 W := by
  obtain ⟨hl, hf⟩ := h.ones Tryd.underlying27 (by kernel_rfl) (by kernel_rfl)
  obtain ⟨c0, e0, h0⟩ := hf 0 _ rfl
  obtain ⟨c1, e1, h1⟩ := hf 1 _ rfl
  obtain ⟨s, hs, hsz⟩ := Cel.string (t := 9) Tryd.underlying9 h0
  obtain ⟨p, hp, hpi⟩ := cel_bytes h1
  have hl' : cs.length = 2 := hl
  match cs, hl' with
  | [x0, x1], _ =>
    simp at e0 e1 hs hp
    exact ⟨(s, p), by simp only [ocell]; rw [e0, e1, hs, hp], hsz, hpi⟩
theorem cel_ask {cs : List Value} (h : Cel enc Tryd.prog W 48 cs) : ∃ a : Ask, cs = askc a ∧ a.name.size ≤ maxLen ∧ FIn a.A a.more W (fun b => W.heap[b]?) := by
  obtain ⟨hl, hf⟩ := h.ones Tryd.underlying48 (by kernel_rfl) (by kernel_rfl)
  obtain ⟨c0, e0, h0⟩ := hf 0 _ rfl
  obtain ⟨c1, e1, h1⟩ := hf 1 _ rfl
  obtain ⟨c2, e2, h2⟩ := hf 2 _ rfl
  obtain ⟨c3, e3, h3⟩ := hf 3 _ rfl
  obtain ⟨s, hs, hsz⟩ := Cel.string (t := 9) Tryd.underlying9 h0
  obtain ⟨a, ha, _⟩ := Cel.int (t := 3) Tryd.underlying3 h1
  obtain ⟨m, hm, _⟩ := Cel.int (t := 3) Tryd.underlying3 h2
  obtain ⟨A, c, fs, hfs, hfi⟩ := cel_faults h3
  have hl' : cs.length = 4 := hl
  match cs, hl' with
  | [x0, x1, x2, x3], _ =>
    simp at e0 e1 e2 e3 hs ha hm hfs
    exact ⟨⟨s, a, m, A, c, fs⟩, by simp only [askc]; rw [e0, e1, e2, e3, hs, ha, hm, hfs], hsz, hfi⟩
/-- What is asked, in the memory that turns no more. -/
def AskAt (A : Option Addr) (l : List Ask) (I : Nat → Option Obj) : Prop := ∀ k a, l[k]? = some a → ∃ b off, A = some (⟨b, off, none⟩ : Addr) ∧ roCell I ⟨b, off + k * 4, none⟩ = some (.string a.name) ∧ roCell I ⟨b, off + k * 4 + 1, none⟩ = some (.int .i64 a.at_) ∧ roCell I ⟨b, off + k * 4 + 2, none⟩ = some (.int .i64 a.many) ∧ roCell I ⟨b, off + k * 4 + 3, none⟩ = some (.slice a.A a.more.length a.c)
def OffAt (A : Option Addr) (l : List (ByteArray × Part)) (I : Nat → Option Obj) : Prop := ∀ k o, l[k]? = some o → ∃ b off, A = some (⟨b, off, none⟩ : Addr) ∧ roCell I ⟨b, off + k * 2, none⟩ = some (.string o.1) ∧ roCell I ⟨b, off + k * 2 + 1, none⟩ = some (.slice o.2.A o.2.bs.length o.2.c)

structure WArg (W : World) where
  OA : Option Addr
  oc : Nat
  os : List (ByteArray × Part)
  FA : Option Addr
  fc : Nat
  fs : List Fault
  AA : Option Addr
  ac : Nat
  asks : List Ask
  off : OffAt OA os (fun b => W.heap[b]?)
  oin : ∀ o ∈ os, o.1.size ≤ maxLen ∧ PIn o.2 W
  fin : FIn FA fs W (fun b => W.heap[b]?)
  ask : AskAt AA asks (fun b => W.heap[b]?)
  ain : ∀ a ∈ asks, a.name.size ≤ maxLen ∧ FIn a.A a.more W (fun b => W.heap[b]?)
  lens : os.length ≤ maxLen ∧ fs.length ≤ maxLen ∧ asks.length ≤ maxLen
def WArg.val (x : WArg W) : Value := .agg #[.slice x.OA x.os.length x.oc, .slice x.FA x.fs.length x.fc, .slice x.AA x.asks.length x.ac]

set_option maxRecDepth 100000 in
theorem Arg.world {v : Value} (a : Arg enc Tryd.prog W 43 v) : ∃ x : WArg W, v = x.val := by
  obtain ⟨cs, rfl, hl, hf⟩ := a.struct_ Tryd.underlying43
  have hl' : cs.length = 3 := by rw [hl]; kernel_rfl
  match cs, hl' with
  | [x0, x1, x2], _ =>
    have h0 : Cel enc Tryd.prog W 28 [x0] := hf 0 _ rfl
    have h1 : Cel enc Tryd.prog W 33 [x1] := hf 1 _ rfl
    have h2 : Cel enc Tryd.prog W 41 [x2] := hf 2 _ rfl
    obtain ⟨OA, n, oc, os, e0, so⟩ := h0.slice (α := ByteArray × Part) (Q := fun cs o => cs = ocell o ∧ o.1.size ≤ maxLen ∧ PIn o.2 W) (size := 2) Tryd.underlying28 (by kernel_rfl) (by omega) (fun cs h => cel_offer h)
    obtain ⟨FA, fc, fs, e1, fin⟩ := cel_faults h1
    obtain ⟨_, m, _, fs', e1', sf⟩ := h1.slice (α := Fault) (Q := fun cs f => cs = fcells f) (size := 3) Tryd.underlying33 (by kernel_rfl) (by omega) (fun cs h => cel_fault h)
    obtain ⟨AA, k, ac, asks, e2, sa⟩ := h2.slice (α := Ask) (Q := fun cs a => cs = askc a ∧ a.name.size ≤ maxLen ∧ FIn a.A a.more W (fun b => W.heap[b]?)) (size := 4) Tryd.underlying41 (by kernel_rfl) (by omega) (fun cs h => cel_ask h)
    have hn := so.len
    have hk := sa.len
    subst hn; subst hk
    simp at e0 e1 e2 e1'
    have hfl : fs.length ≤ maxLen := by
      rw [e1] at e1'
      injection e1' with _ q1 q2
      have h3 := sf.cap
      have h4 := sf.cap'
      omega
    refine ⟨⟨OA, oc, os, FA, fc, fs, AA, ac, asks, fun k o hk => ?_, fun o ho => ?_, fin, fun k a hk => ?_, fun a ha => ?_, by have := so.cap; have := so.cap'; have := sa.cap; have := sa.cap'; omega⟩, by rw [e0, e1, e2]; rfl⟩
    · obtain ⟨b, off, cs, h1, h2, h3, h4, _⟩ := so.at_ k o hk
      subst h4
      exact ⟨b, off, h1, h3 0 (by omega), h3 1 (by omega)⟩
    · obtain ⟨k, hk⟩ := List.getElem?_of_mem ho
      obtain ⟨b, off, cs, h1, h2, h3, h4, h5⟩ := so.at_ k o hk
      exact h5
    · obtain ⟨b, off, cs, h1, h2, h3, h4, _⟩ := sa.at_ k a hk
      subst h4
      exact ⟨b, off, h1, h3 0 (by omega), h3 1 (by omega), h3 2 (by omega), h3 3 (by omega)⟩
    · obtain ⟨k, hk⟩ := List.getElem?_of_mem ha
      obtain ⟨b, off, cs, h1, h2, h3, h4, h5⟩ := sa.at_ k a hk
      exact h5
end

/-- What great says. -/
def GP {W : World} (x : WArg W) (I : Nat → Option Obj) (L : List (Nat × Obj)) (e : Ending) (w' : World) : Prop :=
  ∃ b, e = .returned (.bool b) ∧ St W w' I L ∧ (b = false → x.os.length ≤ 10 ∧ x.fs.length ≤ 60 ∧ x.asks.length ≤ 40 ∧ (∀ o ∈ x.os, o.1.size ≤ 200 ∧ o.2.bs.length ≤ 1000) ∧ ∀ a ∈ x.asks, a.name.size ≤ 200 ∧ a.more.length ≤ 20)
theorem GP.yes {W w' : World} {x : WArg W} {I : Nat → Option Obj} {L : List (Nat × Obj)} (h : St W w' I L) : GP x I L (.returned (.bool true)) w' := ⟨true, rfl, h, by intro h; cases h⟩

set_option maxRecDepth 100000 in
set_option maxHeartbeats 4000000 in
theorem great_any {W w : World} {I : Nat → Option Obj} {L : List (Nat × Obj)} (x : WArg W) (hI : Le (fun b => W.heap[b]?) I) (h : St W w I L) :
    Calls Tryd.prog 15 #[x.val] w fun e w' => GP x I L e w' := by
  have hoff := x.off
  have hask := x.ask
  have hln := x.lens
  have hyes := fun w' (h : St W w' I L) => GP.yes (x := x) h
  have hno : ∀ w', St W w' I L → x.os.length ≤ 10 → x.fs.length ≤ 60 → x.asks.length ≤ 40 → (∀ o ∈ x.os, o.1.size ≤ 200 ∧ o.2.bs.length ≤ 1000) → (∀ a ∈ x.asks, a.name.size ≤ 200 ∧ a.more.length ≤ 20) → GP x I L (.returned (.bool false)) w' := fun w' h a b c d e => ⟨false, rfl, h, fun _ => ⟨a, b, c, d, e⟩⟩
  obtain ⟨Q, hQ⟩ : ∃ Q, GP x I L = Q := ⟨_, rfl⟩
  rw [hQ] at hyes hno ⊢
  clear hQ
  unfold WArg.val
  generalize x.os = os at *
  generalize x.fs = fs at *
  generalize x.asks = asks at *
  generalize x.OA = OA at *
  generalize x.oc = oc at *
  generalize x.FA = FA at *
  generalize x.fc = fc at *
  generalize x.AA = AA at *
  generalize x.ac = ac at *
  obtain ⟨bx, hbx⟩ : ∃ bx, bx = w.heap.size := ⟨_, rfl⟩
  have h1 := h.alloc (.cells #[.slice OA os.length oc, .slice FA fs.length fc, .slice AA asks.length ac] 43)
  rw [← hbx] at h1
  have facts : ∀ v, St W v I ((bx, .cells #[.slice OA os.length oc, .slice FA fs.length fc, .slice AA asks.length ac] 43 (0, 0)) :: L) → v.cell? ⟨bx, 2, none⟩ = some (.slice AA asks.length ac) := fun v hv => hv.cell (g := bx) (cs := #[.slice OA os.length oc, .slice FA fs.length fc, .slice AA asks.length ac]) (t := 43) (fr := (0, 0)) (by simp) 2
  have H1 := Lib.hid h1; have HOFF := Lib.hid hoff; have HASK := Lib.hid hask; have HI := Lib.hid hI; have FACTS := Lib.hid facts; have HY := Lib.hid hyes; have HN := Lib.hid hno; have HBX := Lib.hid hbx; have HLN := Lib.hid hln
  clear h h1 hoff hask hI facts x hyes hno hbx hln
  go_enter Tryd.func15, Tryd.ntmps15
  by_cases g1 : (10 : Int) < os.length
  · have g1' : decide ((10 : Int) < os.length) = true := decide_eq_true g1
    go_wp2_with fail
    all_goals first | exact HY.out _ (St.weaken (A := [_]) H1.out)
  by_cases g2 : (60 : Int) < fs.length
  · have g2' : decide ((60 : Int) < fs.length) = true := decide_eq_true g2
    go_wp2_with fail
    all_goals first | exact HY.out _ (St.weaken (A := [_]) H1.out)
  by_cases g3 : (40 : Int) < asks.length
  · have g3' : decide ((40 : Int) < asks.length) = true := decide_eq_true g3
    go_wp2_with fail
    all_goals first | exact HY.out _ (St.weaken (A := [_]) H1.out)
  go_wp2_with fail
  rw [← HBX.out]
  go_loopw [26] (fun i wr => ∃ k : Nat, i = .int .i64 k ∧ k ≤ os.length ∧ (∀ o ∈ os.take k, o.1.size ≤ 200 ∧ o.2.bs.length ≤ 1000) ∧ St W wr I ((bx, .cells #[.slice OA os.length oc, .slice FA fs.length fc, .slice AA asks.length ac] 43 (0, 0)) :: L)) (fun i _ => os.length - (intOf i).toNat)
  case atStart => exact ⟨0, rfl, by omega, by simp, H1.out⟩
  case round =>
    obtain ⟨k, rfl, hk, hdon, hst⟩ := hrel
    clear H1
    by_cases hkl : k < os.length
    · obtain ⟨o, hok⟩ : ∃ o, os[k]? = some o := ⟨_, List.getElem?_eq_getElem hkl⟩
      obtain ⟨b, off, rfl, r0, r1⟩ := HOFF.out k o hok
      have q0 := hst.ro (roCell_mono HI.out r0)
      have q1 := hst.ro (roCell_mono HI.out r1)
      have hnext : o.1.size ≤ 200 → o.2.bs.length ≤ 1000 → ∀ o ∈ os.take (k + 1), o.1.size ≤ 200 ∧ o.2.bs.length ≤ 1000 := fun a b x hx => by
        rw [List.take_add_one, hok] at hx
        rcases List.mem_append.1 hx with hx | hx
        · exact hdon x hx
        · simp at hx; subst hx; exact ⟨a, b⟩
      obtain ⟨onm, p⟩ := o
      simp only at q0 q1 hnext
      have hst2 := St.alloc_ hst (.cells #[.string onm, .slice p.A p.bs.length p.c] 27)
      have HST := Lib.hid hst2; have HNX := Lib.hid hnext
      clear hst hst2 hnext hdon r0 r1 hok
      by_cases s1 : (200 : Int) < onm.size
      · have s1' : decide ((200 : Int) < onm.size) = true := decide_eq_true s1
        go_wp2_with fail
        all_goals first | exact HY.out _ (St.weaken (A := [_]) HST.out)
      by_cases s2 : (1000 : Int) < p.bs.length
      · have s2' : decide ((1000 : Int) < p.bs.length) = true := decide_eq_true s2
        go_wp2_with fail
        all_goals first | exact HY.out _ (St.weaken (A := [_]) HST.out)
      go_wp2_with fail
      go_roundw
      case rel => exact ⟨k + 1, by go_num, by omega, HNX.out (by omega) (by omega), HST.out⟩
      case measure => simp [intOf]; omega
    · obtain rfl : k = os.length := by omega
      rw [List.take_length] at hdon
      have hc2 := FACTS.out _ hst
      have HST := Lib.hid hst; have HD := Lib.hid hdon
      clear hst hdon
      go_wp2_with fail
      go_loopw [44] (fun i wr => ∃ k : Nat, i = .int .i64 k ∧ k ≤ asks.length ∧ (∀ a ∈ asks.take k, a.name.size ≤ 200 ∧ a.more.length ≤ 20) ∧ St W wr I L) (fun i _ => asks.length - (intOf i).toNat)
      case atStart => exact ⟨0, rfl, by omega, by simp, St.weaken (A := [_]) HST.out⟩
      case round =>
        obtain ⟨k, rfl, hk, hdon, hst⟩ := hrel
        clear HST hc2
        by_cases hkl : k < asks.length
        · obtain ⟨a, hok⟩ : ∃ a, asks[k]? = some a := ⟨_, List.getElem?_eq_getElem hkl⟩
          obtain ⟨b, off, rfl, r0, r1, r2, r3⟩ := HASK.out k a hok
          have q0 := hst.ro (roCell_mono HI.out r0)
          have q1 := hst.ro (roCell_mono HI.out r1)
          have q2 := hst.ro (roCell_mono HI.out r2)
          have q3 := hst.ro (roCell_mono HI.out r3)
          have hnext : a.name.size ≤ 200 → a.more.length ≤ 20 → ∀ a ∈ asks.take (k + 1), a.name.size ≤ 200 ∧ a.more.length ≤ 20 := fun x y z hz => by
            rw [List.take_add_one, hok] at hz
            rcases List.mem_append.1 hz with hz | hz
            · exact hdon z hz
            · simp at hz; subst hz; exact ⟨x, y⟩
          have hst2 := St.alloc_ hst (.cells #[.string a.name, .int .i64 a.at_, .int .i64 a.many, .slice a.A a.more.length a.c] 48)
          have HST := Lib.hid hst2; have HNX := Lib.hid hnext
          clear hst hst2 hnext hdon r0 r1 r2 r3 hok
          by_cases s1 : (200 : Int) < a.name.size
          · have s1' : decide ((200 : Int) < a.name.size) = true := decide_eq_true s1
            go_wp2_with fail
            all_goals first | exact HY.out _ HST.out
          by_cases s2 : (20 : Int) < a.more.length
          · have s2' : decide ((20 : Int) < a.more.length) = true := decide_eq_true s2
            go_wp2_with fail
            all_goals first | exact HY.out _ HST.out
          go_wp2_with fail
          go_roundw
          case rel => exact ⟨k + 1, by go_num, by omega, HNX.out (by omega) (by omega), HST.out⟩
          case measure => simp [intOf]; omega
        · obtain rfl : k = asks.length := by omega
          rw [List.take_length] at hdon
          have HST := Lib.hid hst; have HD2 := Lib.hid hdon
          clear hst hdon
          go_wp2_with fail
          exact HN.out _ HST.out (by omega) (by omega) (by omega) HD.out HD2.out
end Go.Proofs.YtjmdhljhlcbneaaDoor
