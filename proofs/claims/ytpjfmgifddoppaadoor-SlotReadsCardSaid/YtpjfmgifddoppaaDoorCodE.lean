/- code: a reader that was read beyond its end, or not at all: walks. -/
import Derived.Test.YtpjfmgifddoppaaDoorCodR
namespace Go.Proofs.YtpjfmgifddoppaaDoor
set_option linter.unusedVariables false
set_option linter.unusedSimpArgs false
open Go.RowKit Go.Lib

section
variable {W w : World} {I : Nat → Option Obj} {F : List (Nat × Obj)} {g : Nat} {s : Rs}
/-- What a reader holds. -/
def RdE (W : World) (I : Nat → Option Obj) : Rs → Option Addr → Nat → Nat → Int → Prop
  | some r, A, n, c, e => e = 0 ∧ n = r.length ∧ r.length ≤ 1000000 ∧ r.length ≤ c ∧ Part.In ⟨A, c, r⟩ W I
  | none, A, n, c, e => (e = 51) ∧ A = none ∧ n = 0 ∧ c = 0
def RStE (W w : World) (I : Nat → Option Obj) (g : Nat) (s : Rs) (F : List (Nat × Obj)) : Prop :=
  ∃ A n c e, RdE W I s A n c e ∧ St W w I ((g, .cells #[.slice A n c, .int .i64 e] 90 (0, 0)) :: F)
def rcellsE (A : Option Addr) (n c : Nat) (e : Int) : Array Value := #[.slice A n c, .int .i64 e]
theorem RStE.facts {A : Option Addr} {n c : Nat} {e : Int} (h : St W w I ((g, .cells #[.slice A n c, .int .i64 e] 90 (0, 0)) :: F)) :
    w.cell? ⟨g, 0, none⟩ = some (.slice A n c) ∧ w.cell? ⟨g, 1, none⟩ = some (.int .i64 e) ∧ w.frozen? ⟨g, 0, none⟩ = false ∧ w.frozen? ⟨g, 1, none⟩ = false := by
  have hc := h.cell (g := g) (t := 90) (fr := (0, 0)) (List.mem_cons_self ..)
  have hf := h.frozen (g := g) (t := 90) (List.mem_cons_self ..)
  exact ⟨hc 0, hc 1, hf 0, hf 1⟩

set_option maxRecDepth 100000 in
set_option maxHeartbeats 1000000 in
theorem code_newE (p : Part) (hp : p.In W I) (hl : p.bs.length ≤ 1000000) (hc : p.bs.length ≤ p.c) (h : St W w I F) :
    Calls Tryd.prog 36 #[p.val] w fun e w' => e = .returned (.pointer (some ⟨w.heap.size, 0, none⟩)) ∧ RStE W w' I w.heap.size (some p.bs) F := by
  have h1 := h.alloc (.cells #[.slice p.A p.bs.length p.c, .int .i64 0] 90)
  have hR : RStE W (w.alloc (.cells #[.slice p.A p.bs.length p.c, .int .i64 0] 90)) I w.heap.size (some p.bs) F := ⟨_, _, _, _, ⟨rfl, rfl, hl, hc, hp⟩, h1⟩
  have HR := Lib.hid hR
  clear hR h1 h hp
  unfold Part.val
  go_enter Tryd.func36, Tryd.ntmps36
  go_wp2_with fail
  go_ret
  exact ⟨rfl, HR.out⟩

set_option maxRecDepth 100000 in
set_option maxHeartbeats 1000000 in
theorem code_failE (h : RStE W w I g s F) (x : Int) (hx : x = 51) :
    Calls Tryd.prog 115 #[.pointer (some ⟨g, 0, none⟩), .int .i64 x] w fun e w' => e = .returned (.tuple #[]) ∧ RStE W w' I g none F := by
  obtain ⟨A, n, c, e, hr, hst⟩ := h
  subst hx
  obtain ⟨q0, q1, f0, f1⟩ := RStE.facts hst
  have h2 := St.set (A := []) hst 1 (.int .i64 51)
  have h3 := St.set (A := []) h2 0 (.slice none 0 0)
  have h4 := St.set (A := []) hst 0 (.slice none 0 0)
  have f2 := (RStE.facts (A := A) (n := n) (c := c) (e := 51) h2).2.2.1
  have H3 := Lib.hid h3; have H4 := Lib.hid h4; have HR := Lib.hid hr
  by_cases he : e = 0
  · subst he
    clear h2 h3 h4 hst hr
    go_enter Tryd.func115, Tryd.ntmps115
    go_wp2_with fail
    refine ⟨rfl, .tuple #[], by simp [results, Tryd.f115], ?_⟩
    exact ⟨rfl, none, 0, 0, 51, ⟨rfl, rfl, rfl, rfl⟩, H3.out⟩
  · have he2 : e = 51 := by
      cases s with
      | none => exact hr.1
      | some r => exact absurd hr.1 he
    clear h2 h3 h4 hst hr
    go_enter Tryd.func115, Tryd.ntmps115
    go_wp2_with fail
    refine ⟨rfl, .tuple #[], by simp [results, Tryd.f115], ?_⟩
    exact ⟨rfl, none, 0, 0, e, ⟨he2, rfl, rfl, rfl⟩, H4.out⟩

/-- What take leaves. -/
def TkPostE (W : World) (I : Nat → Option Obj) (g : Nat) (s : Rs) (n : Nat) (F : List (Nat × Obj)) (e : Ending) (w' : World) : Prop :=
  ∃ p : Part, e = .returned p.val ∧ p.bs = (tk n s).1 ∧ p.bs.length ≤ 1000000 ∧ p.bs.length ≤ p.c ∧ p.In W I ∧ RStE W w' I g (tk n s).2 F

set_option maxRecDepth 100000 in
set_option maxHeartbeats 1000000 in
theorem code_takeE (h : RStE W w I g s F) (n : Nat) (hn : n ≤ 9223372036854775807) :
    Calls Tryd.prog 99 #[.pointer (some ⟨g, 0, none⟩), .int .i64 n] w (TkPostE W I g s n F) := by
  have kF := code_failE h 51 rfl
  have hmax : max (n : Int) 0 = n := by omega
  obtain ⟨A, k, c, e, hr, hst⟩ := h
  obtain ⟨q0, q1, f0, f1⟩ := RStE.facts hst
  have KF := Lib.hid kF
  cases s with
  | none =>
    obtain ⟨he, rfl, rfl, rfl⟩ := hr
    have he0 : e ≠ 0 := by rintro rfl; cases he
    clear kF hst
    go_enter Tryd.func99, Tryd.ntmps99
    go_wp2_with fail
    refine KF.out.mono ?_
    rintro e1 w1 ⟨rfl, h1⟩
    have H1 := Lib.hid h1
    clear h1 KF
    go_wp2_with fail
    go_ret
    exact ⟨⟨none, 0, []⟩, rfl, rfl, by simp, by simp, Part.In_nil _ _, H1.out⟩
  | some r =>
    obtain ⟨rfl, rfl, hl, hc, hin⟩ := hr
    by_cases hnr : n ≤ r.length
    · have h2 := St.set (A := []) hst 0 (.slice (subA A c n) (r.length - n) (c - n))
      have htk : tk n (some r) = (r.take n, some (r.drop n)) := if_pos hnr
      have hR : RStE W (w.setCell ⟨g, 0, none⟩ (.slice (subA A c n) (r.length - n) (c - n))) I g (some (r.drop n)) F := by
        refine ⟨_, r.length - n, _, _, ⟨rfl, by simp, by simp; omega, by simp; omega, Part.In_drop (c - n) n hc hin⟩, h2⟩
      have sl1 := fun w => run_slice_to Tryd.underlying40 Tryd.sizeOf5 A r.length c n (by omega) w
      have sl2 := fun w => run_slice_from Tryd.underlying40 Tryd.sizeOf5 A r.length c n hnr hc w
      have HR := Lib.hid hR; have HT := Lib.hid htk; have HIN := Lib.hid hin
      clear kF hst h2 hR htk hin KF
      generalize hrl : r.length = rl at *
      have hgt : ¬ ((rl : Int) < (n : Int)) := by omega
      go_enter Tryd.func99, Tryd.ntmps99
      go_wp2_with fail
      go_ret
      refine ⟨⟨A, c, r.take n⟩, ?_, by rw [HT.out], by simp; omega, by simp; omega, Part.In_take c n HIN.out, by rw [HT.out]; exact HR.out⟩
      simp [Part.val, hrl, Nat.min_eq_left hnr]
    · have htk : tk n (some r) = ([], none) := if_neg hnr
      have HT := Lib.hid htk
      clear kF hst htk hin
      generalize hrl : r.length = rl at *
      have hgt : ((rl : Int) < (n : Int)) := by omega
      go_enter Tryd.func99, Tryd.ntmps99
      go_wp2_with fail
      refine KF.out.mono ?_
      rintro e1 w1 ⟨rfl, h1⟩
      have H1 := Lib.hid h1
      clear h1 KF
      go_wp2_with fail
      go_ret
      exact ⟨⟨none, 0, []⟩, rfl, by rw [HT.out], by simp, by simp, Part.In_nil _ _, by rw [HT.out]; exact H1.out⟩

/-- What Raw leaves. -/
def RawPostE (W : World) (I : Nat → Option Obj) (g : Nat) (bs : List UInt8) (s' : Rs) (F : List (Nat × Obj)) (e : Ending) (w' : World) : Prop :=
  ∃ A c L', e = .returned (.slice A bs.length c) ∧ Row 5 1 (.slice A bs.length c) bs.length (bs.map bval) L' ∧ RStE W w' I g s' (L' ++ F)

set_option maxRecDepth 100000 in
set_option maxHeartbeats 1000000 in
theorem code_rawE (h : RStE W w I g s F) (n : Nat) (hn : n ≤ 9223372036854775807) :
    Calls Tryd.prog 71 #[.pointer (some ⟨g, 0, none⟩), .int .i64 n] w (RawPostE W I g (tk n s).1 (tk n s).2 F) := by
  have kT := code_takeE h n hn
  have KT := Lib.hid kT
  clear kT h
  go_enter Tryd.func71, Tryd.ntmps71
  go_wp2_with fail
  refine KT.out.mono ?_
  rintro e w1 ⟨p, rfl, hb, hl, hc, hin, A, k, c, e, hr, hst⟩
  have HB := Lib.hid hb
  have kC := clone_bytes p hin (by omega) hst
  unfold Part.val at kC ⊢
  have KC := Lib.hid kC; have HR := Lib.hid hr
  clear kC hst hr KT hin hb
  go_wp2_with fail
  refine KC.out.mono ?_
  rintro e1 w2 ⟨v, rfl, A1, c1, L1, rfl, hr1, h1⟩
  have H1 := Lib.hid h1; have HR1 := Lib.hid hr1
  clear h1 hr1 KC
  go_wp2_with fail
  go_ret
  have hb := HB.out
  refine ⟨A1, c1, L1, by rw [← hb]; rfl, by rw [← hb]; exact HR1.out, _, _, _, _, HR.out, St.swap (B := [_]) H1.out⟩

end
end Go.Proofs.YtpjfmgifddoppaaDoor
