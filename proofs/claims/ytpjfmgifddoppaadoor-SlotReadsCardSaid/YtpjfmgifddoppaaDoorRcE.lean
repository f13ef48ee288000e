/- The document's code: a scan that was read beyond its end, or not at all: Raw: walks. -/
import Derived.Test.YtpjfmgifddoppaaDoorRcA
import Derived.Test.YtpjfmgifddoppaaDoorCodE
namespace Go.Proofs.YtpjfmgifddoppaaDoor
set_option linter.unusedVariables false
set_option linter.unusedSimpArgs false
open Go.RowKit Go.Lib

section
variable {W w : World} {I : Nat → Option Obj} {F : List (Nat × Obj)} {g : Nat} {s : Rs}
/-- The document's reader. -/
def SScE (W w : World) (I : Nat → Option Obj) (g : Nat) (s : Rs) (F : List (Nat × Obj)) : Prop :=
  ∃ A n c e, RdE W I s A n c e ∧ St W w I ((g, .cells #[.slice A n c, .int .i64 e] 51 (0, 0)) :: F)
theorem SScE.facts {A : Option Addr} {n c : Nat} {e : Int} (h : St W w I ((g, .cells #[.slice A n c, .int .i64 e] 51 (0, 0)) :: F)) :
    w.cell? ⟨g, 0, none⟩ = some (.slice A n c) ∧ w.cell? ⟨g, 1, none⟩ = some (.int .i64 e) ∧ w.frozen? ⟨g, 0, none⟩ = false ∧ w.frozen? ⟨g, 1, none⟩ = false := by
  have hc := h.cell (g := g) (t := 51) (fr := (0, 0)) (List.mem_cons_self ..)
  have hf := h.frozen (g := g) (t := 51) (List.mem_cons_self ..)
  exact ⟨hc 0, hc 1, hf 0, hf 1⟩
def RRawPostE (W : World) (I : Nat → Option Obj) (g : Nat) (bs : List UInt8) (s' : Rs) (F : List (Nat × Obj)) (e : Ending) (w' : World) : Prop :=
  ∃ A c L', e = .returned (.slice A bs.length c) ∧ Row 5 1 (.slice A bs.length c) bs.length (bs.map bval) L' ∧ SScE W w' I g s' (L' ++ F)

set_option maxRecDepth 100000 in
set_option maxHeartbeats 1000000 in
theorem rraw0E {A : Option Addr} {k c : Nat} {e : Int} (hst : St W w I ((g, .cells #[.slice A k c, .int .i64 e] 51 (0, 0)) :: F)) (he : e = 51) (n : Nat) :
    Calls Tryd.prog 73 #[.pointer (some ⟨g, 0, none⟩), .int .i64 n] w (RRawPostE W I g [] none F) := by
  obtain ⟨q0, q1, f0, f1⟩ := SScE.facts hst
  have hn0 : ¬ ((n : Int) < 0) := by omega
  have he0 : e ≠ 0 := by rintro rfl; cases he
  have h4 := St.set (A := []) hst 0 (.slice none 0 0)
  have H4 := Lib.hid h4
  clear hst h4
  go_enter Tryd.func73, Tryd.ntmps73
  go_wp2_with fail
  go_ret
  exact ⟨none, 0, [], rfl, Row.nil _ _, none, 0, 0, e, ⟨he, rfl, rfl, rfl⟩, H4.out⟩

set_option maxRecDepth 100000 in
set_option maxHeartbeats 1000000 in
theorem rrawE (h : SScE W w I g s F) (n : Nat) (hn : n ≤ 9223372036854775807) :
    Calls Tryd.prog 73 #[.pointer (some ⟨g, 0, none⟩), .int .i64 n] w (RRawPostE W I g (tk n s).1 (tk n s).2 F) := by
  obtain ⟨A, k, c, e, hr, hst⟩ := h
  obtain ⟨q0, q1, f0, f1⟩ := SScE.facts hst
  have hn0 : ¬ ((n : Int) < 0) := by omega
  cases s with
  | none => exact rraw0E hst hr.1 n
  | some r =>
    obtain ⟨rfl, rfl, hl, hc, hin⟩ := hr
    by_cases hnr : n ≤ r.length
    · have htk : tk n (some r) = (r.take n, some (r.drop n)) := if_pos hnr
      have e1 : (r.take n).length = n := by simp; omega
      have hx := hst.alloc (.cells #[] 5)
      have hsrc := Part.In_take c n hin _ _ hx
      simp only [e1] at hsrc
      have hRd : RdE W I (some (r.drop n)) (subA A c n) (r.length - n) (c - n) 0 := ⟨rfl, by simp, by simp; omega, by simp; omega, Part.In_drop (c - n) n hc hin⟩
      have hone : ∀ u ∈ (r.take n).map bval, u.oneCell' = true := by intro u hu; obtain ⟨b, _, rfl⟩ := List.mem_map.1 hu; rfl
      have sl1 := fun w => run_slice_to Tryd.underlying40 Tryd.sizeOf5 A r.length c n (by omega) w
      have sl2 := fun w => run_slice_from Tryd.underlying40 Tryd.sizeOf5 A r.length c n hnr hc w
      rw [htk]
      have HX := Lib.hid hx; have HSRC := Lib.hid hsrc; have HRD := Lib.hid hRd; have HONE := Lib.hid hone; have HE1 := Lib.hid e1
      clear hst hx hsrc hRd hone htk hin e1
      generalize hrl : r.length = rl at *
      have hgt : ¬ ((rl : Int) < (n : Int)) := by omega
      have q0' : (w.alloc (.cells #[] 5)).cell? ⟨g, 0, none⟩ = some (.slice A rl c) := cell_old q0
      go_enter Tryd.func73, Tryd.ntmps73
      go_wp2_with (at_builtin; refine Hid.out ?_)
      refine Lib.hid ?_
      refine wpList_append_row (F := ((g, .cells #[.slice A rl c, .int .i64 0] 51 (0, 0)) :: F)) rfl (.tmp 33) (.tmp 39) 40 rfl 5 (.int .u8 0) 1 1 Tryd.underlying40 (by kernel_rfl) rfl (by omega) rfl (Row.empty 5 1 w.heap.size) (by exact HX.out) rfl HSRC.out HONE.out n (by omega) ((r.take n).map bval) (by simp) (by unfold maxLen; omega) (by omega) ?_
      intro A5 c5 w5 L5 hr5 h5
      have hg := h5.cell (g := g) (cs := #[.slice A rl c, .int .i64 0]) (t := 51) (fr := (0, 0)) (by simp) 0
      have hf := h5.frozen (g := g) (cs := #[.slice A rl c, .int .i64 0]) (t := 51) (by simp) 0
      have g0 : w5.cell? ⟨g, 0, none⟩ = some (.slice A rl c) := hg
      have h6 := St.set (A := L5) h5 0 (.slice (subA A c n) (rl - n) (c - n))
      have H6 := Lib.hid h6; have HR5 := Lib.hid hr5
      clear h5 hr5 h6 hg HX HSRC q0 q0' q1 f0 f1
      go_wp2_with fail
      go_ret
      refine ⟨A5, c5, L5, by rw [HE1.out]; rfl, by rw [HE1.out]; exact HR5.out, _, _, _, _, HRD.out, ?_⟩
      exact St.swap (A := L5) (B := [_]) H6.out
    · have htk : tk n (some r) = ([], none) := if_neg hnr
      rw [htk]
      have h1 := St.set (A := []) hst 1 (.int .i64 51)
      have h2 := St.set (A := []) h1 0 (.slice none 0 0)
      obtain ⟨_, g1, g2, _⟩ := SScE.facts h1
      have H2 := Lib.hid h2
      clear hst htk hin h1 h2
      generalize hrl : r.length = rl at *
      have hgt : ((rl : Int) < (n : Int)) := by omega
      go_enter Tryd.func73, Tryd.ntmps73
      go_wp2_with fail
      go_ret
      exact ⟨none, 0, [], rfl, Row.nil _ _, none, 0, 0, 51, ⟨rfl, rfl, rfl, rfl⟩, H2.out⟩

end
end Go.Proofs.YtpjfmgifddoppaaDoor
