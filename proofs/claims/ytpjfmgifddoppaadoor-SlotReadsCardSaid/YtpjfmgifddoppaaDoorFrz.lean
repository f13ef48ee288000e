/- image: hashes in memory that turns no more; clones. -/
import Derived.Test.YtpjfmgifddoppaaDoorParts
import Derived.Test.YtpjfmgifddoppaaDoorGlyPA
namespace Go.Proofs.YtpjfmgifddoppaaDoor
set_option linter.unusedVariables false
set_option linter.unusedSimpArgs false
open Go.RowKit Go.Lib

theorem Part.In.mono {p : Part} {W : World} {I J : Nat → Option Obj} (h : p.In W I) (hle : Le I J) : p.In W J := fun w L hst => h w L (hst.less hle)
theorem Part.In.nil_of_none {p : Part} {W w : World} {I : Nat → Option Obj} {F : List (Nat × Obj)} (h : p.In W I) (hst : St W w I F) (hA : p.A = none) : p.bs = [] := by
  cases hb : p.bs with
  | nil => rfl
  | cons x l =>
    obtain ⟨ad, h1, _⟩ := (h w F hst).2 0 (bval x) (by rw [hb]; rfl)
    rw [hA] at h1
    cases h1

theorem run_eql_slice_nil' {P : Program} (t : TypeId) {e : TypeId} (h : P.underlying t = some (.slice e)) (a : Option Addr) (l c : Nat) (w : World) : (binOp .eql t (.slice a l c) (.slice none 0 0)).run P w = .ok (.bool a.isNone) w := by
  simp [binOp, Sem.run_bind, run_equal_slice_nil w t e a l c h, Result.andThen]

section
variable {W w : World} {I : Nat → Option Obj} {F : List (Nat × Obj)}
/-- Blocks of ours turn no more. -/
theorem St.freezes : ∀ (L0 : List (Nat × Obj)) {I : Nat → Option Obj} {F : List (Nat × Obj)}, St W w I (L0 ++ F) → ∃ J, Le I J ∧ (∀ p ∈ L0, J p.1 = some p.2) ∧ St W w J F
  | [], I, F, h => ⟨I, Le.refl I, by simp, h⟩
  | p :: L0, I, F, h => by
    obtain ⟨J, h1, h2, h3⟩ := St.freeze (g := p.1) (o := p.2) (L := L0 ++ F) h
    obtain ⟨K, h4, h5, h6⟩ := St.freezes L0 h3
    refine ⟨K, h1.trans h4, fun q hq => ?_, h6⟩
    rcases List.mem_cons.1 hq with rfl | hq
    · exact h4 _ _ h2
    · exact h5 q hq
theorem part_freeze {A : Option Addr} {c : Nat} {xs : List UInt8} {L0 : List (Nat × Obj)} (hr : Row 5 1 (.slice A xs.length c) xs.length (xs.map bval) L0) (h : St W w I (L0 ++ F)) : ∃ J, Le I J ∧ Part.In ⟨A, c, xs⟩ W J ∧ St W w J F := by
  obtain ⟨J, h1, h2, h3⟩ := St.freezes L0 h
  exact ⟨J, h1, fun v L hv => hr.src (fun p hp => hv.imm _ _ (h2 p hp)), h3⟩

/-- Bytes of the call's own. -/
def FreshB (W w : World) (I : Nat → Option Obj) (F : List (Nat × Obj)) (bs : List UInt8) (v : Value) : Prop :=
  ∃ A c L', v = .slice A bs.length c ∧ Row 5 1 (.slice A bs.length c) bs.length (bs.map bval) L' ∧ St W w I (L' ++ F)
theorem FreshB.nil (h : St W w I F) : FreshB W w I F [] (.slice none 0 0) := ⟨none, 0, [], rfl, Row.nil _ _, h⟩

set_option maxRecDepth 100000 in
set_option maxHeartbeats 1000000 in
theorem clone_bytes (p : Part) (hp : p.In W I) (hlen : p.bs.length ≤ 140737488355328) (h : St W w I F) :
    Calls Tryd.prog 93 #[p.val] w fun e w' => ∃ v, e = .returned v ∧ FreshB W w' I F p.bs v := by
  unfold Part.val
  cases hA : p.A with
  | none =>
    have hb := hp.nil_of_none h hA
    rw [hb]
    have H := Lib.hid h
    clear h hp hb hlen
    have hq := fun c => run_eql_slice_nil' (P := Tryd.prog) 40 Tryd.underlying40 none 0 c
    go_enter Tryd.func93, Tryd.ntmps93
    go_wp2_with fail
    go_ret
    exact ⟨_, rfl, FreshB.nil H.out⟩
  | some ad =>
    have h2 := h.alloc (.cells #[] 5)
    have hsrc := hp _ _ h2
    rw [hA] at hsrc
    have hr := Row.empty 5 1 w.heap.size
    have hone : ∀ u ∈ p.bs.map bval, u.oneCell' = true := by intro u hu; obtain ⟨b, _, rfl⟩ := List.mem_map.1 hu; rfl
    have hq := fun l c => run_eql_slice_nil' (P := Tryd.prog) 40 Tryd.underlying40 (some ad) l c
    clear hp h
    go_enter Tryd.func93, Tryd.ntmps93
    go_wp2_with (at_builtin; refine Hid.out ?_)
    refine Lib.hid ?_
    refine wpList_append_row0 (F := F) rfl (.tmp 5) (.tmp 6) 40 rfl 5 (.int .u8 0) 1 1 Tryd.underlying40 (by kernel_rfl) rfl (by omega) rfl hr (by exact h2) rfl (by exact hsrc) hone p.bs.length (by omega) (p.bs.map bval) rfl (by unfold maxLen; omega) (by omega) ?_
    intro A1 c1 w2 L1 hr1 h3 ho
    have H3 := Lib.hid h3; have HR := Lib.hid hr1
    clear h3 hr1 ho h2 hsrc hr hone
    go_wp2_with fail
    go_ret
    exact ⟨_, rfl, _, _, _, rfl, HR.out, H3.out⟩

end
end Go.Proofs.YtpjfmgifddoppaaDoor
