/- The statement 'DigestCopies' is proved: for every input that can be read the law returns true, and the input reads as it did. No condition. -/
import Derived.Test.YtjkepnddmpgljaaCopies
namespace Go.Proofs.Ytjkepnddmpgljaa.digestCopiesDone
set_option linter.unusedVariables false
set_option linter.unusedSimpArgs false
open Go.ChangeShapes Go.WideShapes Go.ChangeAt Go.RowKit
set_option linter.unusedVariables false

theorem own : ownKnob Try.prog.godebug = none := by kernel_rfl
theorem laidOut : laidOutB Try.prog = true := by kernel_rfl

set_option maxRecDepth 100000 in
theorem lifted (os : Os) (started : os.Started) (H : Type) (enc : TypeId × Value → H) :
    ReturnsInHanded {} Try.checked os 4 .any (Rows.digestCopiesSpec.pre6 enc Try.prog Try.f4 Rows.digestCopiesRow.domain false) (Rows.digestCopiesSpec.post enc Try.prog Try.f4 false true false false) := by
  refine returnsInHanded_of_change (C := Try.checked) own started (by kernel_rfl) Try.func4
    (ChangeSpec.witness6 (enc := enc) (C := Try.checked) false ⟨#[], #[.slice none 0 0, .slice none 0 0, .slice none 0 0], []⟩ 8 (by kernel_rfl) (by kernel_rfl) (by kernel_rfl) (by kernel_rfl)) ?_
  intro W base args ds gs before hval0 hW hcnd _
  have hval : ∀ (j : Nat) t v, Try.f4.params[j]? = some t → args[j]? = some v → Value.okWide Try.prog W .any base t v := hval0
  have hW' := hW
  obtain ⟨p, q, hA0, hV, rfl, hfz, hnd⟩ := hW
  have hA : DataW.TrodAll enc Try.prog W 0 (fun _ => true) true Try.f4.params.toList args.toList ds p := hA0
  rw [Try.params4] at hA hval
  have hA1 := hA
  obtain ⟨v0, vs0, d0, ds0, p0, q0, hargs, rfl, rfl, h0, r0⟩ := trodAll_cons hA
  obtain ⟨v1, vs1, d1, ds1, p1, q1, rfl, rfl, rfl, h1, r1⟩ := trodAll_cons r0
  obtain ⟨v2, vs2, d2, ds2, p2, q2, rfl, rfl, rfl, h2, r2⟩ := trodAll_cons r1
  obtain ⟨rfl, rfl, rfl⟩ := trodAll_nil r2
  obtain rfl : args = #[v0, v1, v2] := by cases args; simp_all
  obtain ⟨rfl, rfl⟩ := trodVars_none hV
  have a0 : Arg enc Try.prog W 22 v0 := ⟨⟨base, hval 0 22 v0 rfl rfl⟩, Cel.of_trod h0⟩
  have a1 : Arg enc Try.prog W 22 v1 := ⟨⟨base, hval 1 22 v1 rfl rfl⟩, Cel.of_trod h1⟩
  have a2 : Arg enc Try.prog W 22 v2 := ⟨⟨base, hval 2 22 v2 rfl rfl⟩, Cel.of_trod h2⟩
  refine (walk_digestCopies W a0 a1 a2).mono fun e W' ⟨he, bel⟩ => ?_
  subst he
  exact ⟨_, rfl, _, _, _, [], _, [], hW', trodAll_mk1 (shut_bool Try.underlying4 _), Below.trodAll laidOut bel _ _ _ _ (of_decide_eq_true (by kernel_rfl)) hA1 (fun x hx => hW'.lt x (by simpa using hx)), rfl, bel.frame _, fun h => by cases h⟩

theorem over : Rows.digestCopiesRow.holds Try.pinned (OpenSpec.ofChange Rows.digestCopiesSpec) :=
  OpenClaim.holds_of_wide 4 Try.f4 rfl rfl rfl rfl rfl rfl rfl ⟨rfl, rfl, rfl, rfl, rfl⟩ rfl rfl rfl rfl rfl (by kernel_rfl) Try.func4 (by kernel_rfl)
    (of_decide_eq_true (by kernel_rfl)) (by unfold Func.isWrapper; first | (rw [if_pos (by decide +kernel)]; kernel_rfl) | (rw [if_neg (by decide +kernel)]; exact ⟨rfl, rfl⟩))
    (fun os started H enc _ => lifted os started H enc)

theorem proved : Rows.DigestCopiesSaid := over
#print axioms proved
end Go.Proofs.Ytjkepnddmpgljaa.digestCopiesDone
