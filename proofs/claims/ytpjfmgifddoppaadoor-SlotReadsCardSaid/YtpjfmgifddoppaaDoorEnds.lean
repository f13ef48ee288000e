/- A drawn region whose end is one act, whatever the order. -/
import Derived.Test.YtpjfmgifddoppaaDoorBase
import Derived.Deep.RegionWith
import Derived.Deep.RegionHeld3
namespace Go.Proofs.YtpjfmgifddoppaaDoor
set_option linter.unusedVariables false
set_option linter.unusedSimpArgs false
open Go.RowKit Go.Lib

/-- The region's end: the same act whatever the order. -/
def EndsA (A : Act) (S : World → Prop) : Exit → Act → World → Prop := fun e a' w' => match e with
  | .normal => a' = A ∧ S w'
  | _ => False
theorem endsA {P : Program} {c : Code} {Q : Exit → Act → World → Prop} {a : Act} {w : World} (A : Act) (S : World → Prop) (h : c.wp P (EndsA A S) a w) (k : ∀ w', S w' → Q .normal A w') : c.wp P Q a w :=
  Code.wp_mono (fun e a' w' hq => by
    cases e with
    | normal => obtain ⟨rfl, h2⟩ := hq; exact k _ h2
    | _ => exact hq.elim) h
end Go.Proofs.YtpjfmgifddoppaaDoor
