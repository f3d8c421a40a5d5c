/- A scope with one label to which the run jumps back: what holds at the label, and a measure. No conditions. -/
import Derived.Test.YtpkjlmaphhileaaDoorKit
import Derived.ScopeJumps
import Derived.WalkMore
namespace Go.Proofs.YtpkjlmaphhileaaDoor
set_option linter.unusedSimpArgs false
set_option linter.unusedVariables false
open Go.RowKit
section
variable {P : Program} {Q : Exit → Act → World → Prop}
theorem jump_mono {l : Nat} {J J' : Act → World → Prop} (h : ∀ a w, J a w → J' a w) : ∀ (e : Exit) (a : Act) (w : World), Exit.jump l J Q e a w → Exit.jump l J' Q e a w := fun e a w hh => by
  cases e with
  | goto l' => exact ⟨hh.1, h a w hh.2⟩
  | _ => exact hh
theorem jump_of {l : Nat} {J : Act → World → Prop} : ∀ (e : Exit) (a : Act) (w : World), Q e a w → (∀ l', e ≠ .goto l') → Exit.jump l J Q e a w := fun e a w h hn => by
  cases e with
  | goto l' => exact absurd rfl (hn l')
  | _ => exact h
/-- The first way to the label is walked up to the label alone; the post is kept from the walk. -/
theorem wp_scope_goto {c tail : Code} {a : Act} {w : World} (l : Nat) (J : Act → World → Prop) (μ : Act → World → Nat) (hf : findLabel c l = some (Code.skip.seq tail))
    (first : ∀ Qv : Exit → Act → World → Prop, Hid (∀ a w, J a w → tail.wp P Qv a w) → Hid (∀ a w, J a w → Qv (.goto l) a w) → Hid (∀ e a w, Q e a w → (∀ l', e ≠ .goto l') → Qv e a w) → c.wp P Qv a w)
    (pass : ∀ a w, J a w → ∀ Qv : Exit → Act → World → Prop, Hid (∀ a' w', J a' w' → μ a' w' < μ a w → Qv (.goto l) a' w') → Hid (∀ e a w, Q e a w → (∀ l', e ≠ .goto l') → Qv e a w) → tail.wp P Qv a w) : (Code.scope c).wp P Q a w :=
  have pass' : ∀ a w, J a w → tail.wp P (Exit.jump l (fun a' w' => J a' w' ∧ μ a' w' < μ a w) Q) a w := fun a w hJ =>
    pass a w hJ _ (fun _ _ h1 h2 => ⟨rfl, h1, h2⟩) jump_of
  wp_scope_jumps l J μ hf (first _ (fun a w hJ => Code.wp_mono (jump_mono fun _ _ h => h.1) (pass' a w hJ)) (fun _ _ h => ⟨rfl, h⟩) jump_of) fun a w hJ => wp_seq (wp_skip (pass' a w hJ))
theorem jgive {a : Act} {lit : (Nat → Value) → Array Value} {R : (Nat → Value) → Prop} (h : a = { tmps := lit fun i => a.tmps.getD i undef, defers := [] }) (hR : R fun i => a.tmps.getD i undef) :
    ∃ u : Nat → Value, a = { tmps := lit u, defers := [] } ∧ R u := ⟨_, h, hR⟩
end
end Go.Proofs.YtpkjlmaphhileaaDoor
