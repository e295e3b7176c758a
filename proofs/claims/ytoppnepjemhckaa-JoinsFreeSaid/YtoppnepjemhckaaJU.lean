/- Chapter 11: what comes in, of JoinsFree. -/
import Derived.Test.YtoppnepjemhckaaJ17
import Derived.Test.YtoppnepjemhckaaJT
set_option linter.unusedSimpArgs false
set_option linter.unusedVariables false
namespace Go.Proofs.Ytoppnepjemhckaa
open Go.Lw
attribute [local irreducible] LK LOps LW
theorem typed_struct41 {rows : List (List PV)} (h : ∀ r ∈ rows, Typed (.st [.int .i64, .int .i64, .int .i64]) r) : ∃ l : List Opn, rows = rF cO l ∧ ∀ x ∈ l, True := by
  refine typed_list (W := fun _ => True) (fun r hr => ?_) h
  simp only [Typed, TypedL] at hr
  obtain ⟨_, _, rfl, ⟨a, rfl, _⟩, _, _, rfl, ⟨b, rfl, _⟩, _, _, rfl, ⟨c, rfl, _⟩, rfl⟩ := hr
  exact ⟨(a, b, c), rfl, trivial⟩
end Go.Proofs.Ytoppnepjemhckaa
