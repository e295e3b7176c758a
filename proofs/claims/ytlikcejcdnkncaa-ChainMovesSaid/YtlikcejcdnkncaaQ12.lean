/- Chapter 06: ChainPops. -/
import Derived.Test.YtlikcejcdnkncaaQ11
set_option linter.unusedSimpArgs false
set_option linter.unusedVariables false
namespace Go.Proofs.Ytlikcejcdnkncaa
open Go.Lw
attribute [local irreducible] LK LOps LW
theorem drop_step {q : List Nat} {k x : Nat} (h : q[k]? = some x) : q.drop k = x :: q.drop (k + 1) := by
  obtain ⟨h1, h2⟩ := List.getElem?_eq_some_iff.1 h
  rw [List.drop_eq_getElem_cons h1, h2]
end Go.Proofs.Ytlikcejcdnkncaa
