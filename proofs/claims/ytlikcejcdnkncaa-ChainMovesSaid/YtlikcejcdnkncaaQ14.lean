/- Chapter 06: ChainBack. -/
import Derived.Test.YtlikcejcdnkncaaQ13
set_option linter.unusedSimpArgs false
set_option linter.unusedVariables false
namespace Go.Proofs.Ytlikcejcdnkncaa
open Go.Lw
attribute [local irreducible] LK LOps LW
theorem Ch.same {n h t n' h' t' : List Int} {Q : List (List Nat)} (c : Ch n h t Q) (d : Ch n' h' t' Q) (e : n'.length = n.length) : cv n' h' t' = cv n h t := by
  obtain ⟨rfl, rfl, rfl⟩ := rep_eq c.r d.r e; rfl
theorem Ch.unique {n h t : List Int} {Q R : List (List Nat)} (c : Ch n h t Q) (d : Ch n h t R) : Q = R := by
  apply List.ext_getElem?
  intro i
  rcases Nat.lt_or_ge i Q.length with hi | hi
  · obtain ⟨q, hq⟩ := idx_all hi
    obtain ⟨p, hp⟩ := idx_all (show i < R.length by rw [← d.r.lh, c.r.lh]; exact hi)
    obtain ⟨a, b, ha, hb, pa, _⟩ := rep_head c.r hq
    rw [hq, hp, pathTo_unique pa (d.r.path i p a hp ha)]
  · rw [List.getElem?_eq_none hi, List.getElem?_eq_none (by rw [← d.r.lh, c.r.lh]; exact hi)]
end Go.Proofs.Ytlikcejcdnkncaa
