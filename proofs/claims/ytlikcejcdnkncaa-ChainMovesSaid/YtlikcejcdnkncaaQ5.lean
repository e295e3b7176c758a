/- The walks of chapter 06: Walk. -/
import Derived.Test.YtlikcejcdnkncaaQ4
set_option linter.unusedSimpArgs false
set_option linter.unusedVariables false
namespace Go.Proofs.Ytlikcejcdnkncaa
open Go.Lw
attribute [local irreducible] LK LOps LW
/-- The numbers of nodes. -/
def castL (q : List Nat) : List Int := q.map fun x : Nat => (x : Int)
theorem castL_snoc (q : List Nat) (x : Nat) : castL q ++ [(x : Int)] = castL (q ++ [x]) := by simp [castL]
theorem castL_len (q : List Nat) : (castL q).length = q.length := by simp [castL]
theorem Rep.le {n h t : List Int} {Q : List (List Nat)} (r : Rep n h t Q) {i : Nat} {q : List Nat} (hq : Q[i]? = some q) : q.length ≤ n.length ∧ ∀ x ∈ q, x < n.length := by
  have hi := lt_of_get hq
  obtain ⟨a, ha⟩ := idx_all (show i < h.length by rw [r.lh]; exact hi)
  have hl := pathTo_lt (r.path i q a hq ha)
  refine ⟨pigeon ?_ hl, hl⟩
  have hs := split_at (Q := Q.take i) rfl hq
  have hn := r.nodup
  rw [hs] at hn
  simp only [List.flatten_append, List.flatten_cons] at hn
  exact (List.nodup_append.1 (List.nodup_append.1 hn).2.1).1
end Go.Proofs.Ytlikcejcdnkncaa
