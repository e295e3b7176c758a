/- Chapter 06: what comes in, of ChainQueues. -/
import Derived.Test.YtlikcejcdnkncaaQ35
set_option linter.unusedSimpArgs false
set_option linter.unusedVariables false
namespace Go.Proofs.Ytlikcejcdnkncaa
open Go.Lw
attribute [local irreducible] LK LOps LW
theorem typed_list {α : Type} {s : Sh} {f : α → List PV} {W : α → Prop} (h1 : ∀ r, Typed s r → ∃ x, r = f x ∧ W x) : ∀ {rows : List (List PV)}, (∀ r ∈ rows, Typed s r) → ∃ l : List α, rows = rF f l ∧ ∀ x ∈ l, W x
  | [], _ => ⟨[], rfl, by simp⟩
  | r :: rows, h => by
    obtain ⟨l, rfl, hl⟩ := typed_list h1 (rows := rows) fun r hr => h r (List.mem_cons_of_mem _ hr)
    obtain ⟨x, rfl, hx⟩ := h1 r (h r (by simp))
    refine ⟨x :: l, rfl, fun y hy => ?_⟩
    rcases List.mem_cons.1 hy with rfl | hy
    · exact hx
    · exact hl y hy
theorem typed_struct50 {rows : List (List PV)} (h : ∀ r ∈ rows, Typed (.st [.int .i64, .int .i64, .int .i64, .int .i64]) r) : ∃ l : List OpI, rows = rF cOp l ∧ ∀ x ∈ l, True := by
  refine typed_list (W := fun _ => True) (fun r hr => ?_) h
  simp only [Typed, TypedL] at hr
  obtain ⟨_, _, rfl, ⟨a, rfl, _⟩, _, _, rfl, ⟨b, rfl, _⟩, _, _, rfl, ⟨c, rfl, _⟩, _, _, rfl, ⟨d, rfl, _⟩, rfl⟩ := hr
  exact ⟨⟨a, b, c, d⟩, rfl, trivial⟩
end Go.Proofs.Ytlikcejcdnkncaa
