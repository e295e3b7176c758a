/- Chapter 10: what a semaphore does, in plain words. -/
import Derived.Test.YtlnjodigkfpimaaTy
set_option linter.unusedSimpArgs false
set_option linter.unusedVariables false
namespace Go.Proofs.Ytlnjodigkfpimaa
open Go.Lw
attribute [local irreducible] LK LOps LW
abbrev vi (a : Int) : LV := .pv (.sc (.int .i64 a))
abbrev vb (a : Bool) : LV := .pv (.sc (.bool a))
abbrev sI (l : List Int) : LV := sF 1 (cI .i64) l
abbrev sv (f : Int) (w : List Int) : LV := .agg [vi f, sI w]
/-- Whether a semaphore may be. -/
def okS (f : Int) (w : List Int) : Prop := 0 ≤ f ∧ f ≤ 1000 ∧ w.length ≤ 256 ∧ (f = 0 ∨ w = []) ∧ (∀ x ∈ w, 0 ≤ x) ∧ w.Nodup
instance (f : Int) (w : List Int) : Decidable (okS f w) := inferInstanceAs (Decidable (_ ∧ _))
def chk (f : Int) (w : List Int) : Int := if okS f w then 0 else 1
theorem chk_ok {f : Int} {w : List Int} (h : okS f w) : chk f w = 0 := if_pos h
theorem chk_no {f : Int} {w : List Int} (h : ¬ okS f w) : chk f w = 1 := if_neg h
theorem chk_inv {f : Int} {w : List Int} (h : chk f w = 0) : okS f w := by
  unfold chk at h
  split at h
  · assumption
  · cases h
/-- Who was met. -/
def metL (w : List Int) : Nat → List (Int × Bool)
  | 0 => [(-1, true)]
  | k + 1 => match w[k]? with
    | some x => aput x true (metL w k)
    | none => metL w k
theorem metL_get (w : List Int) (n : Int) : ∀ k, mb (metL w k) n = decide (n = -1 ∨ n ∈ w.take k)
  | 0 => by
    by_cases h : n = -1
    · subst h; rfl
    · simp [metL, mb, aget, h]
  | k + 1 => by
    have ih := metL_get w n k
    simp only [metL]
    rw [List.take_add_one]
    cases hx : w[k]? with
    | none => simp [ih]
    | some x =>
      simp only [mb_aput, ih, Option.toList_some, List.mem_append, List.mem_singleton]
      by_cases e : n = x
      · simp [e]
      · simp [e]
theorem okS_step {w : List Int} {k : Nat} {x : Int} (hx : w[k]? = some x) (h : (w.take k).Nodup) (hn : x ∉ w.take k) : (w.take (k + 1)).Nodup := by
  rw [List.take_add_one, hx, Option.toList_some, List.nodup_append]
  refine ⟨h, by simp, fun a ha b hb => ?_⟩
  obtain rfl : b = x := by simpa using hb
  rintro rfl; exact hn ha
theorem not_nodup {w : List Int} {k : Nat} {x : Int} (hx : w[k]? = some x) (hm : x ∈ w.take k) : ¬ w.Nodup := by
  intro h
  have h2 : (w.take (k + 1)).Nodup := h.sublist (List.take_sublist _ _)
  rw [List.take_add_one, hx, Option.toList_some, List.nodup_append] at h2
  exact h2.2.2 x hm x (by simp) rfl
/-- Somebody takes one. -/
def tkE (f : Int) (w : List Int) (id : Int) : Int := if chk f w = 1 ∨ id < 0 then 1 else if id ∈ w then 6 else if 0 < f then 0 else if w.length = 256 then 7 else 0
def tkN (f : Int) (w : List Int) (id : Int) : Bool := decide (tkE f w id = 0) && decide (0 < f)
def tkF (f : Int) (w : List Int) (id : Int) : Int := if tkE f w id = 0 then (if 0 < f then f - 1 else f) else 0
def tkW (f : Int) (w : List Int) (id : Int) : List Int := if tkE f w id = 0 then (if 0 < f then w else w ++ [id]) else []
/-- One is given. -/
def gvE (f : Int) (w : List Int) : Int := if chk f w = 1 then 1 else if w = [] ∧ f = 1000 then 4 else 0
def gvI (f : Int) (w : List Int) : Int := if gvE f w = 0 then (match w with | [] => -1 | x :: _ => x) else 0
def gvF (f : Int) (w : List Int) : Int := if gvE f w = 0 then (match w with | [] => f + 1 | _ => f) else 0
def gvW (f : Int) (w : List Int) : List Int := if gvE f w = 0 then w.tail else []
/-- Somebody waits no more. -/
def wo (w : List Int) (id : Int) : List Int := w.filter fun x => !(x == id)
def drE (f : Int) (w : List Int) (id : Int) : Int := if chk f w = 1 then 1 else if id ∈ w then 0 else 5
def drF (f : Int) (w : List Int) (id : Int) : Int := if drE f w id = 0 then f else 0
def drW (f : Int) (w : List Int) (id : Int) : List Int := if drE f w id = 0 then wo w id else []
theorem wo_not {w : List Int} {id : Int} (h : id ∉ w) : wo w id = w := by
  refine List.filter_eq_self.2 fun x hx => ?_
  have : x ≠ id := by rintro rfl; exact h hx
  simpa using this
theorem wo_erase : ∀ {w : List Int} {i : Nat} {id : Int}, w.Nodup → w[i]? = some id → w.take i ++ w.drop (i + 1) = wo w id
  | [], i, id, _, h => by simp at h
  | x :: w, 0, id, hn, h => by
    obtain rfl : x = id := by simpa using h
    have := List.nodup_cons.1 hn
    have e := wo_not this.1
    simp only [wo] at e
    simp [wo, e]
  | x :: w, i + 1, id, hn, h => by
    have hc := List.nodup_cons.1 hn
    have h' : w[i]? = some id := by simpa using h
    have ih := wo_erase hc.2 h'
    have hne : x ≠ id := by rintro rfl; exact hc.1 (List.mem_of_getElem? h')
    have e : wo (x :: w) id = x :: wo w id := by simp [wo, hne]
    rw [e, ← ih]; rfl
theorem wo_head {x : Int} {w : List Int} (h : (x :: w).Nodup) : wo (x :: w) x = w := by
  have := wo_erase (i := 0) h rfl
  simpa using this.symm
theorem okS_tail {f : Int} {x : Int} {w : List Int} (h : okS f (x :: w)) : f = 0 ∧ okS f w := by
  obtain ⟨h1, h2, h3, h4, h5, h6⟩ := h
  have hf : f = 0 := by rcases h4 with h | h; exact h; cases h
  refine ⟨hf, h1, h2, by simp at h3; omega, .inl hf, fun y hy => h5 y (List.mem_cons_of_mem _ hy), (List.nodup_cons.1 h6).2⟩
theorem first_at {w : List Int} {id : Int} : (id ∉ w) ∨ ∃ i : Nat, w[i]? = some id ∧ ∀ (j : Nat) (x : Int), j < i → w[j]? = some x → x ≠ id := by
  induction w with
  | nil => exact .inl (by simp)
  | cons a w ih =>
    by_cases e : a = id
    · exact .inr ⟨0, by simp [e], fun j x hj => absurd hj (Nat.not_lt_zero _)⟩
    · rcases ih with h | ⟨i, h1, h2⟩
      · exact .inl (by simp [Ne.symm e, h])
      · refine .inr ⟨i + 1, by simpa using h1, fun j x hj hx => ?_⟩
        cases j with
        | zero => obtain rfl : a = x := by simpa using hx
                  exact e
        | succ j => exact h2 j x (by omega) (by simpa using hx)
end Go.Proofs.Ytlnjodigkfpimaa
