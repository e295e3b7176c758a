/- Chapter 17: what workers do, in plain words. -/
import Derived.Test.YtnfmkijakhpgbaaTy
set_option linter.unusedSimpArgs false
set_option linter.unusedVariables false
namespace Go.Proofs.Ytnfmkijakhpgbaa
open Go.Lw
attribute [local irreducible] LK LOps LW
abbrev vi (a : Int) : LV := .pv (.sc (.int .i64 a))
abbrev vb (a : Bool) : LV := .pv (.sc (.bool a))
abbrev sI (l : List Int) : LV := sF 1 (cI .i64) l
abbrev dv (a s : List Int) : LV := .agg [sI a, sI s]
/-- How many are something. -/
def num (l : List Int) (v : Int) : Nat := (l.filter (fun x => x == v)).length
theorem num_nil (v : Int) : num [] v = 0 := rfl
theorem num_append (l r : List Int) (v : Int) : num (l ++ r) v = num l v + num r v := by simp [num]
theorem num_one (x v : Int) : num [x] v = if x = v then 1 else 0 := by
  by_cases e : x = v <;> simp [num, e]
theorem num_step {l : List Int} {k : Nat} {x : Int} (hx : l[k]? = some x) (v : Int) : num (l.take (k + 1)) v = num (l.take k) v + (if x = v then 1 else 0) := by
  rw [List.take_add_one, hx, Option.toList_some, num_append, num_one]
theorem num_le (l : List Int) (v : Int) : num l v ≤ l.length := List.length_filter_le _ _
theorem num_take_le (l : List Int) (k : Nat) (v : Int) : num (l.take k) v ≤ k := by
  have := num_le (l.take k) v
  rw [List.length_take] at this; omega
theorem num_cons (x : Int) (l : List Int) (v : Int) : num (x :: l) v = (if x = v then 1 else 0) + num l v := by
  have := num_append [x] l v
  rw [num_one] at this; simpa using this
theorem num_set : ∀ {l : List Int} {i : Nat} {x : Int} (y v : Int), l[i]? = some x → num (l.set i y) v + (if x = v then 1 else 0) = num l v + (if y = v then 1 else 0)
  | [], i, x, y, v, h => by simp at h
  | a :: l, 0, x, y, v, h => by
    obtain rfl : a = x := by simpa using h
    simp only [List.set_cons_zero, num_cons]; omega
  | a :: l, i + 1, x, y, v, h => by
    have := num_set (l := l) (i := i) y v (by simpa using h)
    simp only [List.set_cons_succ, num_cons]; omega
theorem num_sum : ∀ {l : List Int}, (∀ x ∈ l, 0 ≤ x ∧ x ≤ 3) → num l 0 + num l 1 + num l 2 + num l 3 = l.length
  | [], _ => rfl
  | a :: l, h => by
    have ih := num_sum (l := l) fun x hx => h x (List.mem_cons_of_mem _ hx)
    have ha := h a (by simp)
    simp only [num_cons, List.length_cons]
    have : a = 0 ∨ a = 1 ∨ a = 2 ∨ a = 3 := by omega
    rcases this with rfl | rfl | rfl | rfl <;> simp <;> omega
def inR (l : List Int) : Prop := ∀ x ∈ l, 0 ≤ x ∧ x ≤ 3
instance (l : List Int) : Decidable (inR l) := inferInstanceAs (Decidable (∀ x ∈ l, 0 ≤ x ∧ x ≤ 3))
/-- No more spin than may. -/
def fit (a : List Int) : Bool := decide (2 * num a 1 ≤ num a 0 + num a 1 + num a 2 + 1)
/-- Who is in the stack. -/
def inS (a s : List Int) : Prop := (∀ i ∈ s, 0 ≤ i ∧ i < a.length ∧ 2 ≤ a.getD i.toNat 0) ∧ s.Nodup
instance (a s : List Int) : Decidable (inS a s) := inferInstanceAs (Decidable (_ ∧ _))
def okI (a s : List Int) : Prop := inR a ∧ 1 ≤ a.length ∧ a.length ≤ 64 ∧ fit a = true ∧ s.length = num a 2 + num a 3 ∧ inS a s
instance (a s : List Int) : Decidable (okI a s) := inferInstanceAs (Decidable (_ ∧ _))
def chk (a s : List Int) : Int := if okI a s then 0 else 1
theorem chk_ok {a s : List Int} (h : okI a s) : chk a s = 0 := if_pos h
theorem chk_no {a s : List Int} (h : ¬ okI a s) : chk a s = 1 := if_neg h
/-- A list without a number. -/
def wo (w : List Int) (id : Int) : List Int := w.filter fun x => !(x == id)
theorem wo_not {w : List Int} {id : Int} (h : id ∉ w) : wo w id = w := by
  refine List.filter_eq_self.2 fun x hx => ?_
  have : x ≠ id := by rintro rfl; exact h hx
  simpa using this
theorem wo_push {w : List Int} {id : Int} (hm : id ∉ w) : wo (w ++ [id]) id = w := by
  have e := wo_not hm
  simp only [wo] at e
  simp [wo, e]
/-- One becomes something else. -/
def bcE (a s : List Int) (i : Int) (l : List Int) : Int := if chk a s = 1 ∨ i < 0 ∨ (a.length : Int) ≤ i then 1 else if a.getD i.toNat 0 ∈ l then 0 else 9
def bcS (s : List Int) (i what : Int) : List Int := if what < 2 then wo s i else if what = 2 then s ++ [i] else s
theorem bc_inv {a s : List Int} {i : Int} {l : List Int} (h : bcE a s i l = 0) : okI a s ∧ ∃ (n : Nat) (x : Int), i = (n : Int) ∧ a[n]? = some x ∧ x ∈ l := by
  unfold bcE at h
  split at h
  · cases h
  · rename_i hc
    split at h
    · rename_i hm
      obtain ⟨n, rfl⟩ := Int.eq_ofNat_of_zero_le (show 0 ≤ i by omega)
      obtain ⟨x, hx⟩ := idx_all (show n < a.length by omega)
      refine ⟨?_, n, x, rfl, hx, ?_⟩
      · by_cases ho : okI a s
        · exact ho
        · exact absurd (.inl (chk_no ho)) hc
      · simpa [List.getD_eq_getElem?_getD, hx] using hm
    · cases h
theorem bc_ok {a s : List Int} {n : Nat} {x : Int} {l : List Int} (ho : okI a s) (hx : a[n]? = some x) (hm : x ∈ l) : bcE a s n l = 0 := by
  have := lt_of_get hx
  unfold bcE
  rw [chk_ok ho, if_neg (by omega)]
  simp [List.getD_eq_getElem?_getD, hx, hm]
theorem bc_state {a s : List Int} {n : Nat} {x : Int} {l : List Int} (ho : okI a s) (hx : a[n]? = some x) (hm : x ∉ l) : bcE a s n l = 9 := by
  have := lt_of_get hx
  unfold bcE
  rw [chk_ok ho, if_neg (by omega)]
  simp [List.getD_eq_getElem?_getD, hx, hm]
theorem bc_arg {a s : List Int} {i : Int} {l : List Int} (h : ¬ okI a s ∨ i < 0 ∨ (a.length : Int) ≤ i) : bcE a s i l = 1 := by
  unfold bcE
  rw [if_pos (h.imp chk_no (fun h => h))]
end Go.Proofs.Ytnfmkijakhpgbaa
