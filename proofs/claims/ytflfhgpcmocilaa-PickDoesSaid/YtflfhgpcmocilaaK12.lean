/- Chapter 16: an order has each number once. -/
import Derived.Test.YtflfhgpcmocilaaKD6k
set_option linter.unusedSimpArgs false
set_option linter.unusedVariables false
namespace Go.Proofs.Ytflfhgpcmocilaa
open Go.Lw
attribute [local irreducible] LK LOps LW
theorem octN_min {l : List Int} {a : Nat} (h : a ≤ l.length) : octN l a = min l.length (a + 1) := by unfold octN; split <;> omega
theorem drawN_min {l : List Int} {a : Nat} (h : a ≤ l.length) : drawN l a = min l.length (a + 2) := by
  unfold drawN; rw [octN_min (octN_le h), octN_min h]; omega
theorem shuf_min {l : List Int} {a : Nat} (h : a ≤ l.length) (n : Nat) : ∀ j, (shuf l a n j).2 = min l.length (a + 2 * j)
  | 0 => by simp [shuf]; omega
  | j + 1 => by rw [shuf, drawN_min (shuf_at h n j), shuf_min h n j]; omega
/-- Each number once. -/
structure Once (n : Nat) (p : List Int) : Prop where
  len : p.length = n
  lo : ∀ (j : Nat) (x : Int), p[j]? = some x → 0 ≤ x ∧ x < n
  inj : ∀ (j j' : Nat) (x : Int), p[j]? = some x → p[j']? = some x → j = j'
theorem once_iota (n : Nat) : Once n (iota n) := by
  have get : ∀ (j : Nat) (x : Int), (iota n)[j]? = some x → x = (j : Int) ∧ j < n := by
    intro j x h
    have hl := lt_of_get h
    rw [iota_len] at hl
    rw [iota, List.getElem?_map, List.getElem?_range hl] at h
    have : ((j : Int)) = x := by simpa using h
    omega
  refine ⟨iota_len n, fun j x h => ?_, fun j j' x h h' => ?_⟩
  · have := get j x h; omega
  · have h1 := get j x h; have h2 := get j' x h'; omega
theorem swap_get {p : List Int} {i k : Nat} {x y : Int} (hx : p[i]? = some x) (hy : p[k]? = some y) (j : Nat) : (swap p i k)[j]? = if j = k then some x else if j = i then some y else p[j]? := by
  have hi := lt_of_get hx
  have hk := lt_of_get hy
  unfold swap
  rw [hx, hy, Option.getD_some, Option.getD_some]
  by_cases e : j = k
  · subst e; rw [if_pos rfl, List.getElem?_set_self (by rw [List.length_set]; exact hk)]
  · rw [if_neg e, List.getElem?_set_ne (Ne.symm e)]
    by_cases e2 : j = i
    · subst e2; rw [if_pos rfl, List.getElem?_set_self hi]
    · rw [if_neg e2, List.getElem?_set_ne (Ne.symm e2)]
theorem once_swap {n : Nat} {p : List Int} {i k : Nat} (h : Once n p) (hi : i < n) (hk : k < n) : Once n (swap p i k) := by
  obtain ⟨x, hx⟩ := idx_all (show i < p.length by rw [h.len]; exact hi)
  obtain ⟨y, hy⟩ := idx_all (show k < p.length by rw [h.len]; exact hk)
  have g := swap_get hx hy
  refine ⟨by rw [swap_len]; exact h.len, fun j z hz => ?_, fun j j' z hz hz' => ?_⟩
  · rw [g] at hz
    split at hz
    · obtain rfl := Option.some.inj hz; exact h.lo i _ hx
    · split at hz
      · obtain rfl := Option.some.inj hz; exact h.lo k _ hy
      · exact h.lo j z hz
  · rw [g] at hz hz'
    have e1 : ∀ m, (p[m]? = some x → m = i) := fun m hm => h.inj m i x hm hx
    have e2 : ∀ m, (p[m]? = some y → m = k) := fun m hm => h.inj m k y hm hy
    by_cases a1 : j = k
    · rw [if_pos a1] at hz
      obtain rfl := Option.some.inj hz
      by_cases a2 : j' = k
      · omega
      · rw [if_neg a2] at hz'
        by_cases a3 : j' = i
        · rw [if_pos a3] at hz'
          have := e1 k (by rw [hy]; exact hz')
          omega
        · rw [if_neg a3] at hz'
          exact absurd (e1 j' hz') a3
    · rw [if_neg a1] at hz
      by_cases a2 : j' = k
      · rw [if_pos a2] at hz'
        obtain rfl := Option.some.inj hz'
        by_cases a3 : j = i
        · rw [if_pos a3] at hz
          have := e1 k (by rw [hy]; exact hz)
          omega
        · rw [if_neg a3] at hz
          exact absurd (e1 j hz) a3
      · rw [if_neg a2] at hz'
        by_cases a3 : j = i
        · rw [if_pos a3] at hz
          obtain rfl := Option.some.inj hz
          by_cases a4 : j' = i
          · omega
          · rw [if_neg a4] at hz'
            exact absurd (e2 j' hz') a2
        · rw [if_neg a3] at hz
          by_cases a4 : j' = i
          · rw [if_pos a4] at hz'
            obtain rfl := Option.some.inj hz'
            exact absurd (e2 j hz) a1
          · rw [if_neg a4] at hz'
            exact h.inj j j' z hz hz'
theorem once_shuf {l : List Int} (hb : octB l) (a n : Nat) : ∀ j, j ≤ n - 1 → Once n (shuf l a n j).1
  | 0, _ => once_iota n
  | j + 1, h => by
    have ih := once_shuf hb a n j (by omega)
    have hd := draw_lt hb (shuf l a n j).2 (show 1 ≤ ((n - 1 - j : Nat) + 1 : Int) by omega)
    rw [shuf]
    exact once_swap ih (by omega) (by omega)
/-- Who has been met. -/
def mt (p : List Int) (n : Nat) : Nat → List Bool
  | 0 => List.replicate n false
  | k + 1 => (mt p n k).set ((p[k]?).getD 0).toNat true
theorem mt_len (p : List Int) (n : Nat) : ∀ k, (mt p n k).length = n
  | 0 => by simp [mt]
  | k + 1 => by rw [mt, List.length_set]; exact mt_len p n k
theorem mt_new {n : Nat} {p : List Int} (h : Once n p) : ∀ (k : Nat), k ≤ n → ∀ v : Nat, (mt p n k)[v]? = some true → ∃ j, j < k ∧ p[j]? = some (v : Int)
  | 0, _, v, hv => by
    rw [mt, List.getElem?_replicate] at hv
    split at hv <;> simp at hv
  | k + 1, hk, v, hv => by
    rw [mt] at hv
    obtain ⟨x, hx⟩ := idx_all (show k < p.length by rw [h.len]; omega)
    by_cases e : ((p[k]?).getD 0).toNat = v
    · rw [hx, Option.getD_some] at e
      have := h.lo k x hx
      exact ⟨k, by omega, by rw [hx]; congr 1; omega⟩
    · rw [List.getElem?_set_ne e] at hv
      obtain ⟨j, h1, h2⟩ := mt_new h k (by omega) v hv
      exact ⟨j, by omega, h2⟩
end Go.Proofs.Ytflfhgpcmocilaa
