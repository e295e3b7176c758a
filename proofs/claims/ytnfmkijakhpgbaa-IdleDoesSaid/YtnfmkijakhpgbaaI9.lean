/- Chapter 17: who is in the stack, told in two ways. -/
import Derived.Test.YtnfmkijakhpgbaaI8
set_option linter.unusedSimpArgs false
set_option linter.unusedVariables false
namespace Go.Proofs.Ytnfmkijakhpgbaa
open Go.Lw
attribute [local irreducible] LK LOps LW
theorem num_zero : ∀ {l : List Int} {v : Int}, v ∉ l → num l v = 0
  | [], v, _ => rfl
  | a :: l, v, h => by
    have h1 : a ≠ v := by rintro rfl; simp at h
    have h2 : v ∉ l := fun hm => h (List.mem_cons_of_mem _ hm)
    simp [num_cons, h1, num_zero h2]
theorem num_pos : ∀ {l : List Int} {v : Int}, v ∈ l → 1 ≤ num l v
  | [], v, h => by simp at h
  | a :: l, v, h => by
    rw [num_cons]
    rcases List.mem_cons.1 h with rfl | h
    · simp
    · have := num_pos h; omega
theorem wo_num : ∀ (l : List Int) (v : Int), (wo l v).length + num l v = l.length
  | [], v => rfl
  | a :: l, v => by
    have ih := wo_num l v
    rw [num_cons]
    by_cases e : a = v
    · simp only [wo, e, beq_self_eq_true, Bool.not_true, List.filter_cons, Bool.false_eq_true, if_false, if_true, List.length_cons] at ih ⊢; omega
    · have hb : (!(a == v)) = true := by simpa using e
      simp only [wo, List.filter_cons, hb, if_true, e, if_false, List.length_cons] at ih ⊢; omega
theorem num_wo : ∀ {l : List Int} {v t : Int}, t ≠ v → num (wo l v) t = num l t
  | [], v, t, _ => rfl
  | a :: l, v, t, h => by
    have ih := num_wo (l := l) h
    by_cases e : a = v
    · have hc : wo (a :: l) v = wo l v := by simp [wo, e]
      have : ¬ a = t := by rintro rfl; exact h e
      rw [hc, ih, num_cons, if_neg this]; omega
    · have hc : wo (a :: l) v = a :: wo l v := by simp [wo, e]
      rw [hc, num_cons, num_cons, ih]
theorem nodup_num : ∀ {l : List Int}, l.Nodup → ∀ v, num l v ≤ 1
  | [], _, v => by simp [num_nil]
  | a :: l, h, v => by
    have hc := List.nodup_cons.1 h
    rw [num_cons]
    by_cases e : a = v
    · subst e; rw [num_zero hc.1]; simp
    · have := nodup_num hc.2 v; simp [e, this]
theorem num_nodup : ∀ {l : List Int}, (∀ v, num l v ≤ 1) → l.Nodup
  | [], _ => by simp
  | a :: l, h => by
    rw [List.nodup_cons]
    refine ⟨fun hm => ?_, num_nodup fun v => ?_⟩
    · have h1 := h a
      have h2 := num_pos hm
      rw [num_cons, if_pos rfl] at h1; omega
    · have := h v
      rw [num_cons] at this; omega
theorem mem_wo {l : List Int} {v x : Int} : x ∈ wo l v ↔ x ∈ l ∧ x ≠ v := by simp [wo]
theorem all_once : ∀ {T s : List Int}, T.Nodup → (∀ t ∈ T, num s t = 1) → s.length = T.length → s.Nodup ∧ ∀ x ∈ s, x ∈ T
  | [], s, _, _, hl => by
    obtain rfl : s = [] := List.eq_nil_of_length_eq_zero (by simpa using hl)
    simp
  | t :: T, s, hT, h, hl => by
    have hc := List.nodup_cons.1 hT
    have h1 := h t (by simp)
    have h2 := wo_num s t
    have ih := all_once (T := T) (s := wo s t) hc.2 (fun t' ht' => by
      rw [num_wo (by rintro rfl; exact hc.1 ht')]
      exact h t' (List.mem_cons_of_mem _ ht')) (by simp only [List.length_cons] at hl; omega)
    refine ⟨num_nodup fun v => ?_, fun x hx => ?_⟩
    · by_cases e : v = t
      · subst e; omega
      · rw [← num_wo e]; exact nodup_num ih.1 v
    · by_cases e : x = t
      · simp [e]
      · exact List.mem_cons_of_mem _ (ih.2 x (mem_wo.2 ⟨hx, e⟩))
theorem no_more : ∀ {s T : List Int}, s.Nodup → (∀ x ∈ s, x ∈ T) → s.length ≤ T.length
  | [], T, _, _ => Nat.zero_le _
  | x :: s, T, h, hm => by
    have hc := List.nodup_cons.1 h
    have h1 := num_pos (hm x (by simp))
    have h2 := wo_num T x
    have ih := no_more (s := s) (T := wo T x) hc.2 fun y hy => mem_wo.2 ⟨hm y (List.mem_cons_of_mem _ hy), by rintro rfl; exact hc.1 hy⟩
    simp only [List.length_cons]; omega
theorem all_of {s T : List Int} (h : s.Nodup) (hm : ∀ x ∈ s, x ∈ T) (hl : s.length = T.length) {t : Int} (ht : t ∈ T) : t ∈ s := by
  by_cases c : t ∈ s
  · exact c
  · have h1 := no_more h (T := wo T t) fun y hy => mem_wo.2 ⟨hm y hy, by rintro rfl; exact c hy⟩
    have h2 := wo_num T t
    have h3 := num_pos ht
    omega
/-- The places of those who are about to park, or have. -/
def idxs : List Int → Nat → List Int
  | [], _ => []
  | x :: l, k => if 2 ≤ x then (k : Int) :: idxs l (k + 1) else idxs l (k + 1)
theorem idxs_len : ∀ {l : List Int} (k : Nat), inR l → (idxs l k).length = num l 2 + num l 3
  | [], k, _ => rfl
  | x :: l, k, h => by
    have ih := idxs_len (l := l) (k + 1) fun y hy => h y (List.mem_cons_of_mem _ hy)
    have hx := h x (by simp)
    have hc : x = 0 ∨ x = 1 ∨ x = 2 ∨ x = 3 := by omega
    rcases hc with rfl | rfl | rfl | rfl <;> simp [idxs, num_cons, ih] <;> omega
theorem idxs_mem : ∀ {l : List Int} {k : Nat} {t : Int}, t ∈ idxs l k ↔ ∃ (n : Nat) (x : Int), l[n]? = some x ∧ 2 ≤ x ∧ t = ((k + n : Nat) : Int)
  | [], k, t => by simp [idxs]
  | a :: l, k, t => by
    have ih := idxs_mem (l := l) (k := k + 1) (t := t)
    have key : t ∈ idxs (a :: l) k ↔ (2 ≤ a ∧ t = (k : Int)) ∨ t ∈ idxs l (k + 1) := by
      by_cases c : 2 ≤ a
      · simp [idxs, c]
      · simp [idxs, c]
    rw [key, ih]
    constructor
    · rintro (⟨h1, rfl⟩ | ⟨n, x, h1, h2, rfl⟩)
      · exact ⟨0, a, rfl, h1, by simp⟩
      · exact ⟨n + 1, x, by simpa using h1, h2, by omega⟩
    · rintro ⟨n, x, h1, h2, rfl⟩
      cases n with
      | zero => obtain rfl : a = x := by simpa using h1
                exact .inl ⟨h2, by simp⟩
      | succ n => exact .inr ⟨n, x, by simpa using h1, h2, by omega⟩
theorem idxs_nodup : ∀ (l : List Int) (k : Nat), (idxs l k).Nodup
  | [], k => by simp [idxs]
  | a :: l, k => by
    have ih := idxs_nodup l (k + 1)
    by_cases c : 2 ≤ a
    · simp only [idxs, c, if_true, List.nodup_cons]
      refine ⟨fun hm => ?_, ih⟩
      obtain ⟨n, x, _, _, e⟩ := idxs_mem.1 hm
      omega
    · simp only [idxs, c, if_false]; exact ih
theorem inS_iff {a s : List Int} (hr : inR a) (hl : s.length = num a 2 + num a 3) : inS a s ↔ ∀ (n : Nat) (x : Int), a[n]? = some x → 2 ≤ x → num s n = 1 := by
  have hT := idxs_len 0 hr
  constructor
  · intro h n x hx h2
    have hm : ∀ i ∈ s, i ∈ idxs a 0 := by
      intro i hi
      obtain ⟨q1, q2, q3⟩ := h.1 i hi
      obtain ⟨k, rfl⟩ := Int.eq_ofNat_of_zero_le q1
      obtain ⟨y, hy⟩ := idx_all (show k < a.length by omega)
      rw [Int.toNat_natCast, getD_of hy] at q3
      exact idxs_mem.2 ⟨k, y, hy, q3, by simp⟩
    have hmem := all_of h.2 hm (by omega) (idxs_mem.2 ⟨n, x, hx, h2, rfl⟩)
    have h3 := num_pos hmem
    have h4 := nodup_num h.2 ((0 + n : Nat) : Int)
    rw [Nat.zero_add] at h3 h4
    omega
  · intro h
    obtain ⟨h1, h2⟩ := all_once (T := idxs a 0) (s := s) (idxs_nodup a 0) (fun t ht => by
      obtain ⟨n, x, hx, h2, rfl⟩ := idxs_mem.1 ht
      rw [Nat.zero_add]; exact h n x hx h2) (by omega)
    refine ⟨fun i hi => ?_, h1⟩
    obtain ⟨n, x, hx, h2, rfl⟩ := idxs_mem.1 (h2 i hi)
    have := lt_of_get hx
    refine ⟨by omega, by omega, ?_⟩
    rw [Int.toNat_natCast, Nat.zero_add, getD_of hx]; exact h2
end Go.Proofs.Ytnfmkijakhpgbaa
