/- Chapter 17: who announced, in plain words. -/
import Derived.Test.YtnfmkijakhpgbaaI8
set_option linter.unusedSimpArgs false
set_option linter.unusedVariables false
namespace Go.Proofs.Ytnfmkijakhpgbaa
open Go.Lw
attribute [local irreducible] LK LOps LW
/-- Workers none of whom spins or has parked: those who announced are in the stack. -/
structure Inv (n : Nat) (a s : List Int) : Prop where
  len : a.length = n
  two : ∀ x ∈ a, x = 0 ∨ x = 2
  nd : s.Nodup
  st : ∀ i ∈ s, ∃ j : Nat, i = (j : Int) ∧ a[j]? = some 2
  ts : ∀ j : Nat, a[j]? = some 2 → (j : Int) ∈ s
  num2 : s.length = num a 2
theorem num_zero {a : List Int} {v : Int} (h : ∀ x ∈ a, x ≠ v) : num a v = 0 := by
  rw [num, List.filter_eq_nil_iff.2 fun x hx => by simpa using h x hx]; rfl
theorem Inv.ok {n : Nat} {a s : List Int} (h : Inv n a s) (h1 : 1 ≤ n) (h2 : n ≤ 64) : okI a s := by
  have n1 : num a 1 = 0 := num_zero fun x hx => by rcases h.two x hx with h | h <;> omega
  have n3 : num a 3 = 0 := num_zero fun x hx => by rcases h.two x hx with h | h <;> omega
  refine ⟨fun x hx => by rcases h.two x hx with h | h <;> omega, by rw [h.len]; exact h1, by rw [h.len]; exact h2, ?_, by rw [n3]; exact h.num2, fun i hi => ?_, h.nd⟩
  · simp only [fit, n1, decide_eq_true_eq]; omega
  · obtain ⟨j, rfl, hj⟩ := h.st i hi
    have := lt_of_get hj
    exact ⟨by omega, by omega, by simp [List.getD_eq_getElem?_getD, hj]⟩
theorem Inv.new (n : Nat) : Inv n (List.replicate n 0) [] := by
  have hne : ∀ x ∈ List.replicate n (0 : Int), x ≠ 2 := fun x hx => by rw [(List.mem_replicate.1 hx).2]; decide
  refine ⟨by simp, fun x hx => .inl (List.mem_replicate.1 hx).2, by simp, by simp, fun j hj => absurd rfl (hne _ (List.mem_of_getElem? hj)), ?_⟩
  rw [num_zero hne]; rfl
theorem Inv.at {n : Nat} {a s : List Int} (h : Inv n a s) {j : Nat} (hj : j < n) : a[j]? = some 0 ∨ a[j]? = some 2 := by
  obtain ⟨x, hx⟩ := idx_all (show j < a.length by rw [h.len]; exact hj)
  rcases h.two x (List.mem_of_getElem? hx) with e | e
  · exact .inl (e ▸ hx)
  · exact .inr (e ▸ hx)
theorem Inv.ann {n : Nat} {a s : List Int} (h : Inv n a s) {j : Nat} (hx : a[j]? = some 0) : Inv n (a.set j 2) (s ++ [(j : Int)]) := by
  have hlt := lt_of_get hx
  have hno : (j : Int) ∉ s := fun hm => by
    obtain ⟨i, e, hi⟩ := h.st _ hm
    obtain rfl : j = i := by omega
    rw [hx] at hi; cases hi
  refine ⟨by rw [List.length_set]; exact h.len, fun x hm => ?_, ?_, fun i hi => ?_, fun i hi => ?_, ?_⟩
  · rcases List.mem_or_eq_of_mem_set hm with hm | rfl
    · exact h.two x hm
    · exact .inr rfl
  · rw [List.nodup_append]
    refine ⟨h.nd, by simp, fun p hp q hq => ?_⟩
    obtain rfl : q = (j : Int) := by simpa using hq
    rintro rfl; exact hno hp
  · rcases List.mem_append.1 hi with hi | hi
    · obtain ⟨p, rfl, hp⟩ := h.st i hi
      refine ⟨p, rfl, ?_⟩
      rw [List.getElem?_set_ne (by rintro rfl; exact hno hi)]; exact hp
    · obtain rfl : i = (j : Int) := by simpa using hi
      exact ⟨j, rfl, List.getElem?_set_self hlt⟩
  · by_cases e : j = i
    · subst e; simp
    · rw [List.getElem?_set_ne e] at hi
      exact List.mem_append_left _ (h.ts i hi)
  · have e2 := num_set (l := a) (i := j) 2 2 hx
    simp at e2
    rw [List.length_append, List.length_singleton, h.num2]; omega
theorem wo_len_in : ∀ {s : List Int} {i : Int}, s.Nodup → i ∈ s → (wo s i).length + 1 = s.length
  | [], i, _, h => by simp at h
  | x :: s, i, hn, h => by
    obtain ⟨h1, h2⟩ := List.nodup_cons.1 hn
    by_cases e : x = i
    · subst e
      have := wo_not h1
      simp only [wo] at this
      simp [wo, this]
    · have hm : i ∈ s := by
        rcases List.mem_cons.1 h with h | h
        · exact absurd h.symm e
        · exact h
      have ih := wo_len_in h2 hm
      simp only [wo] at ih
      simp [wo, e, ih]
theorem mem_wo {s : List Int} {i x : Int} : x ∈ wo s i ↔ x ∈ s ∧ x ≠ i := by
  simp [wo]
theorem Inv.found {n : Nat} {a s : List Int} (h : Inv n a s) {j : Nat} (hj : j < n) : Inv n (a.set j 0) (wo s j) := by
  have hlt : j < a.length := by rw [h.len]; exact hj
  refine ⟨by rw [List.length_set]; exact h.len, fun x hm => ?_, h.nd.sublist (List.filter_sublist ..), fun i hi => ?_, fun i hi => ?_, ?_⟩
  · rcases List.mem_or_eq_of_mem_set hm with hm | rfl
    · exact h.two x hm
    · exact .inl rfl
  · obtain ⟨h1, h2⟩ := mem_wo.1 hi
    obtain ⟨p, rfl, hp⟩ := h.st i h1
    refine ⟨p, rfl, ?_⟩
    rw [List.getElem?_set_ne (by rintro rfl; exact h2 rfl)]; exact hp
  · by_cases e : j = i
    · subst e; rw [List.getElem?_set_self hlt] at hi; cases hi
    · rw [List.getElem?_set_ne e] at hi
      exact mem_wo.2 ⟨h.ts i hi, by omega⟩
  · rcases h.at hj with hx | hx
    · have e2 := num_set (l := a) (i := j) 0 2 hx
      simp at e2
      have hno : (j : Int) ∉ s := fun hm => by
        obtain ⟨i, e, hi⟩ := h.st _ hm
        obtain rfl : j = i := by omega
        rw [hx] at hi; cases hi
      rw [wo_not hno, h.num2, e2]
    · have e2 := num_set (l := a) (i := j) 0 2 hx
      simp at e2
      have := wo_len_in h.nd (h.ts j hx)
      have := h.num2
      omega
theorem Inv.annE {n : Nat} {a s : List Int} (h : Inv n a s) (h1 : 1 ≤ n) (h2 : n ≤ 64) {j : Nat} (hj : j < n) : (anE a s j = 0 ∧ a[j]? = some 0 ∧ anA a s j = a.set j 2 ∧ anS a s j = s ++ [(j : Int)]) ∨ (anE a s j = 9 ∧ anA a s j = [] ∧ anS a s j = []) := by
  have ho := h.ok h1 h2
  rcases h.at hj with hx | hx
  · have e : anE a s j = 0 := bc_ok ho hx (by simp)
    exact .inl ⟨e, hx, by rw [anA, if_pos e, Int.toNat_natCast], by rw [anS, if_pos e]⟩
  · have e : anE a s j = 9 := bc_state ho hx (by simp)
    exact .inr ⟨e, by rw [anA, e]; rfl, by rw [anS, e]; rfl⟩
theorem Inv.foundE {n : Nat} {a s : List Int} (h : Inv n a s) (h1 : 1 ≤ n) (h2 : n ≤ 64) {j : Nat} (hj : j < n) : foE a s j = 0 ∧ foA a s j = a.set j 0 ∧ foS a s j = wo s j := by
  have ho := h.ok h1 h2
  have e : foE a s j = 0 := by
    rcases h.at hj with hx | hx <;> exact bc_ok ho hx (by simp)
  exact ⟨e, by rw [foA, if_pos e, Int.toNat_natCast], by rw [foS, if_pos e]⟩
theorem wo_last {s : List Int} {k : Nat} {x : Int} (hn : s.Nodup) (hk : s.length = k + 1) (hx : s[k]? = some x) : wo s x = s.take k := by
  have hs : s = s.take k ++ [x] := by
    have : s.take (k + 1) = s.take k ++ [x] := by rw [List.take_add_one, hx]; rfl
    rw [← this, List.take_of_length_le (by omega)]
  have hno : x ∉ s.take k := by
    rw [hs, List.nodup_append] at hn
    exact fun h => hn.2.2 x h x (by simp) rfl
  conv => lhs; rw [hs]
  exact wo_push hno
theorem Inv.wake {n : Nat} {a s : List Int} (h : Inv n a s) (h1 : 1 ≤ n) (h2 : n ≤ 64) {k : Nat} {x : Int} (hk : s.length = k + 1) (hx : s[k]? = some x) : wkE a s = 0 ∧ wkI a s = x ∧ ∃ b, wkA a s = b ∧ wkS a s = s.take k ∧ Inv n b (s.take k) := by
  have ho := h.ok h1 h2
  have hl : lastI s = x := by rw [lastI, hk, Nat.add_sub_cancel, List.getD_eq_getElem?_getD, hx]; rfl
  have hne : s ≠ [] := by rintro rfl; simp at hk
  have e : wkE a s = 0 := by rw [wkE, chk_ok ho, if_neg (by omega), if_neg hne]
  obtain ⟨j, rfl, hj⟩ := h.st x (List.mem_of_getElem? hx)
  have hjl := lt_of_get hj
  have hw := wo_last h.nd hk hx
  refine ⟨e, by rw [wkI, if_pos e, hl], a.set j 0, by rw [wkA, if_pos e, hl, Int.toNat_natCast], by rw [wkS, if_pos e, hl, hw], ?_⟩
  have := h.found (j := j) (by rw [← h.len]; exact hjl)
  rwa [hw] at this
theorem wake_none_E {n : Nat} {a : List Int} (h : Inv n a []) (h1 : 1 ≤ n) (h2 : n ≤ 64) : wkE a [] = 5 := by
  rw [wkE, chk_ok (h.ok h1 h2), if_neg (by omega), if_pos rfl]
end Go.Proofs.Ytnfmkijakhpgbaa
