/- Chapter 11: ways, in plain words. -/
import Derived.Test.YtoppnepjemhckaaJ11
set_option linter.unusedSimpArgs false
set_option linter.unusedVariables false
namespace Go.Proofs.Ytoppnepjemhckaa
open Go.Lw
attribute [local irreducible] LK LOps LW
/-- Where one is behind so many steps. -/
def it (m : List (Int × Int)) : Nat → Int → Option Int
  | 0, a => some a
  | n + 1, a => match aget a m with
    | none => none
    | some v => it m n v
theorem it_add (m : List (Int × Int)) : ∀ (n k : Nat) (a : Int), it m (n + k) a = (it m n a).bind (it m k)
  | 0, k, a => by rw [Nat.zero_add]; rfl
  | n + 1, k, a => by
    rw [show n + 1 + k = (n + k) + 1 by omega]
    simp only [it]
    cases aget a m with
    | none => rfl
    | some v => exact it_add m n k v
theorem it_prev {m : List (Int × Int)} {n k : Nat} {a b : Int} (h : it m n a = some b) (hk : k ≤ n) : ∃ c, it m k a = some c := by
  obtain ⟨d, rfl⟩ : ∃ d, n = k + d := ⟨n - k, by omega⟩
  rw [it_add] at h
  cases hc : it m k a with
  | none => rw [hc] at h; cases h
  | some c => exact ⟨c, rfl⟩
theorem mem_way {m : List (Int × Int)} {b : Int} : ∀ {k : Nat} {a : Int}, b ∈ wayL m k a ↔ ∃ n, 1 ≤ n ∧ n ≤ k ∧ it m n a = some b
  | 0, a => by simp only [wayL, List.not_mem_nil, false_iff]; rintro ⟨n, h1, h2, _⟩; omega
  | k + 1, a => by
    simp only [wayL]
    cases hv : aget a m with
    | none =>
      simp only [List.not_mem_nil, false_iff]
      rintro ⟨n, h1, h2, h3⟩
      obtain ⟨d, rfl⟩ : ∃ d, n = d + 1 := ⟨n - 1, by omega⟩
      simp [it, hv] at h3
    | some v =>
      simp only [List.mem_cons]
      rw [mem_way (k := k) (a := v)]
      constructor
      · rintro (rfl | ⟨n, h1, h2, h3⟩)
        · exact ⟨1, by omega, by omega, by simp [it, hv]⟩
        · exact ⟨n + 1, by omega, by omega, by simp [it, hv, h3]⟩
      · rintro ⟨n, h1, h2, h3⟩
        obtain ⟨d, rfl⟩ : ∃ d, n = d + 1 := ⟨n - 1, by omega⟩
        simp only [it, hv] at h3
        cases d with
        | zero => left; simpa [it] using h3.symm
        | succ d => right; exact ⟨d + 1, by omega, by omega, h3⟩
theorem way_len (m : List (Int × Int)) : ∀ (k : Nat) (a : Int), (wayL m k a).length ≤ k
  | 0, a => by simp [wayL]
  | k + 1, a => by
    simp only [wayL]
    cases aget a m with
    | none => simp
    | some v => have := way_len m k v; simp only [List.length_cons]; omega
theorem aget_mem {m : List (Int × Int)} {a v : Int} (h : aget a m = some v) : a ∈ m.map (·.1) := by
  induction m with
  | nil => simp [aget] at h
  | cons p m ih =>
    obtain ⟨k, u⟩ := p
    by_cases e : a = k
    · simp [e]
    · simp only [aget, if_neg e] at h
      exact List.mem_cons_of_mem _ (ih h)
/-- Each number of a list that has none twice is one of another one's: it is no longer. -/
theorem pigeonI : ∀ {K S : List Int}, S.Nodup → (∀ x ∈ S, x ∈ K) → S.length ≤ K.length
  | K, [], _, _ => by simp
  | K, x :: S, h, hl => by
    have hx := hl x (by simp)
    obtain ⟨h1, h2⟩ := List.nodup_cons.1 h
    have := pigeonI (K := K.erase x) h2 fun y hy => by
      have hne : y ≠ x := fun e => h1 (e ▸ hy)
      exact (List.mem_erase_of_ne hne).2 (hl y (List.mem_cons_of_mem _ hy))
    rw [List.length_erase_of_mem hx] at this
    have hp := List.length_pos_of_mem hx
    simp only [List.length_cons]
    omega
/-- The places that one passes. -/
def pth (m : List (Int × Int)) : Nat → Int → List Int
  | 0, _ => []
  | n + 1, a => a :: match aget a m with
    | none => []
    | some v => pth m n v
theorem mem_pth {m : List (Int × Int)} {b : Int} : ∀ {k : Nat} {a : Int}, b ∈ pth m k a → ∃ n, n < k ∧ it m n a = some b
  | 0, a, h => by simp [pth] at h
  | k + 1, a, h => by
    simp only [pth, List.mem_cons] at h
    rcases h with rfl | h
    · exact ⟨0, by omega, rfl⟩
    · cases hv : aget a m with
      | none => rw [hv] at h; simp at h
      | some v =>
        rw [hv] at h
        obtain ⟨n, h1, h2⟩ := mem_pth h
        exact ⟨n + 1, by omega, by simp [it, hv, h2]⟩
theorem pth_len {m : List (Int × Int)} {b : Int} : ∀ {k : Nat} {a : Int}, it m k a = some b → (pth m k a).length = k
  | 0, a, _ => rfl
  | k + 1, a, h => by
    simp only [it] at h
    cases hv : aget a m with
    | none => rw [hv] at h; cases h
    | some v =>
      rw [hv] at h
      simp only [pth, hv, List.length_cons]
      rw [pth_len (k := k) (a := v) h]
theorem pth_keys {m : List (Int × Int)} {b : Int} {k : Nat} {a : Int} (h : it m k a = some b) : ∀ x ∈ pth m k a, x ∈ m.map (·.1) := by
  intro x hx
  obtain ⟨n, h1, h2⟩ := mem_pth hx
  obtain ⟨c, hc⟩ := it_prev h (show n + 1 ≤ k by omega)
  rw [it_add, h2, Option.bind_some] at hc
  simp only [it] at hc
  cases hv : aget x m with
  | none => rw [hv] at hc; cases hc
  | some v => exact aget_mem hv
theorem pth_nodup {m : List (Int × Int)} : ∀ {k : Nat} {a : Int}, (∀ i j x, i < j → j < k → it m i a = some x → it m j a ≠ some x) → (pth m k a).Nodup
  | 0, a, _ => by simp [pth]
  | k + 1, a, h => by
    simp only [pth]
    cases hv : aget a m with
    | none => simp
    | some v =>
      refine List.nodup_cons.2 ⟨fun hm => ?_, pth_nodup fun i j x h1 h2 h3 h4 => ?_⟩
      · obtain ⟨n, h1, h2⟩ := mem_pth hm
        exact h 0 (n + 1) a (by omega) (by omega) rfl (by simp [it, hv, h2])
      · exact h (i + 1) (j + 1) x (by omega) (by omega) (by simp [it, hv, h3]) (by simp [it, hv, h4])
/-- Nobody waits for itself, on however long a way. -/
def acy (m : List (Int × Int)) : Prop := ∀ a n, 1 ≤ n → it m n a ≠ some a
theorem acy_of {m : List (Int × Int)} {K : Nat} (hK : m.length ≤ K) (h : ∀ a ∈ m.map (·.1), a ∉ wayL m K a) : acy m := by
  intro a n
  induction n using Nat.strongRecOn generalizing a with
  | ind n ih =>
    intro hn hc
    have hnd : (pth m n a).Nodup := by
      refine pth_nodup fun i j x h1 h2 h3 h4 => ?_
      have e1 : it m (n - j) x = some a := by
        have := it_add m j (n - j) a
        rw [show j + (n - j) = n by omega, hc, h4, Option.bind_some] at this
        exact this.symm
      have e2 : it m (i + (n - j)) a = some a := by rw [it_add, h3, Option.bind_some, e1]
      exact ih (i + (n - j)) (by omega) a (by omega) e2
    have hle := pigeonI hnd (pth_keys hc)
    rw [pth_len hc, List.length_map] at hle
    have hmem : a ∈ pth m n a := by
      obtain ⟨d, rfl⟩ : ∃ d, n = d + 1 := ⟨n - 1, by omega⟩
      simp [pth]
    exact h a (pth_keys hc a hmem) (mem_way.2 ⟨n, hn, by omega, hc⟩)
theorem acy_way {m : List (Int × Int)} (h : acy m) (k : Nat) (a : Int) : a ∉ wayL m k a := by
  intro hm
  obtain ⟨n, h1, _, h3⟩ := mem_way.1 hm
  exact h a n h1 h3
theorem acy_end {m : List (Int × Int)} (h : acy m) (a : Int) : it m (m.length + 1) a = none := by
  cases hc : it m (m.length + 1) a with
  | none => rfl
  | some b =>
    have hnd : (pth m (m.length + 1) a).Nodup := by
      refine pth_nodup fun i j x h1 h2 h3 h4 => ?_
      have := it_add m i (j - i) a
      rw [show i + (j - i) = j by omega, h4, h3, Option.bind_some] at this
      exact h x (j - i) (by omega) this.symm
    have hle := pigeonI hnd (pth_keys hc)
    rw [pth_len hc, List.length_map] at hle
    omega
/-- A way that ends within so many steps is the same with more. -/
theorem way_more (m : List (Int × Int)) : ∀ (k d : Nat) (a : Int), it m (k + 1) a = none → wayL m (k + d) a = wayL m k a
  | 0, d, a, h => by
    simp only [it] at h
    cases hv : aget a m with
    | none => cases d <;> simp [wayL, hv]
    | some v => rw [hv] at h; simp [] at h
  | k + 1, d, a, h => by
    rw [show k + 1 + d = (k + d) + 1 by omega]
    simp only [wayL]
    cases hv : aget a m with
    | none => rfl
    | some v =>
      have : it m (k + 1) v = none := by simpa [it, hv] using h
      simp only [way_more m k d v this]
theorem way_all {m : List (Int × Int)} (h : acy m) {k : Nat} (hk : m.length ≤ k) (a : Int) : wayL m k a = wayL m m.length a := by
  obtain ⟨d, rfl⟩ : ∃ d, k = m.length + d := ⟨k - m.length, by omega⟩
  exact way_more m _ d a (acy_end h a)
/-- Behind the last one nobody is. -/
theorem way_last (m : List (Int × Int)) : ∀ (k : Nat) (a b : Int), it m (k + 1) a = none → (wayL m k a).getLast? = some b → aget b m = none
  | 0, a, b, _, h => by simp [wayL] at h
  | k + 1, a, b, he, h => by
    simp only [wayL] at h
    cases hv : aget a m with
    | none => rw [hv] at h; simp at h
    | some v =>
      rw [hv] at h
      have he2 : it m (k + 1) v = none := by simpa [it, hv] using he
      simp only at h
      cases hw : wayL m k v with
      | nil =>
        rw [hw] at h
        simp only [List.getLast?_singleton, Option.some.injEq] at h
        subst h
        cases k with
        | zero =>
          cases hvv : aget v m with
          | none => rfl
          | some u => simp [it, hvv] at he2
        | succ k =>
          simp only [wayL] at hw
          cases hvv : aget v m with
          | none => rfl
          | some u => rw [hvv] at hw; cases hw
      | cons c t =>
        have h2 : (wayL m k v).getLast? = some b := by
          rw [hw] at h ⊢
          rw [← h, List.getLast?_cons_cons]
        exact way_last m k v b he2 h2
theorem free_acy {l : List Jn} : free l ↔ acy (mOf l) := by
  constructor
  · intro h
    refine acy_of (Nat.le_refl _) fun a ha => ?_
    obtain ⟨p, hp, rfl⟩ := List.mem_map.1 ha
    obtain ⟨x, hx, rfl⟩ := List.mem_map.1 hp
    exact h x hx
  · exact fun h x _ => acy_way h _ _
/-- Fewer steps are to be had. -/
theorem acy_sub {m m' : List (Int × Int)} (h : acy m) (hs : ∀ a v, aget a m' = some v → aget a m = some v) : acy m' := by
  have key : ∀ n a b, it m' n a = some b → it m n a = some b := by
    intro n
    induction n with
    | zero => exact fun a b h => h
    | succ n ih =>
      intro a b hb
      simp only [it] at hb ⊢
      cases hv : aget a m' with
      | none => rw [hv] at hb; cases hb
      | some v => rw [hv] at hb; rw [hs a v hv]; exact ih v b hb
  exact fun a n hn hc => h a n hn (key n a a hc)
theorem aget_iff {l : List Jn} (hn : (l.map (·.2)).Nodup) {a v : Int} : aget a (mOf l) = some v ↔ (v, a) ∈ l := by
  induction l with
  | nil => simp [mOf, aget]
  | cons x l ih =>
    obtain ⟨x1, x2⟩ := x
    simp only [List.map_cons, List.nodup_cons] at hn
    by_cases e : a = x2
    · subst e
      simp only [mOf, List.map_cons, aget, if_true, List.mem_cons, Prod.mk.injEq, and_true, Option.some.injEq]
      constructor
      · rintro rfl; exact .inl rfl
      · rintro (rfl | h)
        · rfl
        · exact absurd (List.mem_map.2 ⟨(v, a), h, rfl⟩) hn.1
    · simp only [mOf, List.map_cons, aget, if_neg e, List.mem_cons, Prod.mk.injEq]
      have := ih hn.2
      simp only [mOf] at this
      rw [this]
      constructor
      · exact fun h => .inr h
      · rintro (⟨_, rfl⟩ | h)
        · exact absurd rfl e
        · exact h
theorem aget_no {l : List Jn} {a : Int} (h : (aget a (mOf l)).isSome = false) : a ∉ l.map (·.2) := by
  intro hm
  rw [aget_some hm] at h
  cases h
theorem okJ_nil : okJ [] := ⟨⟨by simp, by simp⟩, by simp, fun x hx => by simp at hx⟩
theorem okJ_sub {l l' : List Jn} (h : okJ l) (hs : l'.Sublist l) : okJ l' := by
  obtain ⟨h1, h2, h3⟩ := h
  have hn : (l'.map (·.2)).Nodup := h1.2.sublist (hs.map _)
  refine ⟨⟨fun x hx => h1.1 x (hs.subset hx), hn⟩, Nat.le_trans hs.length_le h2, ?_⟩
  rw [free_acy] at h3 ⊢
  refine acy_sub h3 fun a v hv => ?_
  rw [aget_iff hn] at hv
  rw [aget_iff h1.2]
  exact hs.subset hv
theorem aget_push {l : List Jn} {on who : Int} (h : who ∉ l.map (·.2)) (a : Int) : aget a (mOf (l ++ [(on, who)])) = if a = who then some on else aget a (mOf l) := by
  induction l with
  | nil => by_cases e : a = who <;> simp [mOf, aget, e]
  | cons x l ih =>
    simp only [List.map_cons, List.mem_cons, not_or] at h
    have := ih h.2
    simp only [mOf] at this
    by_cases e : a = x.2
    · subst e
      simp only [mOf, List.cons_append, List.map_cons, aget, if_true]
      rw [if_neg (Ne.symm h.1)]
    · simp only [mOf, List.cons_append, List.map_cons, aget, if_neg e]
      exact this
theorem okJ_push {l : List Jn} {on who : Int} (h : okJ l) (h0 : ¬ (on < 0 ∨ who < 0)) (hs : (aget who (mOf l)).isSome = false) (hr : ¬ (on = who ∨ who ∈ wayL (mOf l) (mOf l).length on)) (hf : ¬ l.length = 256) : okJ (l ++ [(on, who)]) := by
  obtain ⟨h1, h2, h3⟩ := h
  have hn := aget_no hs
  refine ⟨⟨fun x hx => ?_, ?_⟩, by rw [List.length_append, List.length_singleton]; omega, ?_⟩
  · rcases List.mem_append.1 hx with hx | hx
    · exact h1.1 x hx
    · simp only [List.mem_singleton] at hx; subst hx; exact ⟨by omega, by omega⟩
  · rw [List.map_append, List.nodup_append]
    refine ⟨h1.2, by simp, fun a ha b hb => ?_⟩
    simp only [List.map_cons, List.map_nil, List.mem_singleton] at hb
    subst hb
    rintro rfl
    exact hn ha
  rw [free_acy] at h3 ⊢
  have ha := aget_push (on := on) hn
  -- a way that meets 'who' goes on at 'on'
  have key : ∀ n a b, it (mOf (l ++ [(on, who)])) n a = some b → it (mOf l) n a = some b ∨ ∃ i, i < n ∧ it (mOf l) i a = some who := by
    intro n
    induction n with
    | zero => exact fun a b h => .inl h
    | succ n ih =>
      intro a b hb
      simp only [it] at hb ⊢
      rw [ha] at hb
      by_cases e : a = who
      · subst e; exact .inr ⟨0, by omega, rfl⟩
      · rw [if_neg e] at hb
        cases hv : aget a (mOf l) with
        | none => rw [hv] at hb; cases hb
        | some v =>
          rw [hv] at hb
          rcases ih v b hb with h | ⟨i, g1, g2⟩
          · exact .inl h
          · exact .inr ⟨i + 1, by omega, by simp [it, hv, g2]⟩
  have hon : ∀ i, it (mOf l) i on ≠ some who := by
    intro i hi
    cases i with
    | zero => simp [it] at hi; exact hr (.inl hi)
    | succ i =>
      by_cases hle : i + 1 ≤ (mOf l).length
      · exact hr (.inr (mem_way.2 ⟨i + 1, by omega, hle, hi⟩))
      · obtain ⟨c, hc⟩ := it_prev hi (show (mOf l).length + 1 ≤ i + 1 by omega)
        rw [acy_end h3] at hc; cases hc
  have hon2 : ∀ n b, it (mOf (l ++ [(on, who)])) n on = some b → it (mOf l) n on = some b := by
    intro n b hb
    rcases key n on b hb with h | ⟨i, _, g2⟩
    · exact h
    · exact absurd g2 (hon i)
  have hwho : ∀ n, 1 ≤ n → it (mOf (l ++ [(on, who)])) n who ≠ some who := by
    intro n hn1 hc
    obtain ⟨d, rfl⟩ : ∃ d, n = d + 1 := ⟨n - 1, by omega⟩
    simp only [it] at hc
    rw [ha, if_pos rfl] at hc
    exact hon d (hon2 d who hc)
  intro a n hn1 hc
  -- if the ring comes by 'who', 'who' waits for itself
  rcases key n a a hc with h | ⟨i, g1, g2⟩
  · exact h3 a n hn1 h
  · -- the first time that it comes by
    have low : ∀ i c, it (mOf l) i c = some who → ∃ j, j ≤ i ∧ it (mOf (l ++ [(on, who)])) j c = some who := by
      intro i
      induction i with
      | zero => exact fun c h => ⟨0, by omega, h⟩
      | succ i ih =>
        intro c h
        by_cases e : c = who
        · subst e; exact ⟨0, by omega, rfl⟩
        · simp only [it] at h
          cases hv : aget c (mOf l) with
          | none => rw [hv] at h; cases h
          | some v =>
            rw [hv] at h
            obtain ⟨j, k1, k2⟩ := ih v h
            exact ⟨j + 1, by omega, by simp [it, ha, e, hv, k2]⟩
    obtain ⟨j, k1, k2⟩ := low i a g2
    -- from 'who' on it comes back to 'who' in n steps
    have e1 : it (mOf (l ++ [(on, who)])) (n - j) who = some a := by
      have := it_add (mOf (l ++ [(on, who)])) j (n - j) a
      rw [show j + (n - j) = n by omega, hc, k2, Option.bind_some] at this
      exact this.symm
    have e2 : it (mOf (l ++ [(on, who)])) ((n - j) + j) who = some who := by rw [it_add, e1, Option.bind_some, k2]
    rw [show n - j + j = n by omega] at e2
    exact hwho n hn1 e2
end Go.Proofs.Ytoppnepjemhckaa
