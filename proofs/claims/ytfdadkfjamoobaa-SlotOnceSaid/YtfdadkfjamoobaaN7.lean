/- Chapter 05: what a run of takings and freeings keeps, in plain words. -/
import Derived.Test.YtfdadkfjamoobaaN6
set_option linter.unusedSimpArgs false
set_option linter.unusedVariables false
namespace Go.Proofs.Ytfdadkfjamoobaa
open Go.Lw
attribute [local irreducible] LK LOps LW
def LiveAt (g : List Int) (l : List Bool) (id : Int) : Prop := ∃ (x : Int) (i : Nat), i < 256 ∧ 0 ≤ x ∧ id = x * 256 + i ∧ g[i]? = some x ∧ l[i]? = some true
def Was (g : List Int) (l : List Bool) (id : Int) : Prop := ∃ (x : Int) (i : Nat) (y : Int) (b : Bool), i < 256 ∧ 0 ≤ x ∧ id = x * 256 + i ∧ g[i]? = some y ∧ l[i]? = some b ∧ (x < y ∨ (x = y ∧ b = true))
def cnt : List Bool → Nat
  | [] => 0
  | b :: l => (if b = true then 1 else 0) + cnt l
theorem cnt_take : ∀ {l : List Bool} {k : Nat}, l[k]? = some false → cnt (l.set k true) = cnt l + 1
  | [], k, h => by simp at h
  | b :: l, 0, h => by
    obtain rfl : b = false := by simpa using h
    simp [cnt]; omega
  | b :: l, k + 1, h => by
    have := cnt_take (l := l) (k := k) (by simpa using h)
    simp [cnt, this]; omega
theorem cnt_free : ∀ {l : List Bool} {k : Nat}, l[k]? = some true → cnt (l.set k false) + 1 = cnt l
  | [], k, h => by simp at h
  | b :: l, 0, h => by
    obtain rfl : b = true := by simpa using h
    simp [cnt]; omega
  | b :: l, k + 1, h => by
    have := cnt_free (l := l) (k := k) (by simpa using h)
    simp [cnt]; omega
theorem cnt_le : ∀ l : List Bool, cnt l ≤ l.length
  | [] => Nat.le_refl _
  | b :: l => by have := cnt_le l; simp only [cnt, List.length_cons]; split <;> omega
theorem cnt_all : ∀ {l : List Bool}, (∀ (j : Nat) (b : Bool), l[j]? = some b → b = true) → cnt l = l.length
  | [], h => rfl
  | b :: l, h => by
    have h1 := h 0 b rfl
    have := cnt_all (l := l) fun j c hc => h (j + 1) c (by simpa using hc)
    simp [cnt, h1, this]; omega
theorem cnt_none : ∀ n : Nat, cnt (List.replicate n false) = 0
  | 0 => rfl
  | n + 1 => by rw [List.replicate_succ, cnt, cnt_none n]; rfl
theorem cnt_up : ∀ (l : List Bool) (k : Nat) (b : Bool), l[k]? = some b → cnt (l.take (k + 1)) = cnt (l.take k) + (if b = true then 1 else 0)
  | [], k, b, h => by simp at h
  | c :: l, 0, b, h => by
    obtain rfl : c = b := by simpa using h
    simp [cnt]
  | c :: l, k + 1, b, h => by
    have := cnt_up l k b (by simpa using h)
    rw [List.take_succ_cons, List.take_succ_cons, cnt, cnt, this]; omega
theorem ids_cnt {g : List Int} {l : List Bool} (hl : l.length = g.length) : ∀ k, k ≤ g.length → (idsUp g l k).length = cnt (l.take k)
  | 0, _ => by simp [idsUp, cnt]
  | k + 1, h => by
    obtain ⟨x, hx⟩ := idx_all (show k < g.length by omega)
    obtain ⟨b, hb⟩ := idx_all (show k < l.length by omega)
    have ih := ids_cnt hl k (by omega)
    rw [cnt_up l k b hb]
    cases b with
    | true => rw [idsUp_yes hx hb, List.length_append, ih]; simp
    | false => rw [idsUp_no hb, ih]; simp
theorem ids_live {g : List Int} {l : List Bool} (h : okP g l) : ∀ k, k ≤ g.length → ∀ id ∈ idsUp g l k, LiveAt g l id
  | 0, _, id, hi => by simp [idsUp] at hi
  | k + 1, hk, id, hi => by
    obtain ⟨x, hx⟩ := idx_all (show k < g.length by omega)
    obtain ⟨b, hb⟩ := idx_all (show k < l.length by have := h.2.2.1; omega)
    have ih := ids_live h k (by omega)
    cases b with
    | true =>
      rw [idsUp_yes hx hb, List.mem_append, List.mem_singleton] at hi
      rcases hi with hi | rfl
      · exact ih id hi
      · exact ⟨x, k, by have := h.2.1; omega, (okP_el h hx hb).1, rfl, hx, hb⟩
    | false => rw [idsUp_no hb] at hi; exact ih id hi
theorem id_uniq {x y : Int} {i j : Nat} (hi : i < 256) (hj : j < 256) (h : x * 256 + (i : Int) = y * 256 + j) : x = y ∧ i = j := by omega
theorem fi_mk {g : List Int} {l : List Bool} (h : okP g l) {x y : Int} {i : Nat} {b : Bool} (hi : i < 256) (h0 : 0 ≤ x) (hx : g[i]? = some y) (hb : l[i]? = some b) : fiE g l (x * 256 + i) = if y < x then 5 else if x < y then 8 else if b = true then 0 else 5 := by
  have e1 : (x * 256 + (i : Int)) / 256 = x := by omega
  have e2 : (x * 256 + (i : Int)) % 256 = i := by omega
  rw [fiE, chk_ok h, if_neg (show ¬ ((0 : Int) = 1 ∨ x * 256 + (i : Int) < 0) by omega), e1, e2, Int.toNat_natCast, hx, hb]
theorem fi_live {g : List Int} {l : List Bool} (h : okP g l) {id : Int} (hl : LiveAt g l id) : fiE g l id = 0 := by
  obtain ⟨x, i, h1, h2, rfl, h3, h4⟩ := hl
  rw [fi_mk h h1 h2 h3 h4, if_neg (by omega), if_neg (by omega), if_pos rfl]
theorem fi_live' {g : List Int} {l : List Bool} {id : Int} (h : fiE g l id = 0) : LiveAt g l id := by
  obtain ⟨_, x, i, h1, h2, h3, _, _, h4, h5⟩ := fi_inv h
  exact ⟨x, i, h1, h2, h3, h4, h5⟩
theorem fi_was {g : List Int} {l : List Bool} (h : okP g l) {id : Int} (hl : Was g l id) (hn : ¬ LiveAt g l id) : fiE g l id = 8 := by
  obtain ⟨x, i, y, b, h1, h2, rfl, h3, h4, h5⟩ := hl
  rw [fi_mk h h1 h2 h3 h4]
  rcases h5 with h5 | ⟨rfl, rfl⟩
  · rw [if_neg (by omega), if_pos h5]
  · exact absurd ⟨x, i, h1, h2, rfl, h3, h4⟩ hn
theorem get_set {α : Type} {l : List α} {k j : Nat} {v w : α} (h : (l.set k v)[j]? = some w) : (k = j ∧ w = v) ∨ (k ≠ j ∧ l[j]? = some w) := by
  by_cases e : k = j
  · subst e
    have hk : k < l.length := by have := lt_of_get h; simpa using this
    rw [List.getElem?_set_self hk] at h
    exact .inl ⟨rfl, (Option.some.inj h).symm⟩
  · rw [List.getElem?_set_ne e] at h
    exact .inr ⟨e, h⟩
theorem set_get {α : Type} {l : List α} {k : Nat} {v w : α} (h : l[k]? = some w) : (l.set k v)[k]? = some v := List.getElem?_set_self (lt_of_get h)
section
variable {g : List Int} {l : List Bool} {k : Nat} {x : Int}
theorem take_okP (h : okP g l) (hx : g[k]? = some x) (hl : l[k]? = some false) (hne : x ≠ 1099511627776) : okP g (l.set k true) := by
  refine okP_mk h.1 h.2.1 (by rw [List.length_set]; exact h.2.2.1) fun i y b hy hb => ?_
  rcases get_set hb with ⟨rfl, rfl⟩ | ⟨_, hb⟩
  · rw [hx] at hy
    obtain rfl := Option.some.inj hy
    have := okP_el h hx hl
    simp [most] at this ⊢
    omega
  · exact okP_el h hy hb
theorem take_live (h : okP g l) (hx : g[k]? = some x) (hl : l[k]? = some false) (id : Int) : LiveAt g (l.set k true) id ↔ id = x * 256 + k ∨ LiveAt g l id := by
  have hk : k < 256 := by have := lt_of_get hx; have := h.2.1; omega
  constructor
  · rintro ⟨z, i, h1, h2, h3, h4, h5⟩
    rcases get_set h5 with ⟨rfl, _⟩ | ⟨_, hb⟩
    · rw [hx] at h4
      obtain rfl := Option.some.inj h4
      exact .inl h3
    · exact .inr ⟨z, i, h1, h2, h3, h4, hb⟩
  · rintro (rfl | ⟨z, i, h1, h2, h3, h4, h5⟩)
    · exact ⟨x, k, hk, (okP_el h hx hl).1, rfl, hx, set_get hl⟩
    · refine ⟨z, i, h1, h2, h3, h4, ?_⟩
      by_cases e : k = i
      · subst e; rw [hl] at h5; cases h5
      · rw [List.getElem?_set_ne e]; exact h5
theorem take_was (hl : l[k]? = some false) {id : Int} (hw : Was g l id) : Was g (l.set k true) id := by
  obtain ⟨z, i, y, b, h1, h2, h3, h4, h5, h6⟩ := hw
  by_cases e : k = i
  · subst e
    rw [hl] at h5
    obtain rfl := Option.some.inj h5
    exact ⟨z, k, y, true, h1, h2, h3, h4, set_get hl, h6.imp (fun h => h) fun h => ⟨h.1, rfl⟩⟩
  · exact ⟨z, i, y, b, h1, h2, h3, h4, by rw [List.getElem?_set_ne e]; exact h5, h6⟩
theorem live_was {id : Int} (h : LiveAt g l id) : Was g l id := by
  obtain ⟨z, i, h1, h2, h3, h4, h5⟩ := h
  exact ⟨z, i, z, true, h1, h2, h3, h4, h5, .inr ⟨rfl, rfl⟩⟩
theorem take_new (h : okP g l) (hx : g[k]? = some x) (hl : l[k]? = some false) : ¬ Was g l (x * 256 + k) := by
  have hk : k < 256 := by have := lt_of_get hx; have := h.2.1; omega
  rintro ⟨z, i, y, b, h1, h2, h3, h4, h5, h6⟩
  obtain ⟨rfl, rfl⟩ := id_uniq hk h1 h3
  rw [hx] at h4; rw [hl] at h5
  obtain rfl := Option.some.inj h4
  obtain rfl := Option.some.inj h5
  rcases h6 with h6 | ⟨_, h6⟩
  · omega
  · cases h6
theorem free_okP (h : okP g l) (hx : g[k]? = some x) (hl : l[k]? = some true) : okP (g.set k (x + 1)) (l.set k false) := by
  refine okP_mk (by rw [List.length_set]; exact h.1) (by rw [List.length_set]; exact h.2.1) (by rw [List.length_set, List.length_set]; exact h.2.2.1) fun i y b hy hb => ?_
  rcases get_set hb with ⟨rfl, rfl⟩ | ⟨e, hb⟩
  · rw [set_get hx] at hy
    obtain rfl := Option.some.inj hy
    have := okP_el h hx hl
    simp [most] at this ⊢
    omega
  · rw [List.getElem?_set_ne e] at hy
    exact okP_el h hy hb
theorem free_live (h : okP g l) (hx : g[k]? = some x) (hl : l[k]? = some true) (id : Int) : LiveAt (g.set k (x + 1)) (l.set k false) id ↔ id ≠ x * 256 + k ∧ LiveAt g l id := by
  have hk : k < 256 := by have := lt_of_get hx; have := h.2.1; omega
  constructor
  · rintro ⟨z, i, h1, h2, h3, h4, h5⟩
    rcases get_set h5 with ⟨rfl, h⟩ | ⟨e, hb⟩
    · cases h
    · rw [List.getElem?_set_ne e] at h4
      exact ⟨fun hh => e (id_uniq h1 hk (h3.symm.trans hh)).2.symm, z, i, h1, h2, h3, h4, hb⟩
  · rintro ⟨hne, z, i, h1, h2, h3, h4, h5⟩
    have e : k ≠ i := by
      rintro rfl
      rw [hx] at h4
      obtain rfl := Option.some.inj h4
      exact hne h3
    exact ⟨z, i, h1, h2, h3, by rw [List.getElem?_set_ne e]; exact h4, by rw [List.getElem?_set_ne e]; exact h5⟩
theorem free_was (hx : g[k]? = some x) (hl : l[k]? = some true) {id : Int} (hw : Was g l id) : Was (g.set k (x + 1)) (l.set k false) id := by
  obtain ⟨z, i, y, b, h1, h2, h3, h4, h5, h6⟩ := hw
  by_cases e : k = i
  · subst e
    rw [hx] at h4
    obtain rfl := Option.some.inj h4
    exact ⟨z, k, x + 1, false, h1, h2, h3, set_get hx, set_get hl, .inl (by omega)⟩
  · exact ⟨z, i, y, b, h1, h2, h3, by rw [List.getElem?_set_ne e]; exact h4, by rw [List.getElem?_set_ne e]; exact h5, h6⟩
end
/-- What holds after so many steps. -/
structure Inv (n k : Nat) (g : List Int) (l : List Bool) (G E : List (Int × Bool)) (A : List Int) (h : Nat) : Prop where
  ok : okP g l
  len : g.length = n
  gen : ∀ (i : Nat) (x : Int), g[i]? = some x → x ≤ k
  giv : ∀ id, mb G id = true ↔ LiveAt g l id
  ev : ∀ id, mb E id = true → Was g l id
  al : ∀ id ∈ A, Was g l id
  her : h = cnt l
  alen : A.length ≤ k
theorem Inv.more {n k : Nat} {g l G E A h} (H : Inv n k g l G E A h) : Inv n (k + 1) g l G E A h :=
  ⟨H.ok, H.len, fun i x hx => by have := H.gen i x hx; omega, H.giv, H.ev, H.al, H.her, by have := H.alen; omega⟩
theorem Inv.take {n k j : Nat} {g l G E A h} {x : Int} (H : Inv n k g l G E A h) (hx : g[j]? = some x) (hl : l[j]? = some false) (hne : x ≠ 1099511627776) : Inv n (k + 1) g (l.set j true) (aput (x * 256 + j) true G) (aput (x * 256 + j) true E) (A ++ [x * 256 + j]) (h + 1) := by
  have hlive := take_live H.ok hx hl
  refine ⟨take_okP H.ok hx hl hne, H.len, fun i y hy => by have := H.gen i y hy; omega, fun id => ?_, fun id hid => ?_, fun id hid => ?_, by rw [cnt_take hl, H.her], by have := H.alen; simp; omega⟩
  · rw [mb_aput, hlive id, ← H.giv id]
    by_cases e : id = x * 256 + j
    · simp [e]
    · simp [e]
  · rw [mb_aput] at hid
    by_cases e : id = x * 256 + j
    · exact live_was ((hlive id).2 (.inl e))
    · rw [if_neg e] at hid
      exact take_was hl (H.ev id hid)
  · rcases List.mem_append.1 hid with hid | hid
    · exact take_was hl (H.al id hid)
    · exact live_was ((hlive id).2 (.inl (List.mem_singleton.1 hid)))
theorem Inv.free {n k j : Nat} {g l G E A h} {x : Int} (H : Inv n k g l G E A (h + 1)) (hx : g[j]? = some x) (hl : l[j]? = some true) : Inv n (k + 1) (g.set j (x + 1)) (l.set j false) (aput (x * 256 + j) false G) E A h := by
  have hlive := free_live H.ok hx hl
  refine ⟨free_okP H.ok hx hl, by rw [List.length_set]; exact H.len, fun i y hy => ?_, fun id => ?_, fun id hid => free_was hx hl (H.ev id hid), fun id hid => free_was hx hl (H.al id hid), by have := cnt_free hl; have := H.her; omega, by have := H.alen; omega⟩
  · rcases get_set hy with ⟨rfl, rfl⟩ | ⟨_, hy⟩
    · have := H.gen j x hx; omega
    · have := H.gen i y hy; omega
  · rw [mb_aput, hlive id, ← H.giv id]
    by_cases e : id = x * 256 + j
    · simp [e]
    · simp [e]
theorem Inv.start (n : Nat) (h1 : 1 ≤ n) (h2 : n ≤ 256) : Inv n 0 (List.replicate n 0) (List.replicate n false) [] [] [] 0 := by
  have hr : ∀ (i : Nat) (x : Int), (List.replicate n (0 : Int))[i]? = some x → x = 0 := fun i x hx => List.eq_of_mem_replicate (List.mem_of_getElem? hx)
  have hs : ∀ (i : Nat) (x : Bool), (List.replicate n false)[i]? = some x → x = false := fun i x hx => List.eq_of_mem_replicate (List.mem_of_getElem? hx)
  refine ⟨okP_mk (by simpa using h1) (by simpa using h2) (by simp) fun i x b hx hb => ?_, by simp, fun i x hx => by have := hr i x hx; omega, fun id => ⟨fun h => by simp [mb, aget] at h, ?_⟩, fun id h => by simp [mb, aget] at h, fun id h => by simp at h, (cnt_none n).symm, Nat.le_refl _⟩
  · rw [hr i x hx, hs i b hb]; decide
  · rintro ⟨x, i, _, _, _, _, h⟩
    cases hs i true h
theorem Inv.full {n k : Nat} {g l G E A h} (H : Inv n k g l G E A h) (hk : k ≤ 1000) (hno : ∀ (j : Nat) (y : Int) (b : Bool), g[j]? = some y → l[j]? = some b → (!b && y != 1099511627776) = false) : h = n := by
  rw [H.her, cnt_all, H.ok.2.2.1, H.len]
  intro j b hb
  obtain ⟨y, hy⟩ := idx_all (show j < g.length by have := lt_of_get hb; have := H.ok.2.2.1; omega)
  have h1 := hno j y b hy hb
  have h2 := H.gen j y hy
  cases b with
  | true => rfl
  | false => simp at h1; omega
end Go.Proofs.Ytfdadkfjamoobaa
