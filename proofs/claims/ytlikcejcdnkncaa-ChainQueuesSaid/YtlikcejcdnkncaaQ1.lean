/- Chapter 06: chains, in plain words. -/
import Derived.Test.YtlikcejcdnkncaaTy
set_option linter.unusedSimpArgs false
set_option linter.unusedVariables false
namespace Go.Proofs.Ytlikcejcdnkncaa
open Go.Lw
attribute [local irreducible] LK LOps LW
abbrev vi (a : Int) : LV := .pv (.sc (.int .i64 a))
abbrev vb (a : Bool) : LV := .pv (.sc (.bool a))
abbrev vu (a : Int) : LV := .pv (.sc (.int .u64 a))
abbrev sI (l : List Int) : LV := sF 1 (cI .i64) l
abbrev nil0 : LV := .pv (.sc (.slice none 0 0))
/-- Chains: each node's next one, each list's first, and last one. -/
abbrev cv (n h t : List Int) : LV := .agg [sI n, sI h, sI t]
/-- From one place on through these nodes one comes to another place. -/
def pathTo (n : List Int) : Int → List Nat → Int → Prop
  | a, [], b => a = b
  | a, x :: p, b => a = x ∧ ∃ y, n[x]? = some y ∧ pathTo n y p b
theorem pathTo_snoc {n : List Int} : ∀ {p : List Nat} {a b : Int} {x : Nat} {y : Int}, pathTo n a p b → b = x → n[x]? = some y → pathTo n a (p ++ [x]) y
  | [], a, b, x, y, h, hb, hy => ⟨h.trans hb, y, hy, rfl⟩
  | z :: p, a, b, x, y, ⟨h1, u, h2, h3⟩, hb, hy => ⟨h1, u, h2, pathTo_snoc h3 hb hy⟩
theorem pathTo_append {n : List Int} : ∀ {p q : List Nat} {a c : Int}, pathTo n a (p ++ q) c ↔ ∃ b, pathTo n a p b ∧ pathTo n b q c
  | [], q, a, c => by simp [pathTo]
  | x :: p, q, a, c => by
    simp only [List.cons_append, pathTo]
    constructor
    · rintro ⟨h1, y, h2, h3⟩
      obtain ⟨b, h4, h5⟩ := pathTo_append.1 h3
      exact ⟨b, ⟨h1, y, h2, h4⟩, h5⟩
    · rintro ⟨b, ⟨h1, y, h2, h4⟩, h5⟩
      exact ⟨h1, y, h2, pathTo_append.2 ⟨b, h4, h5⟩⟩
theorem pathTo_split {n : List Int} : ∀ {p q : List Nat} {a b : Int}, pathTo n a p b → pathTo n a q (-1) → ∃ r, q = p ++ r ∧ pathTo n b r (-1)
  | [], q, a, b, h, hq => ⟨q, rfl, by obtain rfl : a = b := h; exact hq⟩
  | x :: p, [], a, b, h, hq => by
    obtain ⟨h1, _⟩ := h
    have : a = -1 := hq
    omega
  | x :: p, z :: q, a, b, ⟨h1, y, h2, h3⟩, ⟨g1, u, g2, g3⟩ => by
    obtain rfl : x = z := by omega
    rw [h2] at g2
    obtain rfl := Option.some.inj g2
    obtain ⟨r, e, hr⟩ := pathTo_split h3 g3
    exact ⟨r, by rw [e]; rfl, hr⟩
theorem pathTo_unique {n : List Int} {p q : List Nat} {a : Int} (h : pathTo n a p (-1)) (g : pathTo n a q (-1)) : p = q := by
  obtain ⟨r, e, hr⟩ := pathTo_split h g
  cases r with
  | nil => rw [e]; simp
  | cons x r => obtain ⟨h1, _⟩ := hr; omega
theorem pathTo_lt {n : List Int} : ∀ {p : List Nat} {a b : Int}, pathTo n a p b → ∀ x ∈ p, x < n.length
  | [], a, b, h, x, hx => by simp at hx
  | z :: p, a, b, ⟨h1, y, h2, h3⟩, x, hx => by
    rcases List.mem_cons.1 hx with rfl | hx
    · exact lt_of_get h2
    · exact pathTo_lt h3 x hx
/-- The last one. -/
def lastI (p : List Nat) : Int := match p.getLast? with | some x => (x : Int) | none => -1
theorem lastI_snoc (p : List Nat) (x : Nat) : lastI (p ++ [x]) = x := by simp [lastI]
theorem lastI_nil : lastI [] = -1 := rfl
/-- These are a chain's lists. -/
structure Rep (n h t : List Int) (Q : List (List Nat)) : Prop where
  lh : h.length = Q.length
  lt : t.length = Q.length
  path : ∀ (i : Nat) (q : List Nat) (a : Int), Q[i]? = some q → h[i]? = some a → pathTo n a q (-1)
  tail : ∀ (i : Nat) (q : List Nat) (b : Int), Q[i]? = some q → t[i]? = some b → b = lastI q
  nodup : Q.flatten.Nodup
  out : ∀ (x : Nat) (y : Int), n[x]? = some y → x ∉ Q.flatten → y = -2
def okB (n h t : List Int) : Prop := n.length ≤ 1024 ∧ 1 ≤ h.length ∧ h.length ≤ 256 ∧ t.length = h.length
def okC (n h t : List Int) : Prop := okB n h t ∧ ∃ Q, Rep n h t Q
open Classical in
noncomputable def chk (n h t : List Int) : Int := if okC n h t then 0 else 1
theorem chk_ok {n h t} (g : okC n h t) : chk n h t = 0 := if_pos g
theorem chk_no {n h t} (g : ¬ okC n h t) : chk n h t = 1 := if_neg g
/-- Whether nodes have been met. -/
def metB (len : Nat) (S : List Nat) : List Bool := (List.range len).map fun x => decide (x ∈ S)
theorem metB_len (len : Nat) (S : List Nat) : (metB len S).length = len := by simp [metB]
theorem metB_get {len : Nat} {S : List Nat} {x : Nat} (h : x < len) : (metB len S)[x]? = some (decide (x ∈ S)) := by simp [metB, h]
theorem metB_set (len : Nat) (S : List Nat) (x : Nat) : (metB len S).set x true = metB len (S ++ [x]) := by
  apply List.ext_getElem?
  intro j
  rw [List.getElem?_set]
  by_cases hj : j < len
  · rw [metB_get hj]
    by_cases e : x = j
    · subst e; rw [if_pos rfl, if_pos (by rw [metB_len]; exact hj), metB_get hj]; simp
    · rw [if_neg e, metB_get hj]
      have : (j ∈ S ++ [x]) ↔ j ∈ S := by simp [Ne.symm e]
      simp [this]
  · have e1 : (metB len S)[j]? = none := by rw [List.getElem?_eq_none]; rw [metB_len]; omega
    have e2 : (metB len (S ++ [x]))[j]? = none := by rw [List.getElem?_eq_none]; rw [metB_len]; omega
    rw [e1, e2]
    split
    · rename_i e; subst e; rw [if_neg (by rw [metB_len]; omega)]
    · rfl
theorem metB_nil (len : Nat) : List.replicate len false = metB len [] := by
  apply List.ext_getElem?
  intro j
  by_cases hj : j < len
  · rw [metB_get hj]; simp [hj]
  · rw [List.getElem?_eq_none (by simp; omega), List.getElem?_eq_none (by rw [metB_len]; omega)]
/-- Different numbers below a bound are no more than it. -/
theorem pigeon : ∀ {len : Nat} {S : List Nat}, S.Nodup → (∀ x ∈ S, x < len) → S.length ≤ len
  | 0, S, _, hl => by
    cases S with
    | nil => simp
    | cons x S => exact absurd (hl x (by simp)) (Nat.not_lt_zero _)
  | len + 1, S, h, hl => by
    by_cases hm : len ∈ S
    · have h1 := pigeon (len := len) (S := S.erase len) (h.erase len) fun x hx => by
        obtain ⟨g1, g2⟩ := (h.mem_erase_iff).1 hx
        have := hl x g2
        omega
      rw [List.length_erase_of_mem hm] at h1
      omega
    · have h1 := pigeon (len := len) (S := S) h fun x hx => by
        have := hl x hx
        have : x ≠ len := fun e => hm (e ▸ hx)
        omega
      omega
/-- The first i lists are these. -/
structure Upto (n h t : List Int) (i : Nat) (Q : List (List Nat)) : Prop where
  len : Q.length = i
  path : ∀ (j : Nat) (q : List Nat) (a : Int), Q[j]? = some q → h[j]? = some a → pathTo n a q (-1)
  tail : ∀ (j : Nat) (q : List Nat) (b : Int), Q[j]? = some q → t[j]? = some b → b = lastI q
  nodup : Q.flatten.Nodup
  lt : ∀ x ∈ Q.flatten, x < n.length
theorem Upto.zero (n h t : List Int) : Upto n h t 0 [] := ⟨rfl, by simp, by simp, by simp, by simp⟩
theorem Upto.step {n h t : List Int} {i : Nat} {Q : List (List Nat)} (u : Upto n h t i Q) {p : List Nat} {a b : Int} (ha : h[i]? = some a) (hb : t[i]? = some b) (hp : pathTo n a p (-1)) (hbl : b = lastI p) (hn : (Q.flatten ++ p).Nodup) : Upto n h t (i + 1) (Q ++ [p]) := by
  have hlt := pathTo_lt hp
  refine ⟨by simp [u.len], fun j q a' hq ha' => ?_, fun j q b' hq hb' => ?_, by simpa using hn, fun x hx => ?_⟩
  · rcases Nat.lt_or_ge j Q.length with hj | hj
    · rw [List.getElem?_append_left hj] at hq; exact u.path j q a' hq ha'
    · rw [List.getElem?_append_right hj] at hq
      have : j = i := by
        have h1 := lt_of_get hq
        have h2 := u.len
        simp only [List.length_singleton] at h1
        omega
      subst this
      rw [ha] at ha'; obtain rfl := Option.some.inj ha'
      simp [u.len] at hq; subst hq; exact hp
  · rcases Nat.lt_or_ge j Q.length with hj | hj
    · rw [List.getElem?_append_left hj] at hq; exact u.tail j q b' hq hb'
    · rw [List.getElem?_append_right hj] at hq
      have : j = i := by
        have h1 := lt_of_get hq
        have h2 := u.len
        simp only [List.length_singleton] at h1
        omega
      subst this
      rw [hb] at hb'; obtain rfl := Option.some.inj hb'
      simp [u.len] at hq; subst hq; exact hbl
  · simp only [List.flatten_append, List.flatten_cons, List.flatten_nil, List.append_nil, List.mem_append] at hx
    rcases hx with hx | hx
    · exact u.lt x hx
    · exact hlt x hx
/-- The lists of chains that may be begin with those found so far. -/
theorem Upto.prefix {n h t : List Int} {i : Nat} {Q R : List (List Nat)} (u : Upto n h t i Q) (r : Rep n h t R) (hi : i ≤ h.length) : R.take i = Q := by
  apply List.ext_getElem?
  intro j
  rcases Nat.lt_or_ge j i with hj | hj
  · rw [List.getElem?_take_of_lt hj]
    obtain ⟨q, hq⟩ := idx_all (show j < Q.length by rw [u.len]; exact hj)
    obtain ⟨q', hq'⟩ := idx_all (show j < R.length by rw [← r.lh]; omega)
    obtain ⟨a, ha⟩ := idx_all (show j < h.length by omega)
    rw [hq, hq', pathTo_unique (u.path j q a hq ha) (r.path j q' a hq' ha)]
  · rw [List.getElem?_eq_none (by rw [List.length_take]; omega), List.getElem?_eq_none (by rw [u.len]; omega)]
theorem split_at {R Q : List (List Nat)} {i : Nat} {q : List Nat} (h : R.take i = Q) (hq : R[i]? = some q) : R = Q ++ q :: R.drop (i + 1) := by
  rw [← h]
  obtain ⟨h1, h2⟩ := List.getElem?_eq_some_iff.1 hq
  rw [← h2]; simp
/-- What is met twice may not be. -/
theorem no_dup {n h t : List Int} {i : Nat} {Q : List (List Nat)} {p : List Nat} {a : Int} {x : Nat} (u : Upto n h t i Q) (ha : h[i]? = some a) (hp : pathTo n a p x) (hx : x ∈ Q.flatten ++ p) : ¬ okC n h t := by
  rintro ⟨_, R, r⟩
  have hi := lt_of_get ha
  obtain ⟨q, hq⟩ := idx_all (show i < R.length by rw [← r.lh]; exact hi)
  have hs := split_at (u.prefix r (by omega)) hq
  obtain ⟨rest, e, hr⟩ := pathTo_split hp (r.path i q a hq ha)
  have hnd := r.nodup
  rw [hs, e] at hnd
  cases rest with
  | nil => have : (x : Int) = -1 := hr; omega
  | cons z rest =>
    obtain ⟨h1, _⟩ := hr
    obtain rfl : x = z := by omega
    simp only [List.flatten_append, List.flatten_cons, List.append_assoc] at hnd
    rw [← List.append_assoc] at hnd
    exact (List.nodup_append.1 hnd).2.2 x hx x (by simp) rfl
/-- What ends elsewhere may not be. -/
theorem no_end {n h t : List Int} {i : Nat} {Q : List (List Nat)} {p : List Nat} {a b c : Int} (u : Upto n h t i Q) (ha : h[i]? = some a) (hb : t[i]? = some b) (hp : pathTo n a p c) (hc : c < 0 ∨ (n.length : Int) ≤ c) (hx : c ≠ -1 ∨ b ≠ lastI p) : ¬ okC n h t := by
  rintro ⟨_, R, r⟩
  have hi := lt_of_get ha
  obtain ⟨q, hq⟩ := idx_all (show i < R.length by rw [← r.lh]; exact hi)
  obtain ⟨rest, e, hr⟩ := pathTo_split hp (r.path i q a hq ha)
  cases rest with
  | nil =>
    have h1 : c = -1 := hr
    have h2 := r.tail i q b hq hb
    rw [e, List.append_nil] at h2
    rcases hx with hx | hx
    · exact hx h1
    · exact hx h2
  | cons z rest =>
    obtain ⟨h1, y, h2, _⟩ := hr
    have := lt_of_get h2
    omega
theorem no_out {n h t : List Int} {Q : List (List Nat)} {x : Nat} {y : Int} (u : Upto n h t h.length Q) (hx : x ∉ Q.flatten) (hy : n[x]? = some y) (h2 : y ≠ -2) : ¬ okC n h t := by
  rintro ⟨_, R, r⟩
  have hp := u.prefix r (Nat.le_refl _)
  rw [List.take_of_length_le (by rw [r.lh]; exact Nat.le_refl _)] at hp
  subst hp
  exact h2 (r.out x y hy hx)
theorem yes_ok {n h t : List Int} {Q : List (List Nat)} (b : okB n h t) (u : Upto n h t h.length Q) (ho : ∀ (x : Nat) (y : Int), n[x]? = some y → x ∉ Q.flatten → y = -2) : okC n h t :=
  ⟨b, Q, ⟨u.len.symm, b.2.2.2.trans u.len.symm, u.path, u.tail, u.nodup, ho⟩⟩
end Go.Proofs.Ytlikcejcdnkncaa
