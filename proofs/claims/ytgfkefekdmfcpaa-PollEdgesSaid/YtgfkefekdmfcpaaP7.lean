/- Chapter 09: what is done with one descriptor, in plain words. -/
import Derived.Test.YtgfkefekdmfcpaaP6
set_option linter.unusedSimpArgs false
set_option linter.unusedVariables false
namespace Go.Proofs.Ytgfkefekdmfcpaa
open Go.Lw
attribute [local irreducible] LK LOps LW
theorem okF_set {f : List Fd} {k : Nat} {x : Fd} (h : okF f) (ho : oddF x = false) (hx : x.who = -1 ∨ ∀ (j : Nat) (y : Fd), j ≠ k → f[j]? = some y → y.who ≠ x.who) : okF (f.set k x) := by
  obtain ⟨h1, h2, h3⟩ := h
  refine ⟨fun y hy => ?_, ?_, by simpa using h3⟩
  · rcases List.mem_or_eq_of_mem_set hy with hy | rfl
    · exact h1 y hy
    · exact ho
  · rw [List.pairwise_iff_getElem] at h2 ⊢
    intro i j hi hj hij
    rw [List.length_set] at hi hj
    simp only [List.getElem_set]
    have hb := h2 i j hi hj hij
    by_cases e1 : k = i
    · rw [if_pos e1, if_neg (by omega)]
      intro e
      rcases hx with hx | hx
      · rw [e, hx]
      · exact absurd e (hx j _ (by omega) (List.getElem?_eq_getElem hj))
    · rw [if_neg e1]
      by_cases e2 : k = j
      · rw [if_pos e2]
        intro e
        rcases hx with hx | hx
        · exact hx
        · exact absurd e.symm (hx i _ (by omega) (List.getElem?_eq_getElem hi))
      · rw [if_neg e2]; exact hb
theorem oddF_not {x : Fd} (h : oddF x = false) : -1 ≤ x.who ∧ (x.op = false → x = shutF) ∧ (x.rd = true → x.who = -1) := by
  rcases x with ⟨a, b, c⟩
  simp only [oddF, Bool.or_eq_false_iff, decide_eq_false_iff_not, Bool.and_eq_false_iff] at h
  obtain ⟨⟨h1, h2⟩, h3⟩ := h
  refine ⟨by show -1 ≤ c; omega, fun e => ?_, fun e => ?_⟩
  · simp only at e; subst e
    simp at h2
    simp [shutF, h2]
  · simp only at e; subst e
    simp at h3; exact h3
theorem okF_at {f : List Fd} (h : okF f) {k : Nat} {x : Fd} (hx : f[k]? = some x) : -1 ≤ x.who ∧ (x.op = false → x = shutF) ∧ (x.rd = true → x.who = -1) := oddF_not (h.1 x (List.mem_of_getElem? hx))
theorem inF_set {f : List Fd} {i : Int} {x : Fd} (h : inF f i) (ho : okF (f.set i.toNat x)) : inF (f.set i.toNat x) i := ⟨ho, h.2.1, by rw [List.length_set]; exact h.2.2⟩
theorem getF_set {f : List Fd} {i : Int} {x : Fd} (h : inF f i) : getF (f.set i.toNat x) i = x := by
  obtain ⟨k, rfl, hk, hx, _⟩ := inF_at h
  simp [getF, List.getD_eq_getElem?_getD, hk]
theorem set_getF {f : List Fd} {i : Int} (h : inF f i) : f.set i.toNat (getF f i) = f := by
  obtain ⟨k, rfl, hk, hx, _⟩ := inF_at h
  rw [Int.toNat_natCast]
  apply List.ext_getElem?
  intro j
  rw [List.getElem?_set]
  by_cases e : k = j
  · subst e; rw [if_pos rfl, if_pos hk, hx]
  · rw [if_neg e]
theorem open_ok {f : List Fd} {i : Int} (h : opE f i = 0) : inF f i ∧ (getF f i).op = false ∧ opL f i = f.set i.toNat openF ∧ getF f i = shutF ∧ okF (opL f i) := by
  have hi : inF f i := by unfold opE at h; split at h <;> simp_all
  have ho : (getF f i).op = false := by
    unfold opE at h
    rw [if_pos hi] at h
    cases e : (getF f i).op with
    | true => rw [e] at h; simp at h
    | false => rfl
  have hl : opL f i = f.set i.toNat openF := if_pos h
  obtain ⟨k, hk, _, hx, _⟩ := inF_at hi
  refine ⟨hi, ho, hl, (okF_at hi.1 hx).2.1 ho, ?_⟩
  rw [hl]; exact okF_set hi.1 (by decide) (.inl rfl)
theorem shut_ok {f : List Fd} {i : Int} (h : shE f i = 0) : inF f i ∧ (getF f i).op = true ∧ shL f i = f.set i.toNat shutF ∧ fiL f i = f.set i.toNat ⟨true, (getF f i).who == -1, -1⟩ ∧ shW f i = (getF f i).who ∧ okF (shL f i) ∧ okF (fiL f i) := by
  have hi : inF f i := by unfold shE at h; split at h <;> simp_all
  have ho : (getF f i).op = true := by
    unfold shE at h
    rw [if_pos hi] at h
    cases e : (getF f i).op with
    | true => rfl
    | false => rw [e] at h; simp at h
  have hl : shL f i = f.set i.toNat shutF := if_pos h
  have hf : fiL f i = f.set i.toNat ⟨true, (getF f i).who == -1, -1⟩ := if_pos h
  refine ⟨hi, ho, hl, hf, if_pos h, ?_, ?_⟩
  · rw [hl]; exact okF_set hi.1 (by decide) (.inl rfl)
  · rw [hf]; exact okF_set hi.1 (by cases (getF f i).who == -1 <;> decide) (.inl rfl)
theorem arm_ok {f : List Fd} {i id : Int} (h : arE f i id = 0) : inF f i ∧ 0 ≤ id ∧ (getF f i).op = true ∧ hasW f id = false ∧ (getF f i).who = -1 ∧ arL f i id = f.set i.toNat (armF (getF f i) id) ∧ arB f i id = (getF f i).rd ∧ okF (arL f i id) := by
  have hi : inF f i ∧ 0 ≤ id := by
    by_cases hc : inF f i ∧ 0 ≤ id
    · exact hc
    · rw [arE, if_neg hc] at h; cases h
  have h' := h
  rw [arE, if_pos hi] at h'
  have ho : (getF f i).op = true := by
    cases e : (getF f i).op with
    | true => rfl
    | false => rw [e] at h'; simp at h'
  rw [ho] at h'
  have hh : hasW f id = false := by
    cases e : hasW f id with
    | false => rfl
    | true => rw [e] at h'; simp at h'
  rw [hh] at h'
  have hw : (getF f i).who = -1 := by
    by_cases e : (getF f i).who = -1
    · exact e
    · simp [e] at h'
  have hl : arL f i id = f.set i.toNat (armF (getF f i) id) := if_pos h
  refine ⟨hi.1, hi.2, ho, hh, hw, hl, if_pos h, ?_⟩
  rw [hl]
  unfold armF
  split
  · exact okF_set hi.1.1 (by decide) (.inl rfl)
  · refine okF_set hi.1.1 ?_ (.inr fun j y _ hy e => ?_)
    · simp [oddF]; omega
    · rw [hasW, List.any_eq_false] at hh
      exact absurd (by simpa using e) (hh y (List.mem_of_getElem? hy))
theorem opL_len (f : List Fd) (i : Int) : (opL f i).length ≤ f.length := by unfold opL; split <;> simp
theorem shL_len (f : List Fd) (i : Int) : (shL f i).length ≤ f.length := by unfold shL; split <;> simp
theorem fiL_len (f : List Fd) (i : Int) : (fiL f i).length ≤ f.length := by unfold fiL; split <;> simp
theorem arL_len (f : List Fd) (i id : Int) : (arL f i id).length ≤ f.length := by unfold arL; split <;> simp
theorem drL_len (f : List Fd) (id : Int) : (drL f id).length ≤ f.length := by unfold drL; split <;> simp
/-- Opened, and shut. -/
theorem open_shut {f : List Fd} {i : Int} (h : opE f i = 0) : shE (opL f i) i = 0 ∧ shW (opL f i) i = -1 ∧ shL (opL f i) i = f := by
  obtain ⟨h1, h2, h3, h4, h5⟩ := open_ok h
  rw [h3] at h5 ⊢
  have hi := inF_set h1 h5
  have hg := getF_set (x := openF) h1
  have e : shE (f.set i.toNat openF) i = 0 := by rw [shE, if_pos hi, hg]; rfl
  refine ⟨e, by rw [shW, if_pos e, hg]; rfl, ?_⟩
  rw [shL, if_pos e, List.set_set, ← h4, set_getF h1]
theorem hasW_idxW {f : List Fd} {k : Nat} {x : Fd} (hx : f[k]? = some x) (h : ∀ (j : Nat) (y : Fd), j < k → f[j]? = some y → (y.who == x.who) = false) : hasW f x.who = true ∧ idxW f x.who = k :=
  ⟨List.any_eq_true.2 ⟨x, List.mem_of_getElem? hx, by simp⟩, idxW_at hx (by simp) h⟩
/-- Armed, and dropped, or fired. -/
theorem arm_back {f : List Fd} {i id : Int} (h : arE f i id = 0) (hb : arB f i id = false) : (drE (arL f i id) id = 0 ∧ drL (arL f i id) id = f) ∧ shE (arL f i id) i = 0 ∧ shW (arL f i id) i = id ∧ fiL (arL f i id) i = f := by
  obtain ⟨h1, h2, h3, h4, h5, h6, h7, h8⟩ := arm_ok h
  rw [h7] at hb
  have hx : armF (getF f i) id = ⟨true, false, id⟩ := by rw [armF, hb]; rfl
  rw [hx] at h6
  rw [h6] at h8 ⊢
  have hi := inF_set h1 h8
  have hg := getF_set (x := ⟨true, false, id⟩) h1
  have hop : getF f i = openF := by
    have : getF f i = ⟨(getF f i).op, (getF f i).rd, (getF f i).who⟩ := rfl
    rw [this, h3, hb, h5]; rfl
  have hback : f.set i.toNat openF = f := by rw [← hop, set_getF h1]
  obtain ⟨k, rfl, hk, hxk, _⟩ := inF_at h1
  rw [Int.toNat_natCast] at *
  have hk2 : (f.set k ⟨true, false, id⟩)[k]? = some ⟨true, false, id⟩ := by simp [hk]
  have hid : hasW (f.set k ⟨true, false, id⟩) id = true ∧ idxW (f.set k ⟨true, false, id⟩) id = k := by
    refine hasW_idxW hk2 fun j y hj hy => ?_
    rw [List.getElem?_set_ne (by omega)] at hy
    rw [hasW, List.any_eq_false] at h4
    simpa using h4 y (List.mem_of_getElem? hy)
  have e1 : drE (f.set k ⟨true, false, id⟩) id = 0 := by rw [drE, if_pos h8, if_pos ⟨hid.1, h2⟩]
  have e2 : shE (f.set k ⟨true, false, id⟩) k = 0 := by rw [shE, if_pos hi, hg]; rfl
  refine ⟨⟨e1, ?_⟩, e2, by rw [shW, if_pos e2, hg], ?_⟩
  · rw [drL, if_pos e1, hid.2, Int.toNat_natCast, List.set_set, hback]
  · rw [fiL, if_pos e2, hg, Int.toNat_natCast, List.set_set]
    have : (id == -1) = false := by rw [beq_eq_false_iff_ne]; omega
    rw [this]; exact hback
/-- Fired twice. -/
theorem fire_twice {f : List Fd} {i : Int} (h : shE f i = 0) (hw : shW f i = -1) : shE (fiL f i) i = 0 ∧ shW (fiL f i) i = -1 ∧ fiL (fiL f i) i = fiL f i := by
  obtain ⟨h1, h2, _, h4, h5, _, h7⟩ := shut_ok h
  rw [h5] at hw
  rw [hw] at h4
  rw [h4] at h7 ⊢
  have hi := inF_set h1 h7
  have hg := getF_set (x := ⟨true, (-1 : Int) == -1, -1⟩) h1
  have e : shE (f.set i.toNat ⟨true, (-1 : Int) == -1, -1⟩) i = 0 := by rw [shE, if_pos hi, hg]; rfl
  refine ⟨e, by rw [shW, if_pos e, hg], ?_⟩
  rw [fiL, if_pos e, hg, List.set_set]
end Go.Proofs.Ytgfkefekdmfcpaa
