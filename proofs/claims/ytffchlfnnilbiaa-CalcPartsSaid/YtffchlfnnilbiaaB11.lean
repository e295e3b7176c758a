/- Plain arithmetic of chapter 02. -/
import Derived.Test.YtffchlfnnilbiaaB9
set_option linter.unusedSimpArgs false
set_option linter.unusedVariables false
namespace Go.Proofs.Ytffchlfnnilbiaa
open Go.Lw
attribute [local irreducible] LK LOps LW
abbrev I64 (a : Int) : Prop := -9223372036854775808 ≤ a ∧ a ≤ 9223372036854775807
def addR (a b : Int) : Int × Int := if I64 (a + b) then (a + b, 0) else (0, 4)
def subR (a b : Int) : Int × Int := if I64 (a - b) then (a - b, 0) else (0, 4)
def mulR (a b : Int) : Int × Int := if I64 (a * b) then (a * b, 0) else (0, 4)
def cmpR (a b c d : Int) : Int × Int := if b < 1 ∨ d < 1 then (0, 1) else (ordV (a * d) (c * b), 0)

theorem sizeV_nonneg (a : Int) : 0 ≤ sizeV a := by unfold sizeV; split <;> omega
theorem size_mul (a b : Int) : sizeV a * sizeV b = if (decide (a < 0) != decide (b < 0)) = true then - (a * b) else a * b := by
  unfold sizeV
  by_cases ha : a < 0 <;> by_cases hb : b < 0 <;> simp [ha, hb, Int.neg_mul, Int.mul_neg]
theorem times_val (a b : Int) : (a * b = if minusV a b = true then - (hiV a b * 18446744073709551616 + loV a b) else hiV a b * 18446744073709551616 + loV a b) ∧ 0 ≤ loV a b ∧ loV a b < 18446744073709551616 ∧ 0 ≤ hiV a b ∧ (minusV a b = true → hiV a b ≠ 0 ∨ loV a b ≠ 0) := by
  have h0 := Int.mul_nonneg (sizeV_nonneg a) (sizeV_nonneg b)
  have hm := size_mul a b
  have e : hiV a b * 18446744073709551616 + loV a b = sizeV a * sizeV b := by unfold hiV loV; omega
  have l0 : 0 ≤ loV a b := by unfold loV; omega
  have l1 : loV a b < 18446744073709551616 := by unfold loV; omega
  have h1 : 0 ≤ hiV a b := by unfold hiV; omega
  refine ⟨?_, l0, l1, h1, ?_⟩
  · unfold minusV
    by_cases hd : (decide (a < 0) != decide (b < 0)) = true
    · rw [if_pos hd] at hm
      rw [hd, Bool.true_and]
      by_cases hz : (!(hiV a b == 0 && loV a b == 0)) = true
      · rw [if_pos hz]; omega
      · rw [if_neg hz]
        simp only [Bool.not_eq_true', Bool.and_eq_false_imp, beq_iff_eq, beq_eq_false_iff_ne, ne_eq, Classical.not_imp, Classical.not_not] at hz
        omega
    · rw [if_neg hd] at hm
      simp only [Bool.not_eq_true] at hd
      rw [hd, Bool.false_and, if_neg (by simp)]; omega
  · intro h
    unfold minusV at h
    simp only [Bool.and_eq_true, Bool.not_eq_true', Bool.and_eq_false_imp, beq_iff_eq, beq_eq_false_iff_ne] at h
    by_cases hz : hiV a b = 0
    · exact .inr (h.2 hz)
    · exact .inl hz
theorem wcmp_val (m1 : Bool) (h1 l1 : Int) (m2 : Bool) (h2 l2 v1 v2 : Int) (e1 : v1 = if m1 = true then - (h1 * 18446744073709551616 + l1) else h1 * 18446744073709551616 + l1) (e2 : v2 = if m2 = true then - (h2 * 18446744073709551616 + l2) else h2 * 18446744073709551616 + l2)
    (a1 : 0 ≤ l1 ∧ l1 < 18446744073709551616) (a2 : 0 ≤ l2 ∧ l2 < 18446744073709551616) (b1 : 0 ≤ h1) (b2 : 0 ≤ h2) (c1 : m1 = true → h1 ≠ 0 ∨ l1 ≠ 0) (c2 : m2 = true → h2 ≠ 0 ∨ l2 ≠ 0) : wcmpV m1 h1 l1 m2 h2 l2 = ordV v1 v2 := by
  unfold wcmpV orV ordV
  cases m1 <;> cases m2 <;> simp only [if_true, if_false, Bool.false_eq_true, ne_eq, not_true_eq_false, not_false_eq_true, true_and, false_and, reduceCtorEq, eq_self, forall_const, false_implies] at * <;> (repeat' split) <;> omega
theorem cmp_val (a b c d : Int) : wcmpV (minusV a d) (hiV a d) (loV a d) (minusV c b) (hiV c b) (loV c b) = ordV (a * d) (c * b) := by
  obtain ⟨x1, x2, x3, x4, x5⟩ := times_val a d
  obtain ⟨y1, y2, y3, y4, y5⟩ := times_val c b
  exact wcmp_val _ _ _ _ _ _ _ _ x1 y1 ⟨x2, x3⟩ ⟨y2, y3⟩ x4 y4 x5 y5
end Go.Proofs.Ytffchlfnnilbiaa
