/- Chapter 02: long division, in plain words. -/
import Derived.Test.YtffchlfnnilbiaaB4
set_option linter.unusedSimpArgs false
set_option linter.unusedVariables false
namespace Go.Proofs.Ytffchlfnnilbiaa
open Go.Lw
attribute [local irreducible] LK LOps LW
/-- One digit of a division: what is guessed is no less than it, and stays so. -/
structure Dig (u v1 v0 u1 q r : Int) : Prop where
  r0 : 0 ≤ r
  r1 : r < 4294967296
  qr : q * v1 + r = u
  q0 : 0 ≤ q
  q1 : q ≤ 4294967297
  ge : (u * 4294967296 + u1) / (v1 * 4294967296 + v0) ≤ q
theorem dig_start {u v1 v0 u1 : Int} (hv : 2147483648 ≤ v1) (hv1 : v1 < 4294967296) (h0 : 0 ≤ v0) (h1 : v0 < 4294967296) (hu : 0 ≤ u) (huv : u < v1 * 4294967296 + v0) (hu0 : 0 ≤ u1) (hu1 : u1 < 4294967296) : Dig u v1 v0 u1 (u / v1) (u % v1) := by
  have hm := Int.emod_nonneg u (show v1 ≠ 0 by omega)
  have hl := Int.emod_lt_of_pos u (show 0 < v1 by omega)
  have he := Int.mul_ediv_add_emod u v1
  have hq : 0 ≤ u / v1 := Int.ediv_nonneg hu (by omega)
  refine ⟨hm, by omega, by rw [Int.mul_comm]; exact he, hq, ?_, ?_⟩
  · have : u / v1 < 4294967298 := Int.ediv_lt_of_lt_mul (by omega) (by omega)
    omega
  · have hk : 0 < v1 * 4294967296 + v0 := by omega
    have : (u * 4294967296 + u1) / (v1 * 4294967296 + v0) < u / v1 + 1 := by
      refine Int.ediv_lt_of_lt_mul hk ?_
      generalize u / v1 = q at *
      have e0 : (q + 1) * v1 = v1 * q + v1 := by rw [Int.add_mul, Int.one_mul, Int.mul_comm]
      have e : (q + 1) * (v1 * 4294967296 + v0) = (q + 1) * v1 * 4294967296 + (q + 1) * v0 := by rw [Int.mul_add, ← Int.mul_assoc]
      have e2 : 0 ≤ (q + 1) * v0 := Int.mul_nonneg (by omega) h0
      rw [e, e0]
      omega
    omega
theorem dig_end {u v1 v0 u1 q r : Int} (hv : 2147483648 ≤ v1) (h0 : 0 ≤ v0) (d : Dig u v1 v0 u1 q r) (h : q * v0 ≤ r * 4294967296 + u1) : q = (u * 4294967296 + u1) / (v1 * 4294967296 + v0) := by
  have hk : 0 < v1 * 4294967296 + v0 := by omega
  have hle : q ≤ (u * 4294967296 + u1) / (v1 * 4294967296 + v0) := by
    refine Int.le_ediv_of_mul_le hk ?_
    have e : q * (v1 * 4294967296 + v0) = q * v1 * 4294967296 + q * v0 := by rw [Int.mul_add, ← Int.mul_assoc]
    have := d.qr
    rw [e]; omega
  have := d.ge
  omega
theorem dig_step {u v1 v0 u1 q r : Int} (hv : 2147483648 ≤ v1) (hv1 : v1 < 4294967296) (h0 : 0 ≤ v0) (h1 : v0 < 4294967296) (hu : 0 ≤ u) (huv : u < v1 * 4294967296 + v0) (hu0 : 0 ≤ u1) (hu1 : u1 < 4294967296) (d : Dig u v1 v0 u1 q r) (h : q ≥ 4294967296 ∨ q * v0 > r * 4294967296 + u1) :
    1 ≤ q ∧ (r + v1 < 4294967296 → Dig u v1 v0 u1 (q - 1) (r + v1)) ∧ (r + v1 ≥ 4294967296 → q - 1 = (u * 4294967296 + u1) / (v1 * 4294967296 + v0)) := by
  have hk : 0 < v1 * 4294967296 + v0 := by omega
  have hr := d.r0
  have hqr := d.qr
  have hlt : (u * 4294967296 + u1) / (v1 * 4294967296 + v0) < q := by
    rcases h with h | h
    · have : (u * 4294967296 + u1) / (v1 * 4294967296 + v0) < 4294967296 := Int.ediv_lt_of_lt_mul hk (by omega)
      omega
    · refine Int.ediv_lt_of_lt_mul hk ?_
      have e : q * (v1 * 4294967296 + v0) = q * v1 * 4294967296 + q * v0 := by rw [Int.mul_add, ← Int.mul_assoc]
      rw [e]; omega
  have hs0 : 0 ≤ (u * 4294967296 + u1) / (v1 * 4294967296 + v0) := Int.ediv_nonneg (by omega) (by omega)
  have e1 : (q - 1) * v1 + (r + v1) = u := by rw [Int.sub_mul]; omega
  refine ⟨by omega, fun h2 => ⟨by omega, h2, e1, by omega, by have := d.q1; omega, by omega⟩, fun h2 => ?_⟩
  have hle : q - 1 ≤ (u * 4294967296 + u1) / (v1 * 4294967296 + v0) := by
    refine Int.le_ediv_of_mul_le hk ?_
    have e : (q - 1) * (v1 * 4294967296 + v0) = (q - 1) * v1 * 4294967296 + (q - 1) * v0 := by rw [Int.mul_add, ← Int.mul_assoc]
    have hq1 : q - 1 ≤ 4294967295 := by
      have := d.q1
      have h3 : q ≠ 4294967297 := by rintro rfl; omega
      have : q ≠ 4294967297 := h3
      omega
    have h4 : (q - 1) * v0 ≤ 4294967295 * v0 := Int.mul_le_mul_of_nonneg_right hq1 h0
    rw [e]; omega
  omega
/-- Two digits make the quotient. -/
theorem two_digits {u v u1 u0 : Int} (hv : 0 < v) (hu : 0 ≤ u) (hu0 : 0 ≤ u0) (hu1 : u0 < 4294967296) (h1 : 0 ≤ u1) :
    (u * 4294967296 + u1) / v * 4294967296 + ((u * 4294967296 + u1) % v * 4294967296 + u0) / v = (u * 18446744073709551616 + u1 * 4294967296 + u0) / v ∧
    ((u * 4294967296 + u1) % v * 4294967296 + u0) % v = (u * 18446744073709551616 + u1 * 4294967296 + u0) % v := by
  have e := Int.mul_ediv_add_emod (u * 4294967296 + u1) v
  generalize hq : (u * 4294967296 + u1) / v = q at *
  generalize hr : (u * 4294967296 + u1) % v = r at *
  have e2 : u * 18446744073709551616 + u1 * 4294967296 + u0 = (r * 4294967296 + u0) + v * (q * 4294967296) := by
    rw [← Int.mul_assoc]; omega
  rw [e2]
  constructor
  · rw [Int.add_mul_ediv_left _ _ (by omega)]; omega
  · rw [Int.add_mul_emod_self_left]
end Go.Proofs.Ytffchlfnnilbiaa
