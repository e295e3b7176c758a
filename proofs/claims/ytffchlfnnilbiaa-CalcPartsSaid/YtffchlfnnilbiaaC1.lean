/- Chapter 02: numbers as sixteen parts of 16 bits, in plain words. -/
import Derived.Test.YtffchlfnnilbiaaB24
set_option linter.unusedSimpArgs false
set_option linter.unusedVariables false
namespace Go.Proofs.Ytffchlfnnilbiaa
open Go.Lw
attribute [local irreducible] LK LOps LW
theorem pw_pos (i : Nat) : (0 : Int) < 65536 ^ i := Int.pow_pos (by decide)
theorem pw_ne (i : Nat) : (65536 : Int) ^ i ≠ 0 := Int.ne_of_gt (pw_pos i)
theorem pw_succ (i : Nat) : (65536 : Int) ^ (i + 1) = 65536 ^ i * 65536 := Int.pow_succ ..
/-- The first so many parts. -/
def pre (c : Nat → Int) : Nat → Int
  | 0 => 0
  | i + 1 => pre c i + c i * 65536 ^ i
theorem carry_step (c : Nat → Int) (i : Nat) : pre c i / 65536 ^ i + c i = pre c (i + 1) / 65536 ^ i := by
  rw [pre, Int.add_mul_ediv_right _ _ (pw_ne i)]
theorem carry_next (c : Nat → Int) (i : Nat) : (pre c i / 65536 ^ i + c i) / 65536 = pre c (i + 1) / 65536 ^ (i + 1) := by
  rw [carry_step, pw_succ, Int.ediv_ediv_of_nonneg (Int.le_of_lt (pw_pos i))]
theorem pre_more (c : Nat → Int) (i : Nat) : ∀ d, ∃ k, pre c (i + d) = pre c i + 65536 ^ i * k
  | 0 => ⟨0, by simp⟩
  | d + 1 => by
    obtain ⟨k, hk⟩ := pre_more c i d
    refine ⟨k + c (i + d) * 65536 ^ d, ?_⟩
    rw [← Nat.add_assoc, pre, hk, Int.pow_add, Int.mul_add, Int.add_assoc]
    congr 2
    rw [Int.mul_left_comm]
/-- A number's part. -/
def dg (n : Int) (i : Nat) : Int := n / 65536 ^ i % 65536
theorem dg_bd (n : Int) (i : Nat) : 0 ≤ dg n i ∧ dg n i < 65536 := ⟨Int.emod_nonneg _ (by decide), Int.emod_lt_of_pos _ (by decide)⟩
theorem carry_dg (c : Nat → Int) (i n : Nat) (h : i < n) : (pre c i / 65536 ^ i + c i) % 65536 = dg (pre c n) i := by
  obtain ⟨d, rfl⟩ : ∃ d, n = (i + 1) + d := ⟨n - (i + 1), by omega⟩
  obtain ⟨k, hk⟩ := pre_more c (i + 1) d
  rw [carry_step, dg, hk, pw_succ, Int.mul_assoc, Int.add_mul_ediv_left _ _ (pw_ne i), Int.add_mul_emod_self_left]
theorem rem_step (n : Int) (i : Nat) : n % 65536 ^ (i + 1) = n % 65536 ^ i + dg n i * 65536 ^ i := by
  have e1 := Int.mul_ediv_add_emod n (65536 ^ i)
  have e2 := Int.mul_ediv_add_emod (n / 65536 ^ i) 65536
  have b1 := Int.emod_nonneg n (pw_ne i)
  have b2 := Int.emod_lt_of_pos n (pw_pos i)
  obtain ⟨d1, d2⟩ := dg_bd n i
  have hd : n / 65536 ^ i % 65536 = dg n i := rfl
  rw [hd] at e2
  generalize n % 65536 ^ i = r at *
  generalize dg n i = d at *
  generalize hq : n / 65536 ^ i = q at *
  generalize q / 65536 = t at *
  have hp := pw_pos i
  have hn : n = 65536 ^ (i + 1) * t + (r + d * 65536 ^ i) := by
    rw [pw_succ, ← e1, ← e2, Int.mul_add, Int.mul_assoc, Int.mul_comm d]
    omega
  rw [hn, Int.add_comm, Int.add_mul_emod_self_left]
  have h1 : 0 ≤ d * 65536 ^ i := Int.mul_nonneg d1 (Int.le_of_lt hp)
  have h2 : d * 65536 ^ i ≤ 65535 * 65536 ^ i := Int.mul_le_mul_of_nonneg_right (by omega) (Int.le_of_lt hp)
  refine Int.emod_eq_of_lt (by omega) ?_
  rw [pw_succ]
  omega
theorem pre_dg (n : Int) : ∀ i, pre (dg n) i = n % 65536 ^ i
  | 0 => by simp [pre, Int.emod_one]
  | i + 1 => by rw [pre, pre_dg n i, rem_step]
theorem pre_dg_all {n : Int} {i : Nat} (h0 : 0 ≤ n) (h : n < 65536 ^ i) : pre (dg n) i = n := by rw [pre_dg, Int.emod_eq_of_lt h0 h]
theorem pre_add (a b : Nat → Int) : ∀ i, pre (fun j => a j + b j) i = pre a i + pre b i
  | 0 => rfl
  | i + 1 => by simp only [pre]; rw [pre_add a b i, Int.add_mul]; omega
theorem pre_sub (a b : Nat → Int) : ∀ i, pre (fun j => a j - b j) i = pre a i - pre b i
  | 0 => rfl
  | i + 1 => by simp only [pre]; rw [pre_sub a b i, Int.sub_mul]; omega
theorem pre_put (c : Nat → Int) (p : Nat) (y : Int) : ∀ i, p < i → pre (fun j => if j = p then c j + y else c j) i = pre c i + y * 65536 ^ p
  | 0, h => absurd h (Nat.not_lt_zero _)
  | i + 1, h => by
    by_cases e : p = i
    · subst e
      have : ∀ k, k ≤ p → pre (fun j => if j = p then c j + y else c j) k = pre c k := by
        intro k
        induction k with
        | zero => exact fun _ => rfl
        | succ k ih =>
          intro hk
          simp only [pre]
          rw [ih (by omega), if_neg (by omega)]
      simp only [pre]
      rw [this p (Nat.le_refl _), if_pos trivial, Int.add_mul]; omega
    · simp only [pre]
      rw [pre_put c p y i (by omega), if_neg (Ne.symm e)]; omega
/-- Sixteen parts. -/
def Lf (o : Nat → Int) : List Int := (List.range 16).map o
theorem Lf_len (o : Nat → Int) : (Lf o).length = 16 := by simp [Lf]
theorem Lf_get (o : Nat → Int) {i : Nat} (h : i < 16) : (Lf o)[i]? = some (o i) := by simp [Lf, h]
theorem Lf_ext {o o' : Nat → Int} (h : ∀ i, i < 16 → o i = o' i) : Lf o = Lf o' := by
  refine List.ext_getElem? fun i => ?_
  by_cases c : i < 16
  · rw [Lf_get o c, Lf_get o' c, h i c]
  · rw [List.getElem?_eq_none (by rw [Lf_len]; omega), List.getElem?_eq_none (by rw [Lf_len]; omega)]
theorem Lf_set (o : Nat → Int) (p : Nat) (y : Int) : (Lf o).set p y = Lf fun j => if j = p then y else o j := by
  refine List.ext_getElem? fun i => ?_
  rw [List.getElem?_set]
  by_cases c : i < 16
  · rw [Lf_get _ c, Lf_get _ c, Lf_len]
    by_cases e : p = i
    · subst e; simp [c]
    · simp [e, Ne.symm e]
  · have h1 : (Lf fun j => if j = p then y else o j)[i]? = none := List.getElem?_eq_none (by rw [Lf_len]; omega)
    have h2 : (Lf o)[i]? = none := List.getElem?_eq_none (by rw [Lf_len]; omega)
    rw [h1, h2, Lf_len]
    split
    · rw [if_neg (by omega)]
    · rfl
/-- The parts behind so many rounds of carrying. -/
def mix (s : Int) (o : Nat → Int) (i : Nat) : Nat → Int := fun j => if j < i then dg s j else o j
theorem mix_zero (s : Int) (o : Nat → Int) : Lf (mix s o 0) = Lf o := Lf_ext fun i _ => by simp [mix]
theorem mix_all (s : Int) (o : Nat → Int) : Lf (mix s o 16) = Lf (dg s) := Lf_ext fun i h => by simp [mix, h]
theorem mix_set (s : Int) (o : Nat → Int) (i : Nat) : (Lf (mix s o i)).set i (dg s i) = Lf (mix s o (i + 1)) := by
  rw [Lf_set]
  refine Lf_ext fun j _ => ?_
  simp only [mix]
  by_cases e : j = i
  · subst e; simp
  · rw [if_neg e]
    by_cases h : j < i
    · rw [if_pos h, if_pos (by omega)]
    · rw [if_neg h, if_neg (by omega)]
theorem mix_at (s : Int) (o : Nat → Int) (i : Nat) : mix s o i i = o i := by simp [mix]
theorem dg_zero_iff {n : Int} (h0 : 0 ≤ n) (h : n < 65536 ^ 16) : (∀ i, i < 16 → dg n i = 0) ↔ n = 0 := by
  constructor
  · intro hz
    rw [← pre_dg_all h0 h]
    have : ∀ k, k ≤ 16 → pre (dg n) k = 0 := by
      intro k
      induction k with
      | zero => exact fun _ => rfl
      | succ k ih => intro hk; rw [pre, ih (by omega), hz k (by omega)]; simp
    exact this 16 (Nat.le_refl _)
  · rintro rfl i _; simp [dg]
theorem dg_high {n : Int} (h0 : 0 ≤ n) {i k : Nat} (h : n < 65536 ^ k) (hk : k ≤ i) : dg n i = 0 := by
  have : n < 65536 ^ i := by
    obtain ⟨d, rfl⟩ : ∃ d, i = k + d := ⟨i - k, by omega⟩
    rw [Int.pow_add]
    have := pw_pos d
    have := pw_pos k
    have : (65536 : Int) ^ k * 1 ≤ 65536 ^ k * 65536 ^ d := Int.mul_le_mul_of_nonneg_left (by omega) (by omega)
    omega
  rw [dg, Int.ediv_eq_zero_of_lt h0 this]; rfl
/-- Held from the highest part down. -/
theorem cut_step (n : Int) (i : Nat) : n / 65536 ^ i = n / 65536 ^ (i + 1) * 65536 + dg n i := by
  have e2 := Int.mul_ediv_add_emod (n / 65536 ^ i) 65536
  rw [Int.ediv_ediv_of_nonneg (Int.le_of_lt (pw_pos i)), ← pw_succ] at e2
  rw [dg]; omega
theorem cut_lt {a b : Int} {i : Nat} (h : a / 65536 ^ i < b / 65536 ^ i) : a < b := by
  rcases Int.lt_or_le a b with h1 | h1
  · exact h1
  · exact absurd (Int.ediv_le_ediv (pw_pos i) h1) (by omega)
end Go.Proofs.Ytffchlfnnilbiaa
