/- Chapter 02: Len64, LeadingZeros64; numbers moved up. -/
import Derived.Test.YtffchlfnnilbiaaB21
set_option linter.unusedSimpArgs false
set_option linter.unusedVariables false
namespace Go.Proofs.Ytffchlfnnilbiaa
open Go.Lw
attribute [local irreducible] LK LOps LW
theorem len_fin {x z : Int} {n m : Nat} (h : z * 2 ^ n ≤ x) (h' : x < (z + 1) * 2 ^ n) (hm : 1 ≤ m) (h1 : (2 : Int) ^ (m - 1) ≤ z) (h2 : z < (2 : Int) ^ m) : (2 : Int) ^ (n + m - 1) ≤ x ∧ x < (2 : Int) ^ (n + m) := by
  have hp : (0 : Int) < 2 ^ n := Int.pow_pos (by omega)
  have e1 : (2 : Int) ^ (n + m - 1) = 2 ^ (m - 1) * 2 ^ n := by rw [← Int.pow_add]; congr 1; omega
  have e2 : (2 : Int) ^ (n + m) = 2 ^ m * 2 ^ n := by rw [← Int.pow_add]; congr 1; omega
  have a1 := Int.mul_le_mul_of_nonneg_right h1 (Int.le_of_lt hp)
  have a2 := Int.mul_le_mul_of_nonneg_right (show z + 1 ≤ 2 ^ m by omega) (Int.le_of_lt hp)
  rw [e1, e2]
  omega
theorem fd (x : Int) (c : Nat) (hc : 0 < c) : x.fdiv (c : Int) = x / c := Int.fdiv_eq_ediv_of_nonneg _ (by omega)
def LenOk (x : Int) (l : Nat) : Prop := 1 ≤ l ∧ l ≤ 64 ∧ (2 : Int) ^ (l - 1) ≤ x ∧ x < (2 : Int) ^ l ∧ Fun Try.prog 42 [vu x] (vi l)
theorem len_fun (x : Int) (h0 : 0 < x) (h : x < 18446744073709551616) : ∃ l : Nat, LenOk x l := by
  have q32 : ∀ x : Int, x.fdiv (2 ^ min 32 64) = x / 4294967296 := fun x => Int.fdiv_eq_ediv_of_nonneg _ (by decide)
  have q16 : ∀ x : Int, x.fdiv (2 ^ min 16 64) = x / 65536 := fun x => Int.fdiv_eq_ediv_of_nonneg _ (by decide)
  have q8 : ∀ x : Int, x.fdiv (2 ^ min 8 64) = x / 256 := fun x => Int.fdiv_eq_ediv_of_nonneg _ (by decide)
  have fin : ∀ (z : Int) (n : Nat), 0 < z → z < 256 → n ≤ 56 → z * 2 ^ n ≤ x → x < (z + 1) * 2 ^ n → Fun Try.prog 42 [vu x] (vi ((n : Int) + (bl z.toNat : Int))) → ∃ l : Nat, LenOk x l := by
    intro z n z0 z1 hn h1 h2 hf
    obtain ⟨b1, b2, b3, b4⟩ := bl_of z z0 z1
    obtain ⟨c1, c2⟩ := len_fin h1 h2 b1 b3 b4
    exact ⟨n + bl z.toNat, by omega, by omega, c1, c2, by rw [Int.natCast_add]; exact hf⟩
  by_cases g0 : x ≥ 4294967296
  · by_cases g1 : x / 4294967296 ≥ 65536
    · by_cases g2 : x / 4294967296 / 65536 ≥ 256
      · exact fin _ 56 (by omega) (by omega) (by omega) (by omega) (by omega) (len_111 x g0 _ (q32 x) g1 _ (q16 _) g2 _ (q8 _) (by omega) (by omega))
      · exact fin _ 48 (by omega) (by omega) (by omega) (by omega) (by omega) (len_110 x g0 _ (q32 x) g1 _ (q16 _) g2 (by omega) (by omega))
    · by_cases g2 : x / 4294967296 ≥ 256
      · exact fin _ 40 (by omega) (by omega) (by omega) (by omega) (by omega) (len_101 x g0 _ (q32 x) g1 g2 _ (q8 _) (by omega) (by omega))
      · exact fin _ 32 (by omega) (by omega) (by omega) (by omega) (by omega) (len_100 x g0 _ (q32 x) g1 g2 (by omega) (by omega))
  · by_cases g1 : x ≥ 65536
    · by_cases g2 : x / 65536 ≥ 256
      · exact fin _ 24 (by omega) (by omega) (by omega) (by omega) (by omega) (len_011 x g0 g1 _ (q16 _) g2 _ (q8 _) (by omega) (by omega))
      · exact fin _ 16 (by omega) (by omega) (by omega) (by omega) (by omega) (len_010 x g0 g1 _ (q16 _) g2 (by omega) (by omega))
    · by_cases g2 : x ≥ 256
      · exact fin _ 8 (by omega) (by omega) (by omega) (by omega) (by omega) (len_001 x g0 g1 g2 _ (q8 _) (by omega) (by omega))
      · exact fin _ 0 (by omega) (by omega) (by omega) (by omega) (by omega) (len_000 x g0 g1 g2 (by omega) (by omega))
set_option maxHeartbeats 4000000 in
set_option maxRecDepth 10000 in
theorem lz_fun (x : Int) (l : Nat) (hl : LenOk x l) : Fun Try.prog 40 [vu x] (vi ((64 - l : Nat) : Int)) := by
  obtain ⟨h1, h2, _, _, hf⟩ := hl
  have hw : IntKind.i64.wrap (64 - (l : Int)) = ((64 - l : Nat) : Int) := by rw [IntKind.wrap_i64]; omega
  (refine LCalls.enter Try.func40 rfl (by simp [Try.ntmps40]) (LK.start ?_); simp only [Try.ntmps40, enterA])
  (repeat' first | refine LOps.done ?_ | (apply LOps.mv; (focus (first | exact Goes.free | exact Goes.on rfl rfl (by with_reducible rfl) true (by decide))); (focus (exact rfl)); (focus (exact rfl))) | (apply LOps.asg; (focus (first | exact Goes.free | exact Goes.on rfl rfl (by with_reducible rfl) true (by decide))); (focus (exact rfl)); (focus (exact rfl))) | (apply LOps.loc; (focus (first | exact Goes.free | exact Goes.on rfl rfl (by with_reducible rfl) true (by decide))); (focus (exact rfl)); (focus (exact rfl)); (focus (simp only [go_sem, ↓reduceIte, reduceCtorEq, hw]; with_reducible rfl))) | refine LK.seq ?_ | refine LK.ret' ?_ | refine LK.regc ?_ | (apply retQ; (focus (first | exact lres_one rfl | exact lres_more rfl | (simp only [lres, lresv, Try.results40, go_sem, ↓reduceIte, Nat.reduceEqDiff, reduceCtorEq, Nat.reduceLT, Nat.reduceAdd, Int.reduceBEq, Int.reduceBNe, Int.reduceEq, Int.reduceLE, Int.reduceLT, Int.reduceToNat, Nat.reduceLeDiff, Nat.reduceMul, Nat.reduceSub, hw]; exact rfl)))) | (apply LOps.locFn; (focus (first | exact Goes.free | exact Goes.on rfl rfl (by with_reducible rfl) true (by decide))); (focus (exact rfl)); (focus (exact rfl)); (focus (simp only [go_sem, ↓reduceIte]; exact rfl)); (focus (simp only [go_sem])); (focus (exact hf)); (focus (first | rfl | simp [go_sem])); (focus (first | rfl | simp [go_sem]))) | fail)
  all_goals rfl
/-- A number of 128 bits moved up by so many: its upper half, its lower one. -/
theorem moved {hi lo y P R : Int} (hP : 0 < P) (hR : 0 < R) (hPR : P * R = 18446744073709551616) (h0 : 0 ≤ hi) (hy : hi < y) (hYP : y * P < 18446744073709551616) (l0 : 0 ≤ lo) (l1 : lo < 18446744073709551616) :
    (hi * P + lo / R) * 18446744073709551616 + lo * P % 18446744073709551616 = (hi * 18446744073709551616 + lo) * P ∧ 0 ≤ lo / R ∧ lo / R < P ∧ hi * P + lo / R < y * P ∧ 0 ≤ hi * P := by
  have e := Int.mul_ediv_add_emod lo R
  have m0 := Int.emod_nonneg lo (show R ≠ 0 by omega)
  have m1 := Int.emod_lt_of_pos lo hR
  have q0 : 0 ≤ lo / R := Int.ediv_nonneg l0 (by omega)
  generalize lo / R = L at *
  generalize lo % R = M at *
  have e1 : lo * P = L * 18446744073709551616 + M * P := by
    rw [← hPR, ← e, Int.add_mul, Int.mul_comm R L, Int.mul_assoc, Int.mul_comm R P]
  have f0 : 0 ≤ M * P := Int.mul_nonneg m0 (by omega)
  have f1 : M * P < 18446744073709551616 := by
    have := Int.mul_lt_mul_of_pos_right m1 hP
    rw [Int.mul_comm R P, hPR] at this; exact this
  have e2 : lo * P % 18446744073709551616 = M * P := by rw [e1]; omega
  have hL : L < P := by
    refine Int.lt_of_mul_lt_mul_right (a := R) ?_ (by omega)
    rw [hPR]
    have : L * R = R * L := Int.mul_comm _ _
    omega
  have hh : (hi + 1) * P ≤ y * P := Int.mul_le_mul_of_nonneg_right (by omega) (by omega)
  have hh2 : (hi + 1) * P = hi * P + P := by rw [Int.add_mul, Int.one_mul]
  refine ⟨?_, q0, hL, by omega, Int.mul_nonneg h0 (by omega)⟩
  have e4 : hi * 18446744073709551616 * P = hi * P * 18446744073709551616 := by rw [Int.mul_assoc, Int.mul_comm 18446744073709551616 P, ← Int.mul_assoc]
  rw [e2, Int.add_mul, Int.add_mul, e4, e1]
  omega
theorem borU {a b : Nat} {i : Nat} (hb : b < 2 ^ i) (h : a * 2 ^ i + b < 18446744073709551616) : borI .u64 ((a * 2 ^ i : Nat) : Int) (b : Int) = ((a * 2 ^ i + b : Nat) : Int) := by
  have ha : a * 2 ^ i < 18446744073709551616 := by omega
  have hb2 : b < 18446744073709551616 := by omega
  show IntKind.u64.wrap ((BitVec.ofInt 64 ((a * 2 ^ i : Nat) : Int) ||| BitVec.ofInt 64 (b : Int)).toNat : Int) = _
  rw [BitVec.toNat_or, BitVec.toNat_ofInt, BitVec.toNat_ofInt]
  have e1 : (((a * 2 ^ i : Nat) : Int) % ((2 : Nat) ^ 64 : Nat)).toNat = a * 2 ^ i := by omega
  have e2 : ((b : Int) % ((2 : Nat) ^ 64 : Nat)).toNat = b := by omega
  rw [e1, e2, ← Nat.shiftLeft_eq, ← Nat.shiftLeft_add_eq_or_of_lt hb, Nat.shiftLeft_eq, IntKind.wrap_u64]
  omega
end Go.Proofs.Ytffchlfnnilbiaa
