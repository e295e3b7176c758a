/- Chapter 02: CalcShare. -/
import Derived.Test.YtffchlfnnilbiaaB25
set_option linter.unusedSimpArgs false
set_option linter.unusedVariables false
namespace Go.Proofs.Ytffchlfnnilbiaa
open Go.Lw
attribute [local irreducible] LK LOps LW
theorem md_in {a b c : Int} (h0 : 0 ≤ a) (h1 : a ≤ 9223372036854775807) (h2 : 0 ≤ b) (h3 : b ≤ c) (h4 : 1 ≤ c) : mdR a b c = (a * b / c, 0) ∧ 0 ≤ a * b / c ∧ a * b / c ≤ a := by
  have q0 : 0 ≤ a * b / c := Int.ediv_nonneg (Int.mul_nonneg h0 h2) (by omega)
  have q1 : a * b / c ≤ a := by
    have e : a * b ≤ a * c := Int.mul_le_mul_of_nonneg_left h3 h0
    have e2 : a * b / c ≤ a * c / c := Int.ediv_le_ediv (by omega) e
    rw [Int.mul_ediv_cancel _ (by omega)] at e2; exact e2
  refine ⟨?_, q0, q1⟩
  unfold mdR
  rw [if_neg (by omega), if_neg (by omega)]
set_option maxHeartbeats 4000000 in
set_option maxRecDepth 20000 in
theorem share_skip (a b c d : Int) (hcc : (decide (a < 0) || decide (b < 0) || decide (c < 1) || decide (d < 0) || decide (b > c)) = true) : Fun Try.prog 10 [vi a, vi b, vi c, vi d] (vb true) := by
  have hv := live_fun
  (refine LCalls.enter Try.func10 rfl (by simp [Try.ntmps10]) (LK.start ?_); simp only [Try.ntmps10, enterA, Nat.zero_add])
  (repeat' first | refine LOps.done ?_ | (apply LOps.mv; (focus (first | exact Goes.free | exact Goes.on rfl rfl (by with_reducible rfl) true (by decide))); (focus (exact rfl)); (focus (exact rfl))) | (apply LOps.asg; (focus (first | exact Goes.free | exact Goes.on rfl rfl (by with_reducible rfl) true (by decide))); (focus (exact rfl)); (focus (exact rfl))) | (apply LOps.loc; (focus (first | exact Goes.free | exact Goes.on rfl rfl (by with_reducible rfl) true (by decide))); (focus (exact rfl)); (focus (exact rfl)); (focus (simp only [go_sem, ↓reduceIte, Nat.reduceEqDiff, reduceCtorEq]; with_reducible rfl))) | (apply LOps.pass; (focus (first | exact Goes.on rfl rfl (by with_reducible rfl) false (by decide) | exact Goes.undef rfl rfl (by with_reducible rfl))); (focus (exact rfl))) | (apply LOps.scEnd; (focus (exact rfl)); (focus (with_reducible rfl))) | refine LK.seq ?_ | refine LK.skip ?_ | (apply LK.condF2; (focus (exact rfl)); (focus (with_reducible rfl)); (focus (first | with_reducible rfl | decide | (with_reducible exact Bool.false_and _) | (with_reducible exact congrArg (fun b => b && _) (Bool.false_and _))))) | refine LK.regc ?_ | (apply LOps.locFn; (focus (first | exact Goes.free | exact Goes.on rfl rfl (by with_reducible rfl) true (by decide))); (focus (exact rfl)); (focus (exact rfl)); (focus (simp only [go_sem]; exact rfl)); (focus (simp only [go_sem])); (focus (exact hv)); (focus (first | rfl | simp [go_sem])); (focus (first | rfl | simp [go_sem]))) | (apply LOps.or2; exact rfl; exact rfl; exact rfl; exact rfl; exact rfl; (focus (with_reducible rfl)); (focus (first | kernel_rfl | rfl))) | refine Under.mk (fun hg => ?_) | fail)
  refine LK.condT2 rfl (by first | with_reducible rfl | rfl) (hcc) ?_
  (repeat' first | refine LOps.done ?_ | (apply LOps.mv; (focus (first | exact Goes.free | exact Goes.on rfl rfl (by with_reducible rfl) true (by decide))); (focus (exact rfl)); (focus (exact rfl))) | (apply LOps.asg; (focus (first | exact Goes.free | exact Goes.on rfl rfl (by with_reducible rfl) true (by decide))); (focus (exact rfl)); (focus (exact rfl))) | refine LK.seq ?_ | refine LK.ret' ?_ | refine LK.regc ?_ | (apply retQ; (focus (first | exact lres_one rfl | exact lres_more rfl | (simp only [lres, lresv, Try.results10, go_sem, ↓reduceIte, Nat.reduceEqDiff, reduceCtorEq, Nat.reduceLT, Nat.reduceAdd, Int.reduceBEq, Int.reduceBNe, Int.reduceEq, Int.reduceLE, Int.reduceLT, Int.reduceToNat, Nat.reduceLeDiff, Nat.reduceMul, Nat.reduceSub]; exact rfl)))) | fail)
  all_goals rfl
set_option maxHeartbeats 4000000 in
set_option maxRecDepth 20000 in
theorem share_go (a b c d x m y : Int) (hcc : (decide (a < 0) || decide (b < 0) || decide (c < 1) || decide (d < 0) || decide (b > c)) = false) (hx : Fun Try.prog 20 [vi a, vi b, vi c] (.tup [vi x, vi 0])) (ha : Fun Try.prog 20 [vi a, vi c, vi c] (.tup [vi a, vi 0])) (hn : Fun Try.prog 20 [vi a, vi 0, vi c] (.tup [vi 0, vi 0])) (h1 : ¬ x > a) (hm : (if a < d then d else a) = m) (hy : Fun Try.prog 20 [vi m, vi b, vi c] (.tup [vi y, vi 0])) (h2 : y ≥ x) : Fun Try.prog 10 [vi a, vi b, vi c, vi d] (vb true) := by
  have hv := live_fun
  have h3 : (a != a) = false := by simp
  (refine LCalls.enter Try.func10 rfl (by simp [Try.ntmps10]) (LK.start ?_); simp only [Try.ntmps10, enterA, Nat.zero_add])
  (repeat' first | refine LOps.done ?_ | (apply LOps.mv; (focus (first | exact Goes.free | exact Goes.on rfl rfl (by with_reducible rfl) true (by decide))); (focus (exact rfl)); (focus (exact rfl))) | (apply LOps.asg; (focus (first | exact Goes.free | exact Goes.on rfl rfl (by with_reducible rfl) true (by decide))); (focus (exact rfl)); (focus (exact rfl))) | (apply LOps.loc; (focus (first | exact Goes.free | exact Goes.on rfl rfl (by with_reducible rfl) true (by decide))); (focus (exact rfl)); (focus (exact rfl)); (focus (simp only [go_sem, ↓reduceIte, Nat.reduceEqDiff, reduceCtorEq]; with_reducible rfl))) | (apply LOps.pass; (focus (first | exact Goes.on rfl rfl (by with_reducible rfl) false (by decide) | exact Goes.undef rfl rfl (by with_reducible rfl))); (focus (exact rfl))) | (apply LOps.scEnd; (focus (exact rfl)); (focus (with_reducible rfl))) | refine LK.seq ?_ | refine LK.skip ?_ | (apply LK.condF2; (focus (exact rfl)); (focus (with_reducible rfl)); (focus (first | with_reducible rfl | decide | (with_reducible exact Bool.false_and _) | (with_reducible exact congrArg (fun b => b && _) (Bool.false_and _))))) | refine LK.regc ?_ | (apply LOps.locFn; (focus (first | exact Goes.free | exact Goes.on rfl rfl (by with_reducible rfl) true (by decide))); (focus (exact rfl)); (focus (exact rfl)); (focus (simp only [go_sem]; exact rfl)); (focus (simp only [go_sem])); (focus (exact hv)); (focus (first | rfl | simp [go_sem])); (focus (first | rfl | simp [go_sem]))) | (apply LOps.or2; exact rfl; exact rfl; exact rfl; exact rfl; exact rfl; (focus (with_reducible rfl)); (focus (first | kernel_rfl | rfl))) | refine Under.mk (fun hg => ?_) | fail)
  refine LK.condF2 rfl (by first | with_reducible rfl | rfl) (hcc) ?_
  (repeat' first | refine LOps.done ?_ | (apply LOps.mv; (focus (first | exact Goes.free | exact Goes.on rfl rfl (by with_reducible rfl) true (by decide))); (focus (exact rfl)); (focus (exact rfl))) | (apply LOps.asg; (focus (first | exact Goes.free | exact Goes.on rfl rfl (by with_reducible rfl) true (by decide))); (focus (exact rfl)); (focus (exact rfl))) | (apply LOps.ext; (focus (first | exact Goes.free | exact Goes.on rfl rfl (by with_reducible rfl) true (by decide))); (focus (exact rfl)); (focus (exact rfl)); (focus (exact rfl))) | (apply LOps.loc; (focus (first | exact Goes.free | exact Goes.on rfl rfl (by with_reducible rfl) true (by decide))); (focus (exact rfl)); (focus (exact rfl)); (focus (simp only [go_sem, ↓reduceIte, Nat.reduceEqDiff, reduceCtorEq, Int.reduceBNe, h1, h2, h3, hm]; with_reducible rfl))) | refine LK.seq ?_ | refine LK.skip ?_ | refine LK.ret' ?_ | (apply LK.condF2; (focus (exact rfl)); (focus (with_reducible rfl)); (focus (first | with_reducible rfl | decide | (with_reducible exact Bool.false_and _) | (with_reducible exact congrArg (fun b => b && _) (Bool.false_and _))))) | refine LK.regc ?_ | (apply retQ; (focus (first | exact lres_one rfl | exact lres_more rfl | (simp only [lres, lresv, Try.results10, go_sem, ↓reduceIte, Nat.reduceEqDiff, reduceCtorEq, Nat.reduceLT, Nat.reduceAdd, Int.reduceBEq, Int.reduceBNe, Int.reduceEq, Int.reduceLE, Int.reduceLT, Int.reduceToNat, Nat.reduceLeDiff, Nat.reduceMul, Nat.reduceSub, h1, h2, h3, hm]; exact rfl)))) | (apply LOps.locFn; (focus (first | exact Goes.free | exact Goes.on rfl rfl (by with_reducible rfl) true (by decide))); (focus (exact rfl)); (focus (exact rfl)); (focus (simp only [go_sem, ↓reduceIte, Nat.reduceEqDiff]; exact rfl)); (focus (simp only [go_sem])); (focus (first | exact hx | exact ha | exact hn | exact hy)); (focus (first | rfl | simp [go_sem])); (focus (first | rfl | simp [go_sem]))) | fail)
  all_goals rfl
theorem share_fun (a b c d : Int) (ia : I64 a) (ib : I64 b) (ic : I64 c) (id' : I64 d) : Fun Try.prog 10 [vi a, vi b, vi c, vi d] (vb true) := by
  by_cases g : a < 0 ∨ b < 0 ∨ c < 1 ∨ d < 0 ∨ b > c
  · exact share_skip a b c d (by simp only [Bool.or_eq_true, decide_eq_true_eq]; omega)
  · obtain ⟨x1, x2, x3⟩ := md_in (a := a) (b := b) (c := c) (by omega) (by omega) (by omega) (by omega) (by omega)
    have hx := md_fun a b c ia ib ic
    rw [x1] at hx
    have ha := md_fun a c c ia ic ic
    rw [(md_in (a := a) (b := c) (c := c) (by omega) (by omega) (by omega) (by omega) (by omega)).1, Int.mul_ediv_cancel _ (by omega)] at ha
    have hn := md_fun a 0 c ia (by decide) ic
    rw [(md_in (a := a) (b := 0) (c := c) (by omega) (by omega) (by omega) (by omega) (by omega)).1, show a * 0 / c = 0 by simp] at hn
    have hm : ∃ m, (if a < d then d else a) = m ∧ a ≤ m ∧ 0 ≤ m ∧ I64 m := ⟨_, rfl, by split <;> omega, by split <;> omega, by split <;> assumption⟩
    obtain ⟨m, e, m1, m2, m3⟩ := hm
    have hy := md_fun m b c m3 ib ic
    obtain ⟨y1, y2, y3⟩ := md_in (a := m) (b := b) (c := c) (by omega) (by omega) (by omega) (by omega) (by omega)
    rw [y1] at hy
    have hmono : m * b / c ≥ a * b / c := Int.ediv_le_ediv (by omega) (Int.mul_le_mul_of_nonneg_right m1 (by omega))
    exact share_go a b c d _ m _ (by simp only [Bool.or_eq_false_iff, decide_eq_false_iff_not]; omega) hx ha hn (by omega) e hy hmono
end Go.Proofs.Ytffchlfnnilbiaa
