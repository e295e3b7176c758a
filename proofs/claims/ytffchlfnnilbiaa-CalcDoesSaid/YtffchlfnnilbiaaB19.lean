/- Chapter 02: the example, anew. -/
import Derived.Test.YtffchlfnnilbiaaB12
set_option linter.unusedSimpArgs false
set_option linter.unusedVariables false
namespace Go.Proofs.Ytffchlfnnilbiaa
open Go.Lw
attribute [local irreducible] LK LOps LW
theorem m33 : mulR 3 3 = (9, 0) := by decide
theorem m24 : mulR 2 4 = (8, 0) := by decide
theorem m43 : mulR 4 3 = (12, 0) := by decide
theorem s98 : subR 9 8 = (1, 0) := by decide
theorem cmp_live : cmpR 3 4 2 3 = (1, 0) := by decide
set_option maxHeartbeats 4000000 in
set_option maxRecDepth 10000 in
theorem gap_live_fun : Fun Try.prog 13 [vi 3, vi 4, vi 2, vi 3] (.tup [vi 1, vi 12, vi 0]) := by
  have h1 := mul_fun 3 3 (by decide) (by decide)
  have h2 := mul_fun 2 4 (by decide) (by decide)
  have h3 := mul_fun 4 3 (by decide) (by decide)
  have h4 := sub_fun 9 8 (by decide) (by decide)
  rw [m33] at h1
  rw [m24] at h2
  rw [m43] at h3
  rw [s98] at h4
  have q4 : ((4 : Nat) : Int) = 4 := rfl
  (refine LCalls.enter Try.func13 rfl (by simp [Try.ntmps13]) (LK.start ?_); simp only [Try.ntmps13, enterA, Nat.zero_add])
  (repeat' first | refine LOps.done ?_ | (apply LOps.mv; (focus (first | exact Goes.free | exact Goes.on rfl rfl (by with_reducible rfl) true (by decide))); (focus (exact rfl)); (focus (exact rfl))) | (apply LOps.asg; (focus (first | exact Goes.free | exact Goes.on rfl rfl (by with_reducible rfl) true (by decide))); (focus (exact rfl)); (focus (exact rfl))) | (apply LOps.ext; (focus (first | exact Goes.free | exact Goes.on rfl rfl (by with_reducible rfl) true (by decide))); (focus (exact rfl)); (focus (exact rfl)); (focus (exact rfl))) | (apply LOps.loc; (focus (first | exact Goes.free | exact Goes.on rfl rfl (by with_reducible rfl) true (by decide))); (focus (exact rfl)); (focus (exact rfl)); (focus (simp only [go_sem, ↓reduceIte, Nat.reduceEqDiff, reduceCtorEq, Nat.reduceAdd, Int.reduceBNe, Int.reduceLE, Int.reduceLT, Int.reduceToNat, Nat.reduceLeDiff, q4, Nat.mul_one, Int.reduceBNe, wrap_small, Int.reduceAdd, Int.reduceToNat, Int.reduceLT, Int.reduceLE, Int.reduceGT, Int.zero_add]; with_reducible rfl))) | refine LK.seq ?_ | refine LK.skip ?_ | refine LK.block ?_ | refine LK.blk ?_ | refine LK.fin ?_ | refine LK.ret' ?_ | refine LK.exit' rfl ?_ | (apply LK.condT2; (focus (exact rfl)); (focus (with_reducible rfl)); (focus (first | with_reducible rfl | decide | (with_reducible exact Bool.true_or _) | (with_reducible exact congrArg (fun b => b || _) (Bool.true_or _))))) | (apply LK.condF2; (focus (exact rfl)); (focus (with_reducible rfl)); (focus (first | with_reducible rfl | decide | (with_reducible exact Bool.false_and _) | (with_reducible exact congrArg (fun b => b && _) (Bool.false_and _))))) | refine LK.regc ?_ | (apply retQ; (focus (first | exact lres_one rfl | exact lres_more rfl | (simp only [lres, lresv, Try.results13, go_sem, ↓reduceIte, Nat.reduceEqDiff, reduceCtorEq, Nat.reduceLT, Nat.reduceAdd, Int.reduceBEq, Int.reduceBNe, Int.reduceEq, Int.reduceLE, Int.reduceLT, Int.reduceToNat, Nat.reduceLeDiff, Nat.reduceMul, Nat.reduceSub, q4, Nat.reduceMul, Nat.zero_mul, Nat.mul_one, Int.reduceBNe, wrap_small, Int.reduceAdd, Int.reduceSub, Int.reduceMul, Int.reduceMod, Int.reduceNeg, Int.reduceToNat, Int.reduceLT, Int.reduceLE, Int.reduceGT, Int.reduceGE, Int.zero_add, Int.add_zero, List.replicate_succ, List.replicate_zero, Nat.reduceSub]; exact rfl)))) | (apply LOps.locFn; (focus (first | exact Goes.free | exact Goes.on rfl rfl (by with_reducible rfl) true (by decide))); (focus (exact rfl)); (focus (exact rfl)); (focus (simp only [go_sem, ↓reduceIte, Nat.reduceEqDiff]; exact rfl)); (focus (simp only [go_sem])); (focus (first | exact h1 | exact h2 | exact h3 | exact h4)); (focus (first | rfl | simp [go_sem])); (focus (first | rfl | simp [go_sem]))) | refine LK.rounds 5 ?_ | fail)
  all_goals rfl
set_option maxHeartbeats 4000000 in
set_option maxRecDepth 10000 in
theorem live_fun : Fun Try.prog 11 [] (vb true) := by
  have h1 := cmp_fun 3 4 2 3 (by decide) (by decide) (by decide) (by decide)
  have h2 := gap_live_fun
  rw [cmp_live] at h1
  (refine LCalls.enter Try.func11 rfl (by simp [Try.ntmps11]) (LK.start ?_); simp only [Try.ntmps11, enterA])
  (repeat' first | refine LOps.done ?_ | (apply LOps.mv; (focus (first | exact Goes.free | exact Goes.on rfl rfl (by with_reducible rfl) true (by decide))); (focus (exact rfl)); (focus (exact rfl))) | (apply LOps.asg; (focus (first | exact Goes.free | exact Goes.on rfl rfl (by with_reducible rfl) true (by decide))); (focus (exact rfl)); (focus (exact rfl))) | (apply LOps.ext; (focus (first | exact Goes.free | exact Goes.on rfl rfl (by with_reducible rfl) true (by decide))); (focus (exact rfl)); (focus (exact rfl)); (focus (exact rfl))) | (apply LOps.loc; (focus (first | exact Goes.free | exact Goes.on rfl rfl (by with_reducible rfl) true (by decide))); (focus (exact rfl)); (focus (exact rfl)); (focus (simp only [go_sem, ↓reduceIte, Nat.reduceEqDiff, reduceCtorEq]; with_reducible rfl))) | refine LK.seq ?_ | refine LK.ret' ?_ | refine LK.regc ?_ | (apply retQ; (focus (first | exact lres_one rfl | exact lres_more rfl | (simp only [lres, lresv, Try.results11, go_sem, ↓reduceIte, Nat.reduceEqDiff, reduceCtorEq, Nat.reduceLT, Nat.reduceAdd, Int.reduceBEq, Int.reduceBNe, Int.reduceEq, Int.reduceLE, Int.reduceLT, Int.reduceToNat, Nat.reduceLeDiff, Nat.reduceMul, Nat.reduceSub]; exact rfl)))) | (apply LOps.locFn; (focus (first | exact Goes.free | exact Goes.on rfl rfl (by with_reducible rfl) true (by decide))); (focus (exact rfl)); (focus (exact rfl)); (focus (simp only [go_sem]; exact rfl)); (focus (simp only [go_sem])); (focus (first | exact h1 | exact h2)); (focus (first | rfl | simp [go_sem])); (focus (first | rfl | simp [go_sem]))) | fail)
  all_goals rfl
end Go.Proofs.Ytffchlfnnilbiaa
