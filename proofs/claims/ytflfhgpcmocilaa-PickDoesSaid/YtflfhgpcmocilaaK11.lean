/- The walks of chapter 16: the chapter's example; the law PickHalves. -/
import Derived.Test.YtflfhgpcmocilaaK10
set_option linter.unusedSimpArgs false
set_option linter.unusedVariables false
namespace Go.Proofs.Ytflfhgpcmocilaa
open Go.Lw
attribute [local irreducible] LK LOps LW
set_option maxHeartbeats 4000000 in
set_option maxRecDepth 10000 in
theorem live_fun : Fun Try.prog 8 [] (vb true) := by
  have h1 := victims_fun [] 0 3 0 (by intro x hx; cases hx) (by decide)
  rw [show vV [] 0 3 0 = [1, 2] by decide +kernel, show vE [] 0 3 0 = 0 by decide +kernel] at h1
  have h2 := half_fun 5 (by decide)
  rw [show (halfR 5).1 = 3 by decide, show (halfR 5).2 = 0 by decide] at h2
  have h3 := spill_fun 5 (by decide)
  rw [show (spillR 5).1 = 2 by decide, show (spillR 5).2 = 0 by decide] at h3
  have h4 := same_fun [1, 2] [1, 2] (by decide)
  rw [show (([1, 2] : List Int) == [1, 2]) = true from by decide] at h4
  (refine LCalls.enter Try.func8 rfl (by simp [Try.ntmps8]) (LK.start ?_); simp only [Try.ntmps8, enterA])
  (repeat' first | refine LOps.done ?_ | (apply LOps.mv; (focus (first | exact Goes.free | exact Goes.on rfl rfl (by with_reducible rfl) true (by decide))); (focus (exact rfl)); (focus (exact rfl))) | (apply LOps.asg; (focus (first | exact Goes.free | exact Goes.on rfl rfl (by with_reducible rfl) true (by decide))); (focus (exact rfl)); (focus (exact rfl))) | (apply LOps.ext; (focus (first | exact Goes.free | exact Goes.on rfl rfl (by with_reducible rfl) true (by decide))); (focus (exact rfl)); (focus (exact rfl)); (focus (exact rfl))) | (apply LOps.loc; (focus (first | exact Goes.free | exact Goes.on rfl rfl (by with_reducible rfl) true (by decide))); (focus (exact rfl)); (focus (exact rfl)); (focus (simp only [go_sem, ↓reduceIte, Nat.reduceEqDiff, reduceCtorEq, Nat.reduceLT, Nat.reduceAdd, Nat.reduceLeDiff]; with_reducible rfl))) | (apply LOps.loc0; (focus (first | exact Goes.free | exact Goes.on rfl rfl (by with_reducible rfl) true (by decide))); (focus (exact rfl)); (focus (simp only [go_sem, ↓reduceIte, Nat.reduceEqDiff, Nat.reduceLT, Nat.reduceAdd]; with_reducible rfl))) | refine LK.seq ?_ | refine LK.ret' ?_ | refine LK.regc ?_ | (apply retQ; (focus (first | exact lres_one rfl | exact lres_more rfl | (simp only [lres, lresv, Try.results8, go_sem, ↓reduceIte, Nat.reduceEqDiff, reduceCtorEq, Nat.reduceLT, Nat.reduceAdd, Int.reduceBEq, Int.reduceBNe, Int.reduceEq, Int.reduceLE, Int.reduceLT, Int.reduceToNat, Nat.reduceLeDiff, Nat.reduceMul, Nat.reduceSub]; exact rfl)))) | (apply LOps.locFn; (focus (first | exact Goes.free | exact Goes.on rfl rfl (by with_reducible rfl) true (by decide))); (focus (exact rfl)); (focus (exact rfl)); (focus (simp only [go_sem, ↓reduceIte, Nat.reduceEqDiff]; exact rfl)); (focus (simp only [go_sem])); (focus (first | (refine Fun.argsLe ?_ (h1); (repeat' first | exact LV.le_refl _ | exact LV.le_nil _ | exact le_nilF _ _ | exact LV.le_any _ _ _ | refine LV.le_tup ?_ | refine LV.le_agg ?_ | exact LV.les_nil | refine LV.les_cons ?_ ?_); done) | exact h2 | exact h3 | exact h4)); (focus (first | rfl | simp [go_sem])); (focus (first | rfl | simp [go_sem]))) | (apply LOps.borrowFn; (focus (first | exact Goes.free | exact Goes.on rfl rfl (by with_reducible rfl) true (by decide))); (focus (exact rfl)); (focus (exact rfl)); (focus (simp only [go_sem, ↓reduceIte, Nat.reduceEqDiff]; exact rfl)); (focus (simp only [go_sem])); (focus (simp only [go_sem, ↓reduceIte, reduceCtorEq, Nat.reduceAdd]; exact rfl)); (focus (first | (refine Fun.argsLe ?_ (h1); (repeat' first | exact LV.le_refl _ | exact LV.le_nil _ | exact le_nilF _ _ | exact LV.le_any _ _ _ | refine LV.le_tup ?_ | refine LV.le_agg ?_ | exact LV.les_nil | refine LV.les_cons ?_ ?_); done) | exact h2 | exact h3 | exact h4)); (focus (first | rfl | simp [go_sem])); (focus (exact rfl))) | fail)
  all_goals rfl
set_option maxHeartbeats 4000000 in
set_option maxRecDepth 10000 in
theorem halves_neg (n : Int) (h : -9223372036854775808 ≤ n ∧ n ≤ 9223372036854775807) (hn : n < 0) : Fun Try.prog 3 [vi n] (vb true) := by
  have h2 := half_fun n h
  have h3 := spill_fun n h
  simp only [halfR, spillR, if_pos hn] at h2 h3
  (refine LCalls.enter Try.func3 rfl (by simp [Try.ntmps3]) (LK.start ?_); simp only [Try.ntmps3, enterA])
  (repeat' first | refine LOps.done ?_ | (apply LOps.mv; (focus (first | exact Goes.free | exact Goes.on rfl rfl (by with_reducible rfl) true (by decide))); (focus (exact rfl)); (focus (exact rfl))) | (apply LOps.asg; (focus (first | exact Goes.free | exact Goes.on rfl rfl (by with_reducible rfl) true (by decide))); (focus (exact rfl)); (focus (exact rfl))) | (apply LOps.ext; (focus (first | exact Goes.free | exact Goes.on rfl rfl (by with_reducible rfl) true (by decide))); (focus (exact rfl)); (focus (exact rfl)); (focus (exact rfl))) | (apply LOps.loc; (focus (first | exact Goes.free | exact Goes.on rfl rfl (by with_reducible rfl) true (by decide))); (focus (exact rfl)); (focus (exact rfl)); (focus (simp only [go_sem, ↓reduceIte, Nat.reduceEqDiff, reduceCtorEq, hn]; with_reducible rfl))) | refine LK.seq ?_ | refine LK.skip ?_ | refine LK.ret' ?_ | (apply LK.condT2; (focus (exact rfl)); (focus (with_reducible rfl)); (focus (first | with_reducible rfl | decide | (with_reducible exact Bool.true_or _) | (with_reducible exact congrArg (fun b => b || _) (Bool.true_or _))))) | (apply LK.condF2; (focus (exact rfl)); (focus (with_reducible rfl)); (focus (first | with_reducible rfl | decide | (with_reducible exact Bool.false_and _) | (with_reducible exact congrArg (fun b => b && _) (Bool.false_and _))))) | refine LK.regc ?_ | (apply retQ; (focus (first | exact lres_one rfl | exact lres_more rfl | (simp only [lres, lresv, Try.results3, go_sem, ↓reduceIte, Nat.reduceEqDiff, reduceCtorEq, Nat.reduceLT, Nat.reduceAdd, Int.reduceBEq, Int.reduceBNe, Int.reduceEq, Int.reduceLE, Int.reduceLT, Int.reduceToNat, Nat.reduceLeDiff, Nat.reduceMul, Nat.reduceSub, hn]; exact rfl)))) | (apply LOps.locFn; (focus (first | exact Goes.free | exact Goes.on rfl rfl (by with_reducible rfl) true (by decide))); (focus (exact rfl)); (focus (exact rfl)); (focus (simp only [go_sem, ↓reduceIte]; exact rfl)); (focus (simp only [go_sem])); (focus (first | exact live_fun | exact h2 | exact h3)); (focus (first | rfl | simp [go_sem])); (focus (first | rfl | simp [go_sem]))) | fail)
  all_goals rfl
set_option maxHeartbeats 4000000 in
set_option maxRecDepth 10000 in
theorem halves_pos (n : Int) (h : -9223372036854775808 ≤ n ∧ n ≤ 9223372036854775807) (hn : ¬ n < 0) : Fun Try.prog 3 [vi n] (vb true) := by
  have h2 := half_fun n h
  have h3 := spill_fun n h
  simp only [halfR, spillR, if_neg hn] at h2 h3
  (refine LCalls.enter Try.func3 rfl (by simp [Try.ntmps3]) (LK.start ?_); simp only [Try.ntmps3, enterA])
  (repeat' first | refine LOps.done ?_ | (apply LOps.mv; (focus (first | exact Goes.free | exact Goes.on rfl rfl (by with_reducible rfl) true (by decide))); (focus (exact rfl)); (focus (exact rfl))) | (apply LOps.asg; (focus (first | exact Goes.free | exact Goes.on rfl rfl (by with_reducible rfl) true (by decide))); (focus (exact rfl)); (focus (exact rfl))) | (apply LOps.ext; (focus (first | exact Goes.free | exact Goes.on rfl rfl (by with_reducible rfl) true (by decide))); (focus (exact rfl)); (focus (exact rfl)); (focus (exact rfl))) | (apply LOps.loc; (focus (first | exact Goes.free | exact Goes.on rfl rfl (by with_reducible rfl) true (by decide))); (focus (exact rfl)); (focus (exact rfl)); (focus (simp only [go_sem, ↓reduceIte, Nat.reduceEqDiff, reduceCtorEq, hn]; with_reducible rfl))) | (apply LOps.pass; (focus (first | exact Goes.on rfl rfl (by with_reducible rfl) false (by decide) | exact Goes.undef rfl rfl (by with_reducible rfl))); (focus (exact rfl))) | (apply LOps.scEnd; (focus (exact rfl)); (focus (with_reducible rfl))) | refine LK.seq ?_ | refine LK.skip ?_ | refine LK.ret' ?_ | (apply LK.condF2; (focus (exact rfl)); (focus (with_reducible rfl)); (focus (first | with_reducible rfl | decide | (with_reducible exact Bool.false_and _) | (with_reducible exact congrArg (fun b => b && _) (Bool.false_and _))))) | refine LK.regc ?_ | (apply retQ; (focus (first | exact lres_one rfl | exact lres_more rfl | (simp only [lres, lresv, Try.results3, go_sem, ↓reduceIte, Nat.reduceEqDiff, reduceCtorEq, Nat.reduceLT, Nat.reduceAdd, Int.reduceBEq, Int.reduceBNe, Int.reduceEq, Int.reduceLE, Int.reduceLT, Int.reduceToNat, Nat.reduceLeDiff, Nat.reduceMul, Nat.reduceSub, hn]; exact rfl)))) | (apply LOps.locFn; (focus (first | exact Goes.free | exact Goes.on rfl rfl (by with_reducible rfl) true (by decide))); (focus (exact rfl)); (focus (exact rfl)); (focus (simp only [go_sem, ↓reduceIte]; exact rfl)); (focus (simp only [go_sem])); (focus (first | exact live_fun | exact h2 | exact h3)); (focus (first | rfl | simp [go_sem])); (focus (first | rfl | simp [go_sem]))) | (apply LOps.and2; exact rfl; exact rfl; exact rfl; exact rfl; exact rfl; (focus (with_reducible rfl)); (focus (first | kernel_rfl | rfl))) | refine Under.mk (fun hg => ?_) | fail)
  all_goals
    have w1 : IntKind.i64.wrap (n - n / 2 - n / 2) = n - n / 2 - n / 2 := by rw [IntKind.wrap_i64]; omega
    have w2 : IntKind.i64.wrap (n - (n - n / 2)) = n - (n - n / 2) := by rw [IntKind.wrap_i64]; omega
    rw [w1, w2]
    congr 3
    simp only [Bool.and_eq_true, decide_eq_true_eq, beq_iff_eq]
    omega
theorem halves_fun (n : Int) (h : (Lit.int .i64 n).wf = true) : Fun Try.prog 3 [vi n] (vb true) := by
  have hb : -9223372036854775808 ≤ n ∧ n ≤ 9223372036854775807 := by
    simp [Lit.wf, IntKind.min, IntKind.max, IntKind.bits, IntKind.signed] at h
    omega
  by_cases hn : n < 0
  · exact halves_neg n hb hn
  · exact halves_pos n hb hn
end Go.Proofs.Ytflfhgpcmocilaa
