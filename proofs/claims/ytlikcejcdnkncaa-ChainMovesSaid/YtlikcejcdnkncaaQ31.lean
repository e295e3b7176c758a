/- Chapter 06: the law ChainMoves. -/
import Derived.Test.YtlikcejcdnkncaaQ30
set_option linter.unusedSimpArgs false
set_option linter.unusedVariables false
namespace Go.Proofs.Ytlikcejcdnkncaa
open Go.Lw
attribute [local irreducible] LK LOps LW
theorem same_int (x : Int) : (x == x) = true := by simp
set_option maxHeartbeats 4000000 in
set_option maxRecDepth 20000 in
theorem moves_skip (n h t : List Int) (i x j : Int) (g : fewC n h t = false) : Fun Try.prog 5 [cv n h t, vi i, vi x, vi j] (vb true) := by
  have h1 := live_fun
  have h2 := few_fun n h t
  rw [g] at h2
  have nff : (!false) = true := rfl
  (refine LCalls.enter Try.func5 rfl (by simp [Try.ntmps5]) (LK.start ?_); simp only [Try.ntmps5, enterA, Nat.zero_add])
  (repeat' first | refine LOps.done ?_ | (apply LOps.mv; (focus (first | exact Goes.free | exact Goes.on rfl rfl (by with_reducible rfl) true (by decide))); (focus (exact rfl)); (focus (exact rfl))) | (apply LOps.asg; (focus (first | exact Goes.free | exact Goes.on rfl rfl (by with_reducible rfl) true (by decide))); (focus (exact rfl)); (focus (exact rfl))) | (apply LOps.loc; (focus (first | exact Goes.free | exact Goes.on rfl rfl (by with_reducible rfl) true (by decide))); (focus (exact rfl)); (focus (exact rfl)); (focus (simp only [go_sem, ↓reduceIte, reduceCtorEq, Nat.reduceLT, Nat.reduceAdd, nff]; with_reducible rfl))) | refine LK.seq ?_ | refine LK.ret' ?_ | (apply LK.condT2; (focus (exact rfl)); (focus (with_reducible rfl)); (focus (first | with_reducible rfl | decide | (with_reducible exact Bool.true_or _) | (with_reducible exact congrArg (fun b => b || _) (Bool.true_or _))))) | refine LK.regc ?_ | (apply retQ; (focus (first | exact lres_one rfl | exact lres_more rfl | (simp only [lres, lresv, Try.results5, go_sem, ↓reduceIte, Nat.reduceEqDiff, reduceCtorEq, Nat.reduceLT, Nat.reduceAdd, Int.reduceBEq, Int.reduceBNe, Int.reduceEq, Int.reduceLE, Int.reduceLT, Int.reduceToNat, Nat.reduceLeDiff, Nat.reduceMul, Nat.reduceSub, nff]; exact rfl)))) | (apply LOps.locFn; (focus (first | exact Goes.free | exact Goes.on rfl rfl (by with_reducible rfl) true (by decide))); (focus (exact rfl)); (focus (exact rfl)); (focus (simp only [go_sem, ↓reduceIte]; exact rfl)); (focus (simp only [go_sem])); (focus (first | exact h1 | exact h2)); (focus (first | rfl | simp [go_sem])); (focus (first | rfl | simp [go_sem]))) | fail)
  all_goals rfl
set_option maxHeartbeats 4000000 in
set_option maxRecDepth 20000 in
theorem moves_err (n h t : List Int) (i x j : Int) (g : fewC n h t = true) (e : Int) (f1 : Fun Try.prog 17 [cv n h t, vi i, vi x] (.tup [cv [] [] [], vi e])) (f2 : Fun Try.prog 18 [cv n h t, vi i, vi x] (.tup [cv [] [] [], vi e])) (hc : Fun Try.prog 16 [cv n h t] (cv n h t)) (hs : Fun Try.prog 24 [cv n h t, cv n h t] (vb true))
    (v : Int) (n2 h2 t2 : List Int) (e2 : Int) (p1 : Fun Try.prog 12 [cv n h t, vi i] (.tup [vi v, cv n2 h2 t2, vi e2])) (p2 : Fun Try.prog 19 [cv n h t, vi i] (.tup [vi v, cv n2 h2 t2, vi e2])) (p3 : Fun Try.prog 24 [cv n2 h2 t2, cv n2 h2 t2] (vb true))
    (n3 h3 t3 : List Int) (e3 : Int) (c1 : Fun Try.prog 20 [cv n h t, vi x] (.tup [cv n3 h3 t3, vi e3])) (c2 : Fun Try.prog 21 [cv n h t, vi x] (.tup [cv n3 h3 t3, vi e3])) (c3 : Fun Try.prog 24 [cv n3 h3 t3, cv n3 h3 t3] (vb true))
    (n4 h4 t4 : List Int) (e4 : Int) (j1 : Fun Try.prog 22 [cv n h t, vi i, vi j] (.tup [cv n4 h4 t4, vi e4])) (j2 : Fun Try.prog 23 [cv n h t, vi i, vi j] (.tup [cv n4 h4 t4, vi e4])) (j3 : Fun Try.prog 24 [cv n4 h4 t4, cv n4 h4 t4] (vb true)) : Fun Try.prog 5 [cv n h t, vi i, vi x, vi j] (vb true) := by
  have l1 := live_fun
  have l2 := few_fun n h t
  rw [g] at l2
  have f3 : Fun Try.prog 24 [cv [] [] [], cv [] [] []] (vb true) := rsame_self lenB_nil
  have ntt : (!true) = false := rfl
  have z1 : ((([] : List Int).length : Nat) : Int) = 0 := rfl
  (refine LCalls.enter Try.func5 rfl (by simp [Try.ntmps5]) (LK.start ?_); simp only [Try.ntmps5, enterA, Nat.zero_add])
  (repeat' first | refine LOps.done ?_ | (apply LOps.mv; (focus (first | exact Goes.free | exact Goes.on rfl rfl (by with_reducible rfl) true (by decide))); (focus (exact rfl)); (focus (exact rfl))) | (apply LOps.asg; (focus (first | exact Goes.free | exact Goes.on rfl rfl (by with_reducible rfl) true (by decide))); (focus (exact rfl)); (focus (exact rfl))) | (apply LOps.ext; (focus (first | exact Goes.free | exact Goes.on rfl rfl (by with_reducible rfl) true (by decide))); (focus (exact rfl)); (focus (exact rfl)); (focus (exact rfl))) | (apply LOps.loc; (focus (first | exact Goes.free | exact Goes.on rfl rfl (by with_reducible rfl) true (by decide))); (focus (exact rfl)); (focus (exact rfl)); (focus (simp only [go_sem, ↓reduceIte, Nat.reduceEqDiff, reduceCtorEq, Nat.reduceLT, Nat.reduceAdd, ntt, same_int]; with_reducible rfl))) | (apply LOps.loc0; (focus (first | exact Goes.free | exact Goes.on rfl rfl (by with_reducible rfl) true (by decide))); (focus (exact rfl)); (focus (simp only [go_sem, ↓reduceIte, Nat.reduceEqDiff, reduceCtorEq, Nat.reduceLT, Nat.reduceAdd]; with_reducible rfl))) | refine LK.seq ?_ | refine LK.skip ?_ | refine LK.block ?_ | refine LK.ret' ?_ | refine LK.exit' rfl ?_ | (apply LK.condF2; (focus (exact rfl)); (focus (with_reducible rfl)); (focus (first | with_reducible rfl | decide | (with_reducible exact Bool.false_and _) | (with_reducible exact congrArg (fun b => b && _) (Bool.false_and _))))) | refine LK.regc ?_ | (apply retQ; (focus (first | exact lres_one rfl | exact lres_more rfl | (simp only [lres, lresv, Try.results5, go_sem, ↓reduceIte, Nat.reduceEqDiff, reduceCtorEq, Nat.reduceLT, Nat.reduceAdd, Int.reduceBEq, Int.reduceBNe, Int.reduceEq, Int.reduceLE, Int.reduceLT, Int.reduceToNat, Nat.reduceLeDiff, Nat.reduceMul, Nat.reduceSub, ntt, same_int, z1, wrap_small, Int.reduceAdd, Int.reduceSub, Int.reduceMul, Int.reduceMod, Int.reduceNeg, Int.reduceToNat, Int.reduceLT, Int.reduceLE, Int.reduceGT, Int.reduceGE, Int.zero_add, Int.add_zero, List.replicate_succ, List.replicate_zero, Nat.reduceSub]; exact rfl)))) | (apply LOps.locFn; (focus (first | exact Goes.free | exact Goes.on rfl rfl (by with_reducible rfl) true (by decide))); (focus (exact rfl)); (focus (exact rfl)); (focus (simp only [go_sem, ↓reduceIte, Nat.reduceEqDiff]; exact rfl)); (focus (simp only [go_sem])); (focus (first | exact l1 | exact l2 | exact f1 | exact f2 | exact f3 | exact hc | exact hs | exact p1 | exact p2 | exact p3 | exact c1 | exact c2 | exact c3 | exact j1 | exact j2 | exact j3)); (focus (first | rfl | simp [go_sem])); (focus (first | rfl | simp [go_sem]))) | refine LK.rounds 1 ?_ | fail)
  all_goals rfl
end Go.Proofs.Ytlikcejcdnkncaa
