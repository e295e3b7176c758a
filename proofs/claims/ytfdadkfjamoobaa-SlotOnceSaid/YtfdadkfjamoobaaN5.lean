/- The walks of chapter 05: the document's New. -/
import Derived.Test.YtfdadkfjamoobaaN4
set_option linter.unusedSimpArgs false
set_option linter.unusedVariables false
namespace Go.Proofs.Ytfdadkfjamoobaa
open Go.Lw
attribute [local irreducible] LK LOps LW
set_option maxHeartbeats 4000000 in
set_option maxRecDepth 10000 in
theorem rnew_ok (n : Nat) (h1 : 1 ≤ n) (h2 : n ≤ 256) : Fun Try.prog 16 [vi n] (.tup [pl (List.replicate n 0) (List.replicate n false), vi 0]) := by
  have c1 : ¬ ((n : Int) < 1) := by omega
  have c2 : ¬ ((n : Int) > 256) := by omega
  refine Fun.frozenLe ?_
  (refine LCalls.enter Try.func16 rfl (by simp [Try.ntmps16]) (LK.start ?_); simp only [Try.ntmps16, enterA])
  (repeat' first | refine LOps.done ?_ | (apply LOps.mv; (focus (first | exact Goes.free | exact Goes.on rfl rfl (by with_reducible rfl) true (by decide))); (focus (exact rfl)); (focus (exact rfl))) | (apply LOps.loc; (focus (first | exact Goes.free | exact Goes.on rfl rfl (by with_reducible rfl) true (by decide))); (focus (exact rfl)); (focus (exact rfl)); (focus (simp only [go_sem, ↓reduceIte, Nat.reduceEqDiff, reduceCtorEq, Nat.reduceLT, Nat.reduceAdd, c1, c2]; with_reducible rfl))) | (apply LOps.loc0; (focus (first | exact Goes.free | exact Goes.on rfl rfl (by with_reducible rfl) true (by decide))); (focus (exact rfl)); (focus (simp only [go_sem, ↓reduceIte, Nat.reduceEqDiff, reduceCtorEq, Nat.reduceLT, Nat.reduceAdd]; with_reducible rfl))) | refine LK.seq ?_ | refine LK.skip ?_ | refine LK.block ?_ | (apply LK.condF2; (focus (exact rfl)); (focus (with_reducible rfl)); (focus (first | with_reducible rfl | decide | (with_reducible exact Bool.false_and _) | (with_reducible exact congrArg (fun b => b && _) (Bool.false_and _))))) | refine LK.regc ?_ | fail)
  refine LK.loop1 (fun k : Nat => n - k) (fun k => 1 ≤ k ∧ k ≤ n) (fun k => ⟨28, [(2, .ptr 0 1 0 0), (4, .ptr 1 1 0 0), (13, vi n), (14, vi k)]⟩) (fun k => [(0, .arr 2 [[nil0, nil0]]), (1, .arr 2 [[.own 3 k 0 k, .own 5 k 0 k]]), (3, .arr 1 (oF (cI .i64) (List.replicate k 0))), (5, .arr 1 (oF cB (List.replicate k false)))]) n 6 (by decide) ?_ ?_
  · intro J hJ
    have c3 : ((0 : Int) < (n : Int)) := by omega
    have m1 : 1 ≤ maxLen := by simp only [maxLen]; omega
    have m2 : 1 ≤ maxLen ∧ 1 * 8 ≤ 140737488355328 := by simp only [maxLen]; omega
    have m3 : 1 ≤ maxLen ∧ 1 * 1 ≤ 140737488355328 := by simp only [maxLen]; omega
    (repeat' first | refine LOps.done ?_ | (apply LOps.mv; (focus (first | exact Goes.free | exact Goes.on rfl rfl (by with_reducible rfl) true (by decide))); (focus (exact rfl)); (focus (exact rfl))) | (apply LOps.loc; (focus (first | exact Goes.free | exact Goes.on rfl rfl (by with_reducible rfl) true (by decide))); (focus (exact rfl)); (focus (exact rfl)); (focus (simp only [go_sem, ↓reduceIte, Nat.reduceEqDiff, reduceCtorEq, Nat.reduceLT, Nat.reduceAdd, Nat.reduceLeDiff, c3, m1, m2, m3]; with_reducible rfl))) | (apply LOps.loc0; (focus (first | exact Goes.free | exact Goes.on rfl rfl (by with_reducible rfl) true (by decide))); (focus (exact rfl)); (focus (simp only [go_sem, ↓reduceIte, Nat.reduceEqDiff, reduceCtorEq, Nat.reduceLT, Nat.reduceAdd, Nat.reduceLeDiff]; with_reducible rfl))) | refine LK.seq ?_ | refine LK.skip ?_ | refine LK.block ?_ | refine LK.blk ?_ | refine LK.fin ?_ | (apply LK.condT2; (focus (exact rfl)); (focus (with_reducible rfl)); (focus (first | with_reducible rfl | decide | (with_reducible exact Bool.true_or _) | (with_reducible exact congrArg (fun b => b || _) (Bool.true_or _))))) | refine LK.regc ?_ | fail)
    apply hJ
    exact ⟨1, ⟨Nat.le_refl _, h1⟩, by omega, (Sub.by rfl rfl (by first | rfl | (simp only [subB, MB_all_under, MI_all_under, MB_all_idp, MI_all_idp, oF_under, oF_idp, oF_all_under, oF_all_idp, MB_under, MI_under, MB_idp, MI_idp, evOk, ovOk, nvOk, keepOf, vis, LV.under, LV.unders, LV.idp, LV.idps, LO.under, LO.idp, under_pv, idp_pv, List.all_cons, List.all_nil, List.any_cons, List.any_nil, Nat.reduceBEq, beq_self_eq_true, Bool.and_true, Bool.true_and, Bool.or_true, Bool.true_or, Bool.or_false, Bool.false_or, decide_true, decide_false, Nat.reduceLT, Nat.reduceLeDiff, Nat.le_refl, Nat.reduceAdd, Bool.and_self, Bool.or_self]; done)))⟩
  · rintro k ⟨hk1, hk⟩ J hJ
    rcases Nat.lt_or_ge k n with hlt | hge
    · have c3 : ((k : Int) < (n : Int)) := by omega
      have hw := wrapn (n := k) (by omega)
      have g1 : k + 1 ≤ maxLen ∧ (k + 1) * 8 ≤ 140737488355328 := by simp only [maxLen]; omega
      have g2 : k + 1 ≤ maxLen ∧ (k + 1) * 1 ≤ 140737488355328 := by simp only [maxLen]; omega
      have g3 : k + 1 ≤ maxLen ∧ (k + 1) ≤ 140737488355328 := by simp only [maxLen]; omega
      have r1 : (List.replicate k (0 : Int)).length = k := List.length_replicate
      have r2 : (List.replicate k false).length = k := List.length_replicate
      have s1 : List.replicate k (0 : Int) ++ [0] = List.replicate (k + 1) 0 := List.replicate_succ'.symm
      have s2 : List.replicate k false ++ [false] = List.replicate (k + 1) false := List.replicate_succ'.symm
      (repeat' first | refine LOps.done ?_ | (apply LOps.mv; (focus (first | exact Goes.free | exact Goes.on rfl rfl (by with_reducible rfl) true (by decide))); (focus (exact rfl)); (focus (exact rfl))) | (apply LOps.loc; (focus (first | exact Goes.free | exact Goes.on rfl rfl (by with_reducible rfl) true (by decide))); (focus (exact rfl)); (focus (exact rfl)); (focus (simp only [go_sem, ↓reduceIte, Nat.reduceEqDiff, reduceCtorEq, Nat.reduceLT, Nat.reduceAdd, Nat.reduceLeDiff, c3, hw, g1, g3, r1, r2, s1, s2]; with_reducible rfl))) | (apply LOps.loc0; (focus (first | exact Goes.free | exact Goes.on rfl rfl (by with_reducible rfl) true (by decide))); (focus (exact rfl)); (focus (simp only [go_sem, ↓reduceIte, Nat.reduceEqDiff, reduceCtorEq, Nat.reduceLT, Nat.reduceAdd, Nat.reduceLeDiff]; with_reducible rfl))) | refine LK.seq ?_ | refine LK.skip ?_ | refine LK.block ?_ | refine LK.blk ?_ | refine LK.fin ?_ | (apply LK.condT2; (focus (exact rfl)); (focus (with_reducible rfl)); (focus (first | with_reducible rfl | decide | (with_reducible exact Bool.true_or _) | (with_reducible exact congrArg (fun b => b || _) (Bool.true_or _))))) | refine LK.regc ?_ | fail)
      apply hJ
      exact ⟨k + 1, ⟨by omega, hlt⟩, by omega, (Sub.by rfl rfl (by first | rfl | (simp only [subB, oF_all_under, LV.under, LO.under, List.all_cons, List.all_nil, decide_true, Nat.reduceLT, Bool.and_self]; done)))⟩
    · obtain rfl : k = n := by omega
      have c3 : ¬ ((k : Int) < (k : Int)) := by omega
      have r1 : (List.replicate k (0 : Int)).length = k := List.length_replicate
      have r2 : (List.replicate k false).length = k := List.length_replicate
      have t1 : (List.replicate k (0 : Int)).take k = List.replicate k 0 := List.take_of_length_le (by simp)
      have t2 : (List.replicate k false).take k = List.replicate k false := List.take_of_length_le (by simp)
      (repeat' first | refine LOps.done ?_ | (apply LOps.loc; (focus (first | exact Goes.free | exact Goes.on rfl rfl (by with_reducible rfl) true (by decide))); (focus (exact rfl)); (focus (exact rfl)); (focus (simp only [go_sem, ↓reduceIte, Nat.reduceEqDiff, reduceCtorEq, Nat.reduceAdd, c3]; with_reducible rfl))) | (apply LOps.loc0; (focus (first | exact Goes.free | exact Goes.on rfl rfl (by with_reducible rfl) true (by decide))); (focus (exact rfl)); (focus (simp only [go_sem, ↓reduceIte, Nat.reduceEqDiff, Nat.reduceLT, Nat.reduceAdd]; with_reducible rfl))) | refine LK.seq ?_ | refine LK.ret' ?_ | refine LK.exit' rfl ?_ | (apply LK.condF2; (focus (exact rfl)); (focus (with_reducible rfl)); (focus (first | with_reducible rfl | decide | (with_reducible exact Bool.false_and _) | (with_reducible exact congrArg (fun b => b && _) (Bool.false_and _))))) | refine LK.regc ?_ | (apply retQ; (focus (first | exact lres_one rfl | exact lres_more rfl | (simp only [lres, lresv, Try.results16, go_sem, ↓reduceIte, Nat.reduceEqDiff, Nat.reduceAdd]; exact rfl)))) | fail)
      (simp only [go_sem, ↓reduceIte, Nat.reduceEqDiff, reduceCtorEq, r1, r2, t1, t2]; repeat' first | exact LV.le_refl _ | exact LV.le_nil _ | exact le_nilF _ _ | exact LV.le_any _ _ _ | refine LV.le_tup ?_ | refine LV.le_agg ?_ | exact LV.les_nil | refine LV.les_cons ?_ ?_)
set_option maxHeartbeats 4000000 in
set_option maxRecDepth 10000 in
theorem rnew_no (n : Int) (h : n < 1 ∨ 256 < n) : Fun Try.prog 16 [vi n] (.tup [pl [] [], vi 1]) := by
  have hc : (decide (n < 1) || decide (n > 256)) = true := by simp only [Bool.or_eq_true, decide_eq_true_eq]; omega
  refine Fun.frozenLe ?_
  (refine LCalls.enter Try.func16 rfl (by simp [Try.ntmps16]) (LK.start ?_); simp only [Try.ntmps16, enterA])
  (repeat' first | refine LOps.done ?_ | (apply LOps.mv; (focus (first | exact Goes.free | exact Goes.on rfl rfl (by with_reducible rfl) true (by decide))); (focus (exact rfl)); (focus (exact rfl))) | (apply LOps.loc; (focus (first | exact Goes.free | exact Goes.on rfl rfl (by with_reducible rfl) true (by decide))); (focus (exact rfl)); (focus (exact rfl)); (focus (simp only [go_sem, ↓reduceIte, Nat.reduceEqDiff, Nat.reduceLT, Nat.reduceAdd]; with_reducible rfl))) | (apply LOps.pass; (focus (first | exact Goes.on rfl rfl (by with_reducible rfl) false (by decide) | exact Goes.undef rfl rfl (by with_reducible rfl))); (focus (exact rfl))) | (apply LOps.scEnd; (focus (exact rfl)); (focus (with_reducible rfl))) | refine LK.seq ?_ | refine LK.regc ?_ | (apply LOps.or2; exact rfl; exact rfl; exact rfl; exact rfl; exact rfl; (focus (with_reducible rfl)); (focus (first | kernel_rfl | rfl))) | refine Under.mk (fun hg => ?_) | fail)
  refine LK.condT2 rfl (by first | with_reducible rfl | rfl) (hc) ?_
  (repeat' first | refine LOps.done ?_ | (apply LOps.loc; (focus (first | exact Goes.free | exact Goes.on rfl rfl (by with_reducible rfl) true (by decide))); (focus (exact rfl)); (focus (exact rfl)); (focus (simp only [go_sem, ↓reduceIte]; with_reducible rfl))) | (apply LOps.loc0; (focus (first | exact Goes.free | exact Goes.on rfl rfl (by with_reducible rfl) true (by decide))); (focus (exact rfl)); (focus (simp only [go_sem, ↓reduceIte, Nat.reduceEqDiff, Nat.reduceLT, Nat.reduceAdd]; with_reducible rfl))) | refine LK.seq ?_ | refine LK.ret' ?_ | refine LK.regc ?_ | (apply retQ; (focus (first | exact lres_one rfl | exact lres_more rfl | (simp only [lres, lresv, Try.results16, go_sem, ↓reduceIte, Nat.reduceEqDiff, Nat.reduceAdd]; exact rfl)))) | fail)
  (simp only [go_sem]; repeat' first | exact LV.le_refl _ | exact LV.le_nil _ | exact le_nilF _ _ | exact LV.le_any _ _ _ | refine LV.le_tup ?_ | refine LV.le_agg ?_ | exact LV.les_nil | refine LV.les_cons ?_ ?_)
end Go.Proofs.Ytfdadkfjamoobaa
