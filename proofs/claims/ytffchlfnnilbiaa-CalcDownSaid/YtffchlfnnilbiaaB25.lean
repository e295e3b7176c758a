/- Chapter 02: CalcDown. -/
import Derived.Test.YtffchlfnnilbiaaB24
set_option linter.unusedSimpArgs false
set_option linter.unusedVariables false
namespace Go.Proofs.Ytffchlfnnilbiaa
open Go.Lw
attribute [local irreducible] LK LOps LW
theorem ordV_lt {x y : Int} (h : x < y) : ordV x y = -1 := by unfold ordV; simp [h]
theorem ordV_gt {x y : Int} (h : y < x) : ordV x y = 1 := by unfold ordV; (repeat' split) <;> omega
theorem ordV_eq {x y : Int} (h : x = y) : ordV x y = 0 := by unfold ordV; (repeat' split) <;> omega
theorem cmpR_good {a b c d : Int} (h : ¬ (b < 1 ∨ d < 1)) : cmpR a b c d = (ordV (a * d) (c * b), 0) := if_neg h
set_option maxHeartbeats 4000000 in
set_option maxRecDepth 20000 in
theorem down_err (a b c e : Int) (f : Bool) (he : (e == 0) = false) (hm : Fun Try.prog 20 [vi a, vi b, vi c] (.tup [vi 0, vi e])) (hf : (decide (a < 0) || decide (b < 0) || decide (c < 1)) = f) (h1 : (e == 1) = f) : Fun Try.prog 9 [vi a, vi b, vi c] (vb true) := by
  have hv := live_fun
  have he2 : (e != 0) = true := by simp only [bne, he]; rfl
  (refine LCalls.enter Try.func9 rfl (by simp [Try.ntmps9]) (LK.start ?_); simp only [Try.ntmps9, enterA, Nat.zero_add])
  (repeat' first | refine LOps.done ?_ | (apply LOps.mv; (focus (first | exact Goes.free | exact Goes.on rfl rfl (by with_reducible rfl) true (by decide))); (focus (exact rfl)); (focus (exact rfl))) | (apply LOps.asg; (focus (first | exact Goes.free | exact Goes.on rfl rfl (by with_reducible rfl) true (by decide))); (focus (exact rfl)); (focus (exact rfl))) | (apply LOps.ext; (focus (first | exact Goes.free | exact Goes.on rfl rfl (by with_reducible rfl) true (by decide))); (focus (exact rfl)); (focus (exact rfl)); (focus (exact rfl))) | (apply LOps.loc; (focus (first | exact Goes.free | exact Goes.on rfl rfl (by with_reducible rfl) true (by decide))); (focus (exact rfl)); (focus (exact rfl)); (focus (simp only [go_sem, ↓reduceIte, Nat.reduceEqDiff, reduceCtorEq, he2]; with_reducible rfl))) | (apply LOps.pass; (focus (first | exact Goes.on rfl rfl (by with_reducible rfl) false (by decide) | exact Goes.undef rfl rfl (by with_reducible rfl))); (focus (exact rfl))) | (apply LOps.scEnd; (focus (exact rfl)); (focus (with_reducible rfl))) | refine LK.seq ?_ | refine LK.skip ?_ | refine LK.ret' ?_ | (apply LK.condT2; (focus (exact rfl)); (focus (with_reducible rfl)); (focus (first | with_reducible rfl | decide | (with_reducible exact Bool.true_or _) | (with_reducible exact congrArg (fun b => b || _) (Bool.true_or _))))) | (apply LK.condF2; (focus (exact rfl)); (focus (with_reducible rfl)); (focus (first | with_reducible rfl | decide | (with_reducible exact Bool.false_and _) | (with_reducible exact congrArg (fun b => b && _) (Bool.false_and _))))) | refine LK.regc ?_ | (apply retQ; (focus (first | exact lres_one rfl | exact lres_more rfl | (simp only [lres, lresv, Try.results9, go_sem, ↓reduceIte, Nat.reduceEqDiff, reduceCtorEq, Nat.reduceLT, Nat.reduceAdd, Int.reduceBEq, Int.reduceBNe, Int.reduceEq, Int.reduceLE, Int.reduceLT, Int.reduceToNat, Nat.reduceLeDiff, Nat.reduceMul, Nat.reduceSub, he2]; exact rfl)))) | (apply LOps.locFn; (focus (first | exact Goes.free | exact Goes.on rfl rfl (by with_reducible rfl) true (by decide))); (focus (exact rfl)); (focus (exact rfl)); (focus (simp only [go_sem, ↓reduceIte, Nat.reduceEqDiff]; exact rfl)); (focus (simp only [go_sem])); (focus (first | exact hv | exact hm)); (focus (first | rfl | simp [go_sem])); (focus (first | rfl | simp [go_sem]))) | (apply LOps.and2; exact rfl; exact rfl; exact rfl; exact rfl; exact rfl; (focus (with_reducible rfl)); (focus (first | kernel_rfl | rfl))) | (apply LOps.or2; exact rfl; exact rfl; exact rfl; exact rfl; exact rfl; (focus (with_reducible rfl)); (focus (first | kernel_rfl | rfl))) | refine Under.mk (fun hg => ?_) | fail)
  all_goals (rw [hf, h1]; simp)
set_option maxHeartbeats 4000000 in
set_option maxRecDepth 20000 in
theorem down_zero (a c : Int) (hm : Fun Try.prog 20 [vi a, vi 0, vi c] (.tup [vi 0, vi 0])) : Fun Try.prog 9 [vi a, vi 0, vi c] (vb true) := by
  have hv := live_fun
  (refine LCalls.enter Try.func9 rfl (by simp [Try.ntmps9]) (LK.start ?_); simp only [Try.ntmps9, enterA, Nat.zero_add])
  (repeat' first | refine LOps.done ?_ | (apply LOps.mv; (focus (first | exact Goes.free | exact Goes.on rfl rfl (by with_reducible rfl) true (by decide))); (focus (exact rfl)); (focus (exact rfl))) | (apply LOps.asg; (focus (first | exact Goes.free | exact Goes.on rfl rfl (by with_reducible rfl) true (by decide))); (focus (exact rfl)); (focus (exact rfl))) | (apply LOps.ext; (focus (first | exact Goes.free | exact Goes.on rfl rfl (by with_reducible rfl) true (by decide))); (focus (exact rfl)); (focus (exact rfl)); (focus (exact rfl))) | (apply LOps.loc; (focus (first | exact Goes.free | exact Goes.on rfl rfl (by with_reducible rfl) true (by decide))); (focus (exact rfl)); (focus (exact rfl)); (focus (simp only [go_sem, ↓reduceIte, Nat.reduceEqDiff, reduceCtorEq, Int.reduceBNe]; with_reducible rfl))) | refine LK.seq ?_ | refine LK.skip ?_ | refine LK.ret' ?_ | (apply LK.condT2; (focus (exact rfl)); (focus (with_reducible rfl)); (focus (first | with_reducible rfl | decide | (with_reducible exact Bool.true_or _) | (with_reducible exact congrArg (fun b => b || _) (Bool.true_or _))))) | (apply LK.condF2; (focus (exact rfl)); (focus (with_reducible rfl)); (focus (first | with_reducible rfl | decide | (with_reducible exact Bool.false_and _) | (with_reducible exact congrArg (fun b => b && _) (Bool.false_and _))))) | refine LK.regc ?_ | (apply retQ; (focus (first | exact lres_one rfl | exact lres_more rfl | (simp only [lres, lresv, Try.results9, go_sem, ↓reduceIte, Nat.reduceEqDiff, reduceCtorEq, Nat.reduceLT, Nat.reduceAdd, Int.reduceBEq, Int.reduceBNe, Int.reduceEq, Int.reduceLE, Int.reduceLT, Int.reduceToNat, Nat.reduceLeDiff, Nat.reduceMul, Nat.reduceSub]; exact rfl)))) | (apply LOps.locFn; (focus (first | exact Goes.free | exact Goes.on rfl rfl (by with_reducible rfl) true (by decide))); (focus (exact rfl)); (focus (exact rfl)); (focus (simp only [go_sem, ↓reduceIte, Nat.reduceEqDiff]; exact rfl)); (focus (simp only [go_sem])); (focus (first | exact hv | exact hm)); (focus (first | rfl | simp [go_sem])); (focus (first | rfl | simp [go_sem]))) | fail)
  all_goals rfl
set_option maxHeartbeats 4000000 in
set_option maxRecDepth 20000 in
theorem down_top (a b c q lw : Int) (hb : (b == 0) = false) (hq : ¬ q < 9223372036854775807) (hl : lw ≤ 0) (hm : Fun Try.prog 20 [vi a, vi b, vi c] (.tup [vi q, vi 0])) (hc : Fun Try.prog 12 [vi q, vi b, vi a, vi c] (.tup [vi lw, vi 0])) : Fun Try.prog 9 [vi a, vi b, vi c] (vb true) := by
  have hv := live_fun
  have h1 : (q == q) = true := by simp
  (refine LCalls.enter Try.func9 rfl (by simp [Try.ntmps9]) (LK.start ?_); simp only [Try.ntmps9, enterA, Nat.zero_add])
  (repeat' first | refine LOps.done ?_ | (apply LOps.mv; (focus (first | exact Goes.free | exact Goes.on rfl rfl (by with_reducible rfl) true (by decide))); (focus (exact rfl)); (focus (exact rfl))) | (apply LOps.asg; (focus (first | exact Goes.free | exact Goes.on rfl rfl (by with_reducible rfl) true (by decide))); (focus (exact rfl)); (focus (exact rfl))) | (apply LOps.ext; (focus (first | exact Goes.free | exact Goes.on rfl rfl (by with_reducible rfl) true (by decide))); (focus (exact rfl)); (focus (exact rfl)); (focus (exact rfl))) | (apply LOps.loc; (focus (first | exact Goes.free | exact Goes.on rfl rfl (by with_reducible rfl) true (by decide))); (focus (exact rfl)); (focus (exact rfl)); (focus (simp only [go_sem, ↓reduceIte, Nat.reduceEqDiff, reduceCtorEq, Int.reduceBNe, hb, hq, hl, h1]; with_reducible rfl))) | (apply LOps.pass; (focus (first | exact Goes.on rfl rfl (by with_reducible rfl) false (by decide) | exact Goes.undef rfl rfl (by with_reducible rfl))); (focus (exact rfl))) | refine LK.seq ?_ | refine LK.skip ?_ | refine LK.ret' ?_ | (apply LK.condF2; (focus (exact rfl)); (focus (with_reducible rfl)); (focus (first | with_reducible rfl | decide | (with_reducible exact Bool.false_and _) | (with_reducible exact congrArg (fun b => b && _) (Bool.false_and _))))) | refine LK.regc ?_ | (apply retQ; (focus (first | exact lres_one rfl | exact lres_more rfl | (simp only [lres, lresv, Try.results9, go_sem, ↓reduceIte, Nat.reduceEqDiff, reduceCtorEq, Nat.reduceLT, Nat.reduceAdd, Int.reduceBEq, Int.reduceBNe, Int.reduceEq, Int.reduceLE, Int.reduceLT, Int.reduceToNat, Nat.reduceLeDiff, Nat.reduceMul, Nat.reduceSub, hb, hq, hl, h1]; exact rfl)))) | (apply LOps.locFn; (focus (first | exact Goes.free | exact Goes.on rfl rfl (by with_reducible rfl) true (by decide))); (focus (exact rfl)); (focus (exact rfl)); (focus (simp only [go_sem, ↓reduceIte, Nat.reduceEqDiff]; exact rfl)); (focus (simp only [go_sem])); (focus (first | exact hv | exact hm | exact hc)); (focus (first | rfl | simp [go_sem])); (focus (first | rfl | simp [go_sem]))) | fail)
  all_goals rfl
set_option maxHeartbeats 4000000 in
set_option maxRecDepth 20000 in
theorem down_go (a b c q lw : Int) (hb : (b == 0) = false) (hq : q < 9223372036854775807) (hw : IntKind.i64.wrap (q + 1) = q + 1) (hl : lw ≤ 0) (hm : Fun Try.prog 20 [vi a, vi b, vi c] (.tup [vi q, vi 0])) (hc : Fun Try.prog 12 [vi q, vi b, vi a, vi c] (.tup [vi lw, vi 0])) (hd : Fun Try.prog 12 [vi (q + 1), vi b, vi a, vi c] (.tup [vi 1, vi 0])) : Fun Try.prog 9 [vi a, vi b, vi c] (vb true) := by
  have hv := live_fun
  have h1 : (q + 1 == q) = false := by rw [beq_eq_false_iff_ne]; omega
  (refine LCalls.enter Try.func9 rfl (by simp [Try.ntmps9]) (LK.start ?_); simp only [Try.ntmps9, enterA, Nat.zero_add])
  (repeat' first | refine LOps.done ?_ | (apply LOps.mv; (focus (first | exact Goes.free | exact Goes.on rfl rfl (by with_reducible rfl) true (by decide))); (focus (exact rfl)); (focus (exact rfl))) | (apply LOps.asg; (focus (first | exact Goes.free | exact Goes.on rfl rfl (by with_reducible rfl) true (by decide))); (focus (exact rfl)); (focus (exact rfl))) | (apply LOps.ext; (focus (first | exact Goes.free | exact Goes.on rfl rfl (by with_reducible rfl) true (by decide))); (focus (exact rfl)); (focus (exact rfl)); (focus (exact rfl))) | (apply LOps.loc; (focus (first | exact Goes.free | exact Goes.on rfl rfl (by with_reducible rfl) true (by decide))); (focus (exact rfl)); (focus (exact rfl)); (focus (simp only [go_sem, ↓reduceIte, Nat.reduceEqDiff, reduceCtorEq, Int.reduceBNe, hb, hq, hl, h1, hw]; with_reducible rfl))) | refine LK.seq ?_ | refine LK.skip ?_ | refine LK.ret' ?_ | (apply LK.condT2; (focus (exact rfl)); (focus (with_reducible rfl)); (focus (first | with_reducible rfl | decide | (with_reducible exact Bool.true_or _) | (with_reducible exact congrArg (fun b => b || _) (Bool.true_or _))))) | (apply LK.condF2; (focus (exact rfl)); (focus (with_reducible rfl)); (focus (first | with_reducible rfl | decide | (with_reducible exact Bool.false_and _) | (with_reducible exact congrArg (fun b => b && _) (Bool.false_and _))))) | refine LK.regc ?_ | (apply retQ; (focus (first | exact lres_one rfl | exact lres_more rfl | (simp only [lres, lresv, Try.results9, go_sem, ↓reduceIte, Nat.reduceEqDiff, reduceCtorEq, Nat.reduceLT, Nat.reduceAdd, Int.reduceBEq, Int.reduceBNe, Int.reduceEq, Int.reduceLE, Int.reduceLT, Int.reduceToNat, Nat.reduceLeDiff, Nat.reduceMul, Nat.reduceSub, hb, hq, hl, h1, hw]; exact rfl)))) | (apply LOps.locFn; (focus (first | exact Goes.free | exact Goes.on rfl rfl (by with_reducible rfl) true (by decide))); (focus (exact rfl)); (focus (exact rfl)); (focus (simp only [go_sem, ↓reduceIte, Nat.reduceEqDiff]; exact rfl)); (focus (simp only [go_sem])); (focus (first | exact hv | exact hm | exact hc | exact hd)); (focus (first | rfl | simp [go_sem])); (focus (first | rfl | simp [go_sem]))) | fail)
  all_goals rfl
theorem down_fun (a b c : Int) (ia : I64 a) (ib : I64 b) (ic : I64 c) : Fun Try.prog 9 [vi a, vi b, vi c] (vb true) := by
  have hm := md_fun a b c ia ib ic
  by_cases g : a < 0 ∨ b < 0 ∨ c < 1
  · rw [show mdR a b c = (0, 1) from if_pos g] at hm
    exact down_err a b c 1 true rfl hm (by simp only [Bool.or_eq_true, decide_eq_true_eq]; omega) rfl
  · by_cases g2 : a * b / c > 9223372036854775807
    · rw [show mdR a b c = (0, 4) by unfold mdR; rw [if_neg g, if_pos g2]] at hm
      exact down_err a b c 4 false rfl hm (by simp only [Bool.or_eq_false_iff, decide_eq_false_iff_not]; omega) rfl
    · rw [show mdR a b c = (a * b / c, 0) by unfold mdR; rw [if_neg g, if_neg g2]] at hm
      by_cases hb : b = 0
      · subst hb
        rw [show a * 0 / c = 0 by simp] at hm
        exact down_zero a c hm
      · have q0 : 0 ≤ a * b / c := Int.ediv_nonneg (Int.mul_nonneg (by omega) (by omega)) (by omega)
        have e := Int.mul_ediv_add_emod (a * b) c
        have e1 := Int.emod_nonneg (a * b) (show c ≠ 0 by omega)
        have e2 := Int.emod_lt_of_pos (a * b) (show 0 < c by omega)
        rw [Int.mul_comm c] at e
        simp only at hm
        generalize a * b / c = q at *
        have hc := cmp_fun q b a c (by omega) ib ia ic
        rw [cmpR_good (by omega)] at hc
        have hl : ordV (q * c) (a * b) ≤ 0 := by
          rcases Int.lt_or_le (q * c) (a * b) with h | h
          · rw [ordV_lt h]; decide
          · rw [ordV_eq (by omega)]; decide
        by_cases hq : q < 9223372036854775807
        · have hd := cmp_fun (q + 1) b a c (by omega) ib ia ic
          rw [cmpR_good (by omega), ordV_gt (by rw [Int.add_mul, Int.one_mul]; omega)] at hd
          exact down_go a b c q _ (by rw [beq_eq_false_iff_ne]; exact hb) hq (by rw [IntKind.wrap_i64]; omega) hl hm hc hd
        · exact down_top a b c q _ (by rw [beq_eq_false_iff_ne]; exact hb) hq hl hm hc
end Go.Proofs.Ytffchlfnnilbiaa
