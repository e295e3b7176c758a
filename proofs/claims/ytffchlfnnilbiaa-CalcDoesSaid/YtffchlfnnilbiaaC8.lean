/- Chapter 02: the document: Sum, Minus, Product, Cmp. -/
import Derived.Test.YtffchlfnnilbiaaC7
set_option linter.unusedSimpArgs false
set_option linter.unusedVariables false
namespace Go.Proofs.Ytffchlfnnilbiaa
open Go.Lw
attribute [local irreducible] LK LOps LW
theorem size_le {v : Int} (i : I64 v) : 0 ≤ sizeV v ∧ sizeV v ≤ 9223372036854775808 := by unfold sizeV; split <;> omega
theorem size_mul2 (v w : Int) : sizeV (v * w) = sizeV v * sizeV w := by
  rw [size_mul]
  unfold sizeV
  by_cases hv : v < 0 <;> by_cases hw : w < 0
  · have := Int.mul_pos_of_neg_of_neg hv hw
    simp [hv, hw]; omega
  · have := Int.mul_nonpos_of_nonpos_of_nonneg (Int.le_of_lt hv) (Int.not_lt.1 hw)
    simp [hv, hw]; omega
  · have := Int.mul_nonpos_of_nonneg_of_nonpos (Int.not_lt.1 hv) (Int.le_of_lt hw)
    simp [hv, hw]; omega
  · have := Int.mul_nonneg (Int.not_lt.1 hv) (Int.not_lt.1 hw)
    simp [hv, hw]; omega
theorem size_mul_le {v w : Int} (i : I64 v) (j : I64 w) : 0 ≤ sizeV (v * w) ∧ sizeV (v * w) ≤ 85070591730234615865843651857942052864 := by
  rw [size_mul2]
  obtain ⟨h1, h2⟩ := size_le i
  obtain ⟨h3, h4⟩ := size_le j
  refine ⟨Int.mul_nonneg h1 h3, ?_⟩
  have e1 : sizeV v * sizeV w ≤ 9223372036854775808 * sizeV w := Int.mul_le_mul_of_nonneg_right h2 h3
  omega
set_option maxHeartbeats 4000000 in
set_option maxRecDepth 20000 in
theorem sum_fun (a b : Int) (ia : I64 a) (ib : I64 b) : Fun Try.prog 15 [vi a, vi b] (.tup [vi (addR a b).1, vi (addR a b).2]) := by
  have h1 := rof_fun a ia
  have h2 := rof_fun b ib
  have s1 := size_le ia
  have s2 := size_le ib
  have s3 := size_abs (a + b)
  have h3 := radd_fun a b (by omega)
  have h4 := told_fun (a + b) (by omega)
  rw [show addR a b = toldR (a + b) from rfl]
  (refine LCalls.enter Try.func15 rfl (by simp [Try.ntmps15]) (LK.start ?_); simp only [Try.ntmps15, enterA, Nat.zero_add])
  (repeat' first | refine LOps.done ?_ | (apply LOps.mv; (focus (first | exact Goes.free | exact Goes.on rfl rfl (by with_reducible rfl) true (by decide))); (focus (exact rfl)); (focus (exact rfl))) | (apply LOps.asg; (focus (first | exact Goes.free | exact Goes.on rfl rfl (by with_reducible rfl) true (by decide))); (focus (exact rfl)); (focus (exact rfl))) | (apply LOps.ext; (focus (first | exact Goes.free | exact Goes.on rfl rfl (by with_reducible rfl) true (by decide))); (focus (exact rfl)); (focus (exact rfl)); (focus (exact rfl))) | (apply LOps.loc; (focus (first | exact Goes.free | exact Goes.on rfl rfl (by with_reducible rfl) true (by decide))); (focus (exact rfl)); (focus (exact rfl)); (focus (simp only [go_sem, reduceCtorEq]; with_reducible rfl))) | refine LK.seq ?_ | refine LK.ret' ?_ | refine LK.regc ?_ | (apply retQ; (focus (first | exact lres_one rfl | exact lres_more rfl | (simp only [lres, lresv, Try.results15, go_sem, ↓reduceIte, Nat.reduceEqDiff, reduceCtorEq, Nat.reduceLT, Nat.reduceAdd, Int.reduceBEq, Int.reduceBNe, Int.reduceEq, Int.reduceLE, Int.reduceLT, Int.reduceToNat, Nat.reduceLeDiff, Nat.reduceMul, Nat.reduceSub]; exact rfl)))) | (apply LOps.locFn; (focus (first | exact Goes.free | exact Goes.on rfl rfl (by with_reducible rfl) true (by decide))); (focus (exact rfl)); (focus (exact rfl)); (focus (simp only [go_sem, ↓reduceIte, Nat.reduceEqDiff]; exact rfl)); (focus (simp only [go_sem])); (focus (first | exact h1 | exact h2 | exact h3 | exact h4)); (focus (first | rfl | simp [go_sem])); (focus (first | rfl | simp [go_sem]))) | fail)
  all_goals rfl
set_option maxHeartbeats 4000000 in
set_option maxRecDepth 20000 in
theorem minus_fun (a b : Int) (ia : I64 a) (ib : I64 b) : Fun Try.prog 17 [vi a, vi b] (.tup [vi (subR a b).1, vi (subR a b).2]) := by
  have h1 := rof_fun a ia
  have h2 := rof_fun b ib
  have s1 := size_le ia
  have s2 := size_le ib
  have s3 := size_abs (a + -b)
  have s4 := size_abs (-b)
  have h5 := rneg_fun b (by omega)
  have h3 := radd_fun a (-b) (by omega)
  have h4 := told_fun (a + -b) (by omega)
  rw [show subR a b = toldR (a + -b) from rfl]
  (refine LCalls.enter Try.func17 rfl (by simp [Try.ntmps17]) (LK.start ?_); simp only [Try.ntmps17, enterA, Nat.zero_add])
  (repeat' first | refine LOps.done ?_ | (apply LOps.mv; (focus (first | exact Goes.free | exact Goes.on rfl rfl (by with_reducible rfl) true (by decide))); (focus (exact rfl)); (focus (exact rfl))) | (apply LOps.asg; (focus (first | exact Goes.free | exact Goes.on rfl rfl (by with_reducible rfl) true (by decide))); (focus (exact rfl)); (focus (exact rfl))) | (apply LOps.ext; (focus (first | exact Goes.free | exact Goes.on rfl rfl (by with_reducible rfl) true (by decide))); (focus (exact rfl)); (focus (exact rfl)); (focus (exact rfl))) | (apply LOps.loc; (focus (first | exact Goes.free | exact Goes.on rfl rfl (by with_reducible rfl) true (by decide))); (focus (exact rfl)); (focus (exact rfl)); (focus (simp only [go_sem, reduceCtorEq]; with_reducible rfl))) | refine LK.seq ?_ | refine LK.ret' ?_ | refine LK.regc ?_ | (apply retQ; (focus (first | exact lres_one rfl | exact lres_more rfl | (simp only [lres, lresv, Try.results17, go_sem, ↓reduceIte, Nat.reduceEqDiff, reduceCtorEq, Nat.reduceLT, Nat.reduceAdd, Int.reduceBEq, Int.reduceBNe, Int.reduceEq, Int.reduceLE, Int.reduceLT, Int.reduceToNat, Nat.reduceLeDiff, Nat.reduceMul, Nat.reduceSub]; exact rfl)))) | (apply LOps.locFn; (focus (first | exact Goes.free | exact Goes.on rfl rfl (by with_reducible rfl) true (by decide))); (focus (exact rfl)); (focus (exact rfl)); (focus (simp only [go_sem, ↓reduceIte, Nat.reduceEqDiff]; exact rfl)); (focus (simp only [go_sem])); (focus (first | exact h1 | exact h2 | exact h5 | exact h3 | exact h4)); (focus (first | rfl | simp [go_sem])); (focus (first | rfl | simp [go_sem]))) | fail)
  all_goals rfl
set_option maxHeartbeats 4000000 in
set_option maxRecDepth 20000 in
theorem product_fun (a b : Int) (ia : I64 a) (ib : I64 b) : Fun Try.prog 19 [vi a, vi b] (.tup [vi (mulR a b).1, vi (mulR a b).2]) := by
  have h1 := rof_fun a ia
  have h2 := rof_fun b ib
  have s1 := size_le ia
  have s2 := size_le ib
  have s3 := size_mul_le ia ib
  have h3 := rmulI_fun a b (by omega) (by omega)
  have h4 := told_fun (a * b) (by omega)
  rw [show mulR a b = toldR (a * b) from rfl]
  (refine LCalls.enter Try.func19 rfl (by simp [Try.ntmps19]) (LK.start ?_); simp only [Try.ntmps19, enterA, Nat.zero_add])
  (repeat' first | refine LOps.done ?_ | (apply LOps.mv; (focus (first | exact Goes.free | exact Goes.on rfl rfl (by with_reducible rfl) true (by decide))); (focus (exact rfl)); (focus (exact rfl))) | (apply LOps.asg; (focus (first | exact Goes.free | exact Goes.on rfl rfl (by with_reducible rfl) true (by decide))); (focus (exact rfl)); (focus (exact rfl))) | (apply LOps.ext; (focus (first | exact Goes.free | exact Goes.on rfl rfl (by with_reducible rfl) true (by decide))); (focus (exact rfl)); (focus (exact rfl)); (focus (exact rfl))) | (apply LOps.loc; (focus (first | exact Goes.free | exact Goes.on rfl rfl (by with_reducible rfl) true (by decide))); (focus (exact rfl)); (focus (exact rfl)); (focus (simp only [go_sem, reduceCtorEq]; with_reducible rfl))) | refine LK.seq ?_ | refine LK.ret' ?_ | refine LK.regc ?_ | (apply retQ; (focus (first | exact lres_one rfl | exact lres_more rfl | (simp only [lres, lresv, Try.results19, go_sem, ↓reduceIte, Nat.reduceEqDiff, reduceCtorEq, Nat.reduceLT, Nat.reduceAdd, Int.reduceBEq, Int.reduceBNe, Int.reduceEq, Int.reduceLE, Int.reduceLT, Int.reduceToNat, Nat.reduceLeDiff, Nat.reduceMul, Nat.reduceSub]; exact rfl)))) | (apply LOps.locFn; (focus (first | exact Goes.free | exact Goes.on rfl rfl (by with_reducible rfl) true (by decide))); (focus (exact rfl)); (focus (exact rfl)); (focus (simp only [go_sem, ↓reduceIte, Nat.reduceEqDiff]; exact rfl)); (focus (simp only [go_sem])); (focus (first | exact h1 | exact h2 | exact h3 | exact h4)); (focus (first | rfl | simp [go_sem])); (focus (first | rfl | simp [go_sem]))) | fail)
  all_goals rfl
set_option maxHeartbeats 4000000 in
set_option maxRecDepth 20000 in
theorem rcmp_bad (a b c d : Int) (h : b < 1 ∨ d < 1) : Fun Try.prog 22 [vi a, vi b, vi c, vi d] (.tup [vi 0, vi 1]) := by
  have hc : (decide (b < 1) || decide (d < 1)) = true := by simp only [Bool.or_eq_true, decide_eq_true_eq]; exact h
  (refine LCalls.enter Try.func22 rfl (by simp [Try.ntmps22]) (LK.start ?_); simp only [Try.ntmps22, enterA, Nat.zero_add])
  (repeat' first | refine LOps.done ?_ | (apply LOps.mv; (focus (first | exact Goes.free | exact Goes.on rfl rfl (by with_reducible rfl) true (by decide))); (focus (exact rfl)); (focus (exact rfl))) | (apply LOps.loc; (focus (first | exact Goes.free | exact Goes.on rfl rfl (by with_reducible rfl) true (by decide))); (focus (exact rfl)); (focus (exact rfl)); (focus (simp only [go_sem, ↓reduceIte, Nat.reduceEqDiff]; with_reducible rfl))) | (apply LOps.pass; (focus (first | exact Goes.on rfl rfl (by with_reducible rfl) false (by decide) | exact Goes.undef rfl rfl (by with_reducible rfl))); (focus (exact rfl))) | (apply LOps.scEnd; (focus (exact rfl)); (focus (with_reducible rfl))) | refine LK.seq ?_ | refine LK.regc ?_ | (apply LOps.or2; exact rfl; exact rfl; exact rfl; exact rfl; exact rfl; (focus (with_reducible rfl)); (focus (first | kernel_rfl | rfl))) | refine Under.mk (fun hg => ?_) | fail)
  refine LK.condT2 rfl (by first | with_reducible rfl | rfl) (hc) ?_
  (repeat' first | refine LOps.done ?_ | (apply LOps.loc; (focus (first | exact Goes.free | exact Goes.on rfl rfl (by with_reducible rfl) true (by decide))); (focus (exact rfl)); (focus (exact rfl)); (focus (simp only [go_sem]; with_reducible rfl))) | refine LK.seq ?_ | refine LK.ret' ?_ | refine LK.regc ?_ | (apply retQ; (focus (first | exact lres_one rfl | exact lres_more rfl | (simp only [lres, lresv, Try.results22, go_sem, ↓reduceIte, Nat.reduceEqDiff, reduceCtorEq, Nat.reduceLT, Nat.reduceAdd, Int.reduceBEq, Int.reduceBNe, Int.reduceEq, Int.reduceLE, Int.reduceLT, Int.reduceToNat, Nat.reduceLeDiff, Nat.reduceMul, Nat.reduceSub]; exact rfl)))) | fail)
  all_goals rfl
set_option maxHeartbeats 4000000 in
set_option maxRecDepth 20000 in
theorem rcmp_good (a b c d : Int) (ia : I64 a) (ib : I64 b) (ic : I64 c) (id' : I64 d) (h : ¬ (b < 1 ∨ d < 1)) : Fun Try.prog 22 [vi a, vi b, vi c, vi d] (.tup [vi (ordV (a * d) (c * b)), vi 0]) := by
  have hc : (decide (b < 1) || decide (d < 1)) = false := by simp only [Bool.or_eq_false_iff, decide_eq_false_iff_not]; omega
  have h1 := rof_fun a ia
  have h2 := rof_fun b ib
  have h3 := rof_fun c ic
  have h4 := rof_fun d id'
  have s1 := size_le ia
  have s2 := size_le ib
  have s3 := size_le ic
  have s4 := size_le id'
  have s5 := size_mul_le ia id'
  have s6 := size_mul_le ic ib
  have h5 := rmulI_fun a d (by omega) (by omega)
  have h6 := rmulI_fun c b (by omega) (by omega)
  have hl := Lf_all_leaf (dg (sizeV (a * d)))
  have hl2 := Lf_all_leaf (dg (sizeV (c * b)))
  simp only [go_sem] at hl hl2
  have hn := Lf_mlen (dg (sizeV (a * d)))
  have ht := Lf_take (dg (sizeV (a * d)))
  have hn2 := Lf_mlen (dg (sizeV (c * b)))
  have ht2 := Lf_take (dg (sizeV (c * b)))
  have h7 := less_fun (a * d) (c * b) (by omega)
  have h8 := less_fun (c * b) (a * d) (by omega)
  by_cases g1 : a * d < c * b
  · rw [decide_eq_true g1] at h7
    rw [show ordV (a * d) (c * b) = -1 from if_pos g1]
    (refine LCalls.enter Try.func22 rfl (by simp [Try.ntmps22]) (LK.start ?_); simp only [Try.ntmps22, enterA, Nat.zero_add])
    (repeat' first | refine LOps.done ?_ | (apply LOps.mv; (focus (first | exact Goes.free | exact Goes.on rfl rfl (by with_reducible rfl) true (by decide))); (focus (exact rfl)); (focus (exact rfl))) | (apply LOps.loc; (focus (first | exact Goes.free | exact Goes.on rfl rfl (by with_reducible rfl) true (by decide))); (focus (exact rfl)); (focus (exact rfl)); (focus (simp only [go_sem, ↓reduceIte, Nat.reduceEqDiff]; with_reducible rfl))) | (apply LOps.pass; (focus (first | exact Goes.on rfl rfl (by with_reducible rfl) false (by decide) | exact Goes.undef rfl rfl (by with_reducible rfl))); (focus (exact rfl))) | (apply LOps.scEnd; (focus (exact rfl)); (focus (with_reducible rfl))) | refine LK.seq ?_ | refine LK.regc ?_ | (apply LOps.or2; exact rfl; exact rfl; exact rfl; exact rfl; exact rfl; (focus (with_reducible rfl)); (focus (first | kernel_rfl | rfl))) | refine Under.mk (fun hg => ?_) | fail)
    refine LK.condF2 rfl (by first | with_reducible rfl | rfl) (hc) ?_
    (repeat' first | refine LOps.done ?_ | (apply LOps.mv; (focus (first | exact Goes.free | exact Goes.on rfl rfl (by with_reducible rfl) true (by decide))); (focus (exact rfl)); (focus (exact rfl))) | (apply LOps.loc; (focus (first | exact Goes.free | exact Goes.on rfl rfl (by with_reducible rfl) true (by decide))); (focus (exact rfl)); (focus (exact rfl)); (focus (simp only [go_sem, ↓reduceIte, reduceCtorEq, Nat.reduceLT, Nat.reduceAdd, hn, ht, hn2, ht2]; with_reducible rfl))) | (apply LOps.loc0; (focus (first | exact Goes.free | exact Goes.on rfl rfl (by with_reducible rfl) true (by decide))); (focus (exact rfl)); (focus (simp only [go_sem, ↓reduceIte, Nat.reduceEqDiff, reduceCtorEq, Nat.reduceLT, Nat.reduceAdd, hl, hl2, hn, hn2]; with_reducible rfl))) | refine LK.seq ?_ | refine LK.skip ?_ | refine LK.ret' ?_ | (apply LK.condT2; (focus (exact rfl)); (focus (with_reducible rfl)); (focus (first | with_reducible rfl | decide | (with_reducible exact Bool.true_or _) | (with_reducible exact congrArg (fun b => b || _) (Bool.true_or _))))) | refine LK.regc ?_ | (apply retQ; (focus (first | exact lres_one rfl | exact lres_more rfl | (simp only [lres, lresv, Try.results22, go_sem, ↓reduceIte, Nat.reduceEqDiff, reduceCtorEq, Nat.reduceLT, Nat.reduceAdd, Int.reduceBEq, Int.reduceBNe, Int.reduceEq, Int.reduceLE, Int.reduceLT, Int.reduceToNat, Nat.reduceLeDiff, Nat.reduceMul, Nat.reduceSub, hl, hl2, hn, ht, hn2, ht2]; exact rfl)))) | (apply LOps.locFn; (focus (first | exact Goes.free | exact Goes.on rfl rfl (by with_reducible rfl) true (by decide))); (focus (exact rfl)); (focus (exact rfl)); (focus (simp only [go_sem, ↓reduceIte, Nat.reduceEqDiff]; exact rfl)); (focus (simp only [go_sem])); (focus (first | exact h1 | exact h2 | exact h3 | exact h4 | exact h5 | exact h6 | exact h7)); (focus (first | rfl | simp [go_sem])); (focus (first | rfl | simp [go_sem]))) | fail)
    all_goals rfl
  · rw [decide_eq_false g1] at h7
    by_cases g2 : c * b < a * d
    · rw [decide_eq_true g2] at h8
      rw [show ordV (a * d) (c * b) = 1 by unfold ordV; rw [if_neg g1, if_pos g2]]
      (refine LCalls.enter Try.func22 rfl (by simp [Try.ntmps22]) (LK.start ?_); simp only [Try.ntmps22, enterA, Nat.zero_add])
      (repeat' first | refine LOps.done ?_ | (apply LOps.mv; (focus (first | exact Goes.free | exact Goes.on rfl rfl (by with_reducible rfl) true (by decide))); (focus (exact rfl)); (focus (exact rfl))) | (apply LOps.loc; (focus (first | exact Goes.free | exact Goes.on rfl rfl (by with_reducible rfl) true (by decide))); (focus (exact rfl)); (focus (exact rfl)); (focus (simp only [go_sem, ↓reduceIte, Nat.reduceEqDiff]; with_reducible rfl))) | (apply LOps.pass; (focus (first | exact Goes.on rfl rfl (by with_reducible rfl) false (by decide) | exact Goes.undef rfl rfl (by with_reducible rfl))); (focus (exact rfl))) | (apply LOps.scEnd; (focus (exact rfl)); (focus (with_reducible rfl))) | refine LK.seq ?_ | refine LK.regc ?_ | (apply LOps.or2; exact rfl; exact rfl; exact rfl; exact rfl; exact rfl; (focus (with_reducible rfl)); (focus (first | kernel_rfl | rfl))) | refine Under.mk (fun hg => ?_) | fail)
      refine LK.condF2 rfl (by first | with_reducible rfl | rfl) (hc) ?_
      (repeat' first | refine LOps.done ?_ | (apply LOps.mv; (focus (first | exact Goes.free | exact Goes.on rfl rfl (by with_reducible rfl) true (by decide))); (focus (exact rfl)); (focus (exact rfl))) | (apply LOps.loc; (focus (first | exact Goes.free | exact Goes.on rfl rfl (by with_reducible rfl) true (by decide))); (focus (exact rfl)); (focus (exact rfl)); (focus (simp only [go_sem, ↓reduceIte, reduceCtorEq, Nat.reduceLT, Nat.reduceAdd, hn, ht, hn2, ht2]; with_reducible rfl))) | (apply LOps.loc0; (focus (first | exact Goes.free | exact Goes.on rfl rfl (by with_reducible rfl) true (by decide))); (focus (exact rfl)); (focus (simp only [go_sem, ↓reduceIte, Nat.reduceEqDiff, reduceCtorEq, Nat.reduceLT, Nat.reduceAdd, hl, hl2, hn, hn2]; with_reducible rfl))) | refine LK.seq ?_ | refine LK.skip ?_ | refine LK.ret' ?_ | (apply LK.condT2; (focus (exact rfl)); (focus (with_reducible rfl)); (focus (first | with_reducible rfl | decide | (with_reducible exact Bool.true_or _) | (with_reducible exact congrArg (fun b => b || _) (Bool.true_or _))))) | (apply LK.condF2; (focus (exact rfl)); (focus (with_reducible rfl)); (focus (first | with_reducible rfl | decide | (with_reducible exact Bool.false_and _) | (with_reducible exact congrArg (fun b => b && _) (Bool.false_and _))))) | refine LK.regc ?_ | (apply retQ; (focus (first | exact lres_one rfl | exact lres_more rfl | (simp only [lres, lresv, Try.results22, go_sem, ↓reduceIte, Nat.reduceEqDiff, reduceCtorEq, Nat.reduceLT, Nat.reduceAdd, Int.reduceBEq, Int.reduceBNe, Int.reduceEq, Int.reduceLE, Int.reduceLT, Int.reduceToNat, Nat.reduceLeDiff, Nat.reduceMul, Nat.reduceSub, hl, hl2, hn, ht, hn2, ht2]; exact rfl)))) | (apply LOps.locFn; (focus (first | exact Goes.free | exact Goes.on rfl rfl (by with_reducible rfl) true (by decide))); (focus (exact rfl)); (focus (exact rfl)); (focus (simp only [go_sem, ↓reduceIte, Nat.reduceEqDiff]; exact rfl)); (focus (simp only [go_sem])); (focus (first | exact h1 | exact h2 | exact h3 | exact h4 | exact h5 | exact h6 | exact h7 | exact h8)); (focus (first | rfl | simp [go_sem])); (focus (first | rfl | simp [go_sem]))) | fail)
      all_goals rfl
    · rw [decide_eq_false g2] at h8
      rw [show ordV (a * d) (c * b) = 0 by unfold ordV; rw [if_neg g1, if_neg g2]]
      (refine LCalls.enter Try.func22 rfl (by simp [Try.ntmps22]) (LK.start ?_); simp only [Try.ntmps22, enterA, Nat.zero_add])
      (repeat' first | refine LOps.done ?_ | (apply LOps.mv; (focus (first | exact Goes.free | exact Goes.on rfl rfl (by with_reducible rfl) true (by decide))); (focus (exact rfl)); (focus (exact rfl))) | (apply LOps.loc; (focus (first | exact Goes.free | exact Goes.on rfl rfl (by with_reducible rfl) true (by decide))); (focus (exact rfl)); (focus (exact rfl)); (focus (simp only [go_sem, ↓reduceIte, Nat.reduceEqDiff]; with_reducible rfl))) | (apply LOps.pass; (focus (first | exact Goes.on rfl rfl (by with_reducible rfl) false (by decide) | exact Goes.undef rfl rfl (by with_reducible rfl))); (focus (exact rfl))) | (apply LOps.scEnd; (focus (exact rfl)); (focus (with_reducible rfl))) | refine LK.seq ?_ | refine LK.regc ?_ | (apply LOps.or2; exact rfl; exact rfl; exact rfl; exact rfl; exact rfl; (focus (with_reducible rfl)); (focus (first | kernel_rfl | rfl))) | refine Under.mk (fun hg => ?_) | fail)
      refine LK.condF2 rfl (by first | with_reducible rfl | rfl) (hc) ?_
      (repeat' first | refine LOps.done ?_ | (apply LOps.mv; (focus (first | exact Goes.free | exact Goes.on rfl rfl (by with_reducible rfl) true (by decide))); (focus (exact rfl)); (focus (exact rfl))) | (apply LOps.loc; (focus (first | exact Goes.free | exact Goes.on rfl rfl (by with_reducible rfl) true (by decide))); (focus (exact rfl)); (focus (exact rfl)); (focus (simp only [go_sem, ↓reduceIte, reduceCtorEq, Nat.reduceLT, Nat.reduceAdd, hn, ht, hn2, ht2]; with_reducible rfl))) | (apply LOps.loc0; (focus (first | exact Goes.free | exact Goes.on rfl rfl (by with_reducible rfl) true (by decide))); (focus (exact rfl)); (focus (simp only [go_sem, ↓reduceIte, Nat.reduceEqDiff, reduceCtorEq, Nat.reduceLT, Nat.reduceAdd, hl, hl2, hn, hn2]; with_reducible rfl))) | refine LK.seq ?_ | refine LK.skip ?_ | refine LK.ret' ?_ | (apply LK.condF2; (focus (exact rfl)); (focus (with_reducible rfl)); (focus (first | with_reducible rfl | decide | (with_reducible exact Bool.false_and _) | (with_reducible exact congrArg (fun b => b && _) (Bool.false_and _))))) | refine LK.regc ?_ | (apply retQ; (focus (first | exact lres_one rfl | exact lres_more rfl | (simp only [lres, lresv, Try.results22, go_sem, ↓reduceIte, Nat.reduceEqDiff, reduceCtorEq, Nat.reduceLT, Nat.reduceAdd, Int.reduceBEq, Int.reduceBNe, Int.reduceEq, Int.reduceLE, Int.reduceLT, Int.reduceToNat, Nat.reduceLeDiff, Nat.reduceMul, Nat.reduceSub, hl, hl2, hn, ht, hn2, ht2]; exact rfl)))) | (apply LOps.locFn; (focus (first | exact Goes.free | exact Goes.on rfl rfl (by with_reducible rfl) true (by decide))); (focus (exact rfl)); (focus (exact rfl)); (focus (simp only [go_sem, ↓reduceIte, Nat.reduceEqDiff]; exact rfl)); (focus (simp only [go_sem])); (focus (first | exact h1 | exact h2 | exact h3 | exact h4 | exact h5 | exact h6 | exact h7 | exact h8)); (focus (first | rfl | simp [go_sem])); (focus (first | rfl | simp [go_sem]))) | fail)
      all_goals rfl
theorem rcmp_fun (a b c d : Int) (ia : I64 a) (ib : I64 b) (ic : I64 c) (id' : I64 d) : Fun Try.prog 22 [vi a, vi b, vi c, vi d] (.tup [vi (cmpR a b c d).1, vi (cmpR a b c d).2]) := by
  unfold cmpR
  by_cases h : b < 1 ∨ d < 1
  · rw [if_pos h]; exact rcmp_bad a b c d h
  · rw [if_neg h]; exact rcmp_good a b c d ia ib ic id' h
end Go.Proofs.Ytffchlfnnilbiaa
