/- Chapter 02: the document's numbers: Int. -/
import Derived.Test.YtffchlfnnilbiaaC5
set_option linter.unusedSimpArgs false
set_option linter.unusedVariables false
namespace Go.Proofs.Ytffchlfnnilbiaa
open Go.Lw
attribute [local irreducible] LK LOps LW
theorem big_not {N : Int} {k : Nat} (h : N / 65536 ^ k = 0) (h0 : 0 ≤ N) : N < 65536 ^ k := by
  have e := Int.mul_ediv_add_emod N (65536 ^ k)
  have l := Int.emod_lt_of_pos N (pw_pos k)
  rw [h] at e; omega
theorem pow_mono {j k : Nat} (h : j ≤ k) : (65536 : Int) ^ j ≤ 65536 ^ k := by
  obtain ⟨d, rfl⟩ : ∃ d, k = j + d := ⟨k - j, by omega⟩
  rw [Int.pow_add]
  have := pw_pos d
  have := pw_pos j
  have : (65536 : Int) ^ j * 1 ≤ 65536 ^ j * 65536 ^ d := Int.mul_le_mul_of_nonneg_left (by omega) (by omega)
  omega
set_option maxHeartbeats 4000000 in
set_option maxRecDepth 20000 in
theorem int_big (m : Bool) (N : Int) (h0 : 65536 ^ 4 ≤ N) (h : N < 65536 ^ 16) : Fun Try.prog 37 [bg m (dg N)] (.tup [vi 0, vb false]) := by
  have hl := Lf_all_leaf (dg N)
  simp only [go_sem] at hl
  have hn := Lf_mlen (dg N)
  (refine LCalls.enter Try.func37 rfl (by simp [Try.ntmps37]) (LK.start ?_); simp only [Try.ntmps37, enterA])
  (repeat' first | refine LOps.done ?_ | (apply LOps.loc; (focus (first | exact Goes.free | exact Goes.on rfl rfl (by with_reducible rfl) true (by decide))); (focus (exact rfl)); (focus (exact rfl)); (focus (simp only [go_sem, ↓reduceIte, Nat.reduceLT, Nat.reduceAdd, hl, hn]; with_reducible rfl))) | refine LK.seq ?_ | refine LK.block ?_ | refine LK.regc ?_ | fail)
  refine LK.loop (fun k : Nat => k) (fun k => k ≤ 16 ∧ N / 65536 ^ k = 0) (fun k => ⟨39, [(1, .ptr 0 1 0 0), (2, vi 0), (3, vb false), (4, vu 0), (5, vi ((k : Int) - 1))]⟩) (fun k => [(0, .arr 17 [bc m (dg N)])]) 16 ⟨by omega, top_eq (by omega) h⟩ (Sub.by rfl rfl (by first | rfl | (simp only [subB, MB_all_under, MI_all_under, MB_all_idp, MI_all_idp, oF_under, oF_idp, oF_all_under, oF_all_idp, MB_under, MI_under, MB_idp, MI_idp, evOk, ovOk, nvOk, keepOf, vis, LV.under, LV.unders, LV.idp, LV.idps, LO.under, LO.idp, under_pv, idp_pv, List.all_cons, List.all_nil, List.any_cons, List.any_nil, Nat.reduceBEq, beq_self_eq_true, Bool.and_true, Bool.true_and, Bool.or_true, Bool.true_or, Bool.or_false, Bool.false_or, decide_true, decide_false, Nat.reduceLT, Nat.reduceLeDiff, Nat.le_refl, Nat.reduceAdd, Bool.and_self, Bool.or_self]; done))) ?_
  rintro k ⟨hk, hq⟩ J hJ
  have hk5 : 5 ≤ k := by
    rcases Nat.lt_or_ge k 5 with hlt | hge
    · have h1 := big_not hq (by omega)
      have h2 := pow_mono (j := k) (k := 4) (by omega)
      omega
    · exact hge
  obtain ⟨i, rfl⟩ : ∃ i, k = i + 1 := ⟨k - 1, by omega⟩
  have hi : ((i + 1 : Nat) : Int) - 1 = (i : Int) := by omega
  have h1 : ((i : Int) ≥ 0) := by omega
  have h2 : ((i : Int) < 16) := by omega
  have h3 : ((i : Int) > 3) := by omega
  have h4 : ¬ ((i : Int) < 4) := by omega
  have c1 := bc_get m (dg N) (k := i) (by omega)
  have s1 := cut_step N i
  rw [hq] at s1
  have hw : IntKind.i64.wrap ((i : Int) - 1) = (i : Int) - 1 := by rw [IntKind.wrap_i64]; omega
  simp only [hi]
  by_cases g1 : dg N i > 0
  · (repeat' first | refine LOps.done ?_ | (apply LOps.mv; (focus (first | exact Goes.free | exact Goes.on rfl rfl (by with_reducible rfl) true (by decide))); (focus (exact rfl)); (focus (exact rfl))) | (apply LOps.loc; (focus (first | exact Goes.free | exact Goes.on rfl rfl (by with_reducible rfl) true (by decide))); (focus (exact rfl)); (focus (exact rfl)); (focus (simp only [go_sem, ↓reduceIte, Nat.reduceEqDiff, Nat.reduceLT, h1, h2, h3, n16, c1, g1]; with_reducible rfl))) | refine LK.seq ?_ | refine LK.skip ?_ | refine LK.block ?_ | refine LK.ret' ?_ | (apply LK.condT2; (focus (exact rfl)); (focus (with_reducible rfl)); (focus (first | with_reducible rfl | decide | (with_reducible exact Bool.true_or _) | (with_reducible exact congrArg (fun b => b || _) (Bool.true_or _))))) | refine LK.regc ?_ | (apply retQ; (focus (first | exact lres_one rfl | exact lres_more rfl | (simp only [lres, lresv, Try.results37, go_sem, ↓reduceIte, Nat.reduceEqDiff, reduceCtorEq, Nat.reduceLT, Nat.reduceAdd, Int.reduceBEq, Int.reduceBNe, Int.reduceEq, Int.reduceLE, Int.reduceLT, Int.reduceToNat, Nat.reduceLeDiff, Nat.reduceMul, Nat.reduceSub, h1, h2, h3, h4, n16, c1, g1]; exact rfl)))) | fail)
    all_goals rfl
  · have b := dg_bd N i
    (repeat' first | refine LOps.done ?_ | (apply LOps.mv; (focus (first | exact Goes.free | exact Goes.on rfl rfl (by with_reducible rfl) true (by decide))); (focus (exact rfl)); (focus (exact rfl))) | (apply LOps.asg; (focus (first | exact Goes.free | exact Goes.on rfl rfl (by with_reducible rfl) true (by decide))); (focus (exact rfl)); (focus (exact rfl))) | (apply LOps.loc; (focus (first | exact Goes.free | exact Goes.on rfl rfl (by with_reducible rfl) true (by decide))); (focus (exact rfl)); (focus (exact rfl)); (focus (simp only [go_sem, ↓reduceIte, Nat.reduceEqDiff, Nat.reduceLT, h1, h2, h3, h4, n16, c1, g1, hw]; with_reducible rfl))) | refine LK.seq ?_ | refine LK.skip ?_ | refine LK.block ?_ | refine LK.blk ?_ | refine LK.fin ?_ | (apply LK.condT2; (focus (exact rfl)); (focus (with_reducible rfl)); (focus (first | with_reducible rfl | decide | (with_reducible exact Bool.true_or _) | (with_reducible exact congrArg (fun b => b || _) (Bool.true_or _))))) | (apply LK.condF2; (focus (exact rfl)); (focus (with_reducible rfl)); (focus (first | with_reducible rfl | decide | (with_reducible exact Bool.false_and _) | (with_reducible exact congrArg (fun b => b && _) (Bool.false_and _))))) | refine LK.regc ?_ | fail)
    apply hJ
    exact ⟨i, ⟨by omega, by omega⟩, by omega, (Sub.by rfl rfl (by first | rfl | (simp only [subB, MB_all_under, MI_all_under, MB_all_idp, MI_all_idp, oF_under, oF_idp, oF_all_under, oF_all_idp, MB_under, MI_under, MB_idp, MI_idp, evOk, ovOk, nvOk, keepOf, vis, LV.under, LV.unders, LV.idp, LV.idps, LO.under, LO.idp, under_pv, idp_pv, List.all_cons, List.all_nil, List.any_cons, List.any_nil, Nat.reduceBEq, beq_self_eq_true, Bool.and_true, Bool.true_and, Bool.or_true, Bool.true_or, Bool.or_false, Bool.false_or, decide_true, decide_false, Nat.reduceLT, Nat.reduceLeDiff, Nat.le_refl, Nat.reduceAdd, Bool.and_self, Bool.or_self]; done)))⟩
def nq (N : Int) (k : Nat) : Int := if 4 ≤ k then 0 else N / 65536 ^ k
theorem nq_eq {N : Int} (a0 : 0 ≤ N) (h : N < 65536 ^ 4) (k : Nat) : nq N k = N / 65536 ^ k := by
  unfold nq
  split
  · rename_i hk
    exact (Int.ediv_eq_zero_of_lt a0 (by have := pow_mono hk; omega)).symm
  · rfl
set_option maxHeartbeats 4000000 in
set_option maxRecDepth 20000 in
theorem int_small (m : Bool) (N : Int) (a0 : 0 ≤ N) (h : N < 65536 ^ 4) (x : Int) (b : Bool) (hm : m = true → IntKind.i64.wrap (0 - IntKind.i64.wrap N) = x ∧ decide (N ≤ 9223372036854775808) = b) (hp : m = false → IntKind.i64.wrap N = x ∧ decide (N < 9223372036854775808) = b) : Fun Try.prog 37 [bg m (dg N)] (.tup [vi x, vb b]) := by
  have hl := Lf_all_leaf (dg N)
  simp only [go_sem] at hl
  have hn := Lf_mlen (dg N)
  have z0 : nq N 0 = N := by rw [nq_eq a0 h]; simp
  (refine LCalls.enter Try.func37 rfl (by simp [Try.ntmps37]) (LK.start ?_); simp only [Try.ntmps37, enterA])
  (repeat' first | refine LOps.done ?_ | (apply LOps.loc; (focus (first | exact Goes.free | exact Goes.on rfl rfl (by with_reducible rfl) true (by decide))); (focus (exact rfl)); (focus (exact rfl)); (focus (simp only [go_sem, ↓reduceIte, Nat.reduceLT, Nat.reduceAdd, hl, hn]; with_reducible rfl))) | refine LK.seq ?_ | refine LK.block ?_ | refine LK.regc ?_ | fail)
  refine LK.loop (fun k : Nat => k) (fun k => k ≤ 16) (fun k => ⟨39, [(1, .ptr 0 1 0 0), (2, vi 0), (3, vb false), (4, vu (nq N k)), (5, vi ((k : Int) - 1))]⟩) (fun k => [(0, .arr 17 [bc m (dg N)])]) 16 (by omega) (Sub.by rfl rfl (by first | rfl | (simp only [subB, MB_all_under, MI_all_under, MB_all_idp, MI_all_idp, oF_under, oF_idp, oF_all_under, oF_all_idp, MB_under, MI_under, MB_idp, MI_idp, evOk, ovOk, nvOk, keepOf, vis, LV.under, LV.unders, LV.idp, LV.idps, LO.under, LO.idp, under_pv, idp_pv, List.all_cons, List.all_nil, List.any_cons, List.any_nil, Nat.reduceBEq, beq_self_eq_true, Bool.and_true, Bool.true_and, Bool.or_true, Bool.true_or, Bool.or_false, Bool.false_or, decide_true, decide_false, Nat.reduceLT, Nat.reduceLeDiff, Nat.le_refl, Nat.reduceAdd, Bool.and_self, Bool.or_self]; done))) ?_
  rintro k hk J hJ
  rcases Nat.eq_zero_or_pos k with rfl | hpos
  · have h1 : ¬ (((0 : Nat) : Int) - 1 ≥ 0) := by omega
    simp only [z0]
    cases m
    · obtain ⟨w1, w2⟩ := hp rfl
      (repeat' first | refine LOps.done ?_ | (apply LOps.mv; (focus (first | exact Goes.free | exact Goes.on rfl rfl (by with_reducible rfl) true (by decide))); (focus (exact rfl)); (focus (exact rfl))) | (apply LOps.asg; (focus (first | exact Goes.free | exact Goes.on rfl rfl (by with_reducible rfl) true (by decide))); (focus (exact rfl)); (focus (exact rfl))) | (apply LOps.loc; (focus (first | exact Goes.free | exact Goes.on rfl rfl (by with_reducible rfl) true (by decide))); (focus (exact rfl)); (focus (exact rfl)); (focus (simp only [go_sem, ↓reduceIte, Nat.reduceLT, h1, w1, w2]; with_reducible rfl))) | refine LK.seq ?_ | refine LK.skip ?_ | refine LK.ret' ?_ | refine LK.exit' rfl ?_ | (apply LK.condF2; (focus (exact rfl)); (focus (with_reducible rfl)); (focus (first | with_reducible rfl | decide | (with_reducible exact Bool.false_and _) | (with_reducible exact congrArg (fun b => b && _) (Bool.false_and _))))) | refine LK.regc ?_ | (apply retQ; (focus (first | exact lres_one rfl | exact lres_more rfl | (simp only [lres, lresv, Try.results37, go_sem, ↓reduceIte, Nat.reduceEqDiff, reduceCtorEq, Nat.reduceLT, Nat.reduceAdd, Int.reduceBEq, Int.reduceBNe, Int.reduceEq, Int.reduceLE, Int.reduceLT, Int.reduceToNat, Nat.reduceLeDiff, Nat.reduceMul, Nat.reduceSub, h1, w1, w2]; exact rfl)))) | fail)
      all_goals rfl
    · obtain ⟨w1, w2⟩ := hm rfl
      (repeat' first | refine LOps.done ?_ | (apply LOps.mv; (focus (first | exact Goes.free | exact Goes.on rfl rfl (by with_reducible rfl) true (by decide))); (focus (exact rfl)); (focus (exact rfl))) | (apply LOps.asg; (focus (first | exact Goes.free | exact Goes.on rfl rfl (by with_reducible rfl) true (by decide))); (focus (exact rfl)); (focus (exact rfl))) | (apply LOps.loc; (focus (first | exact Goes.free | exact Goes.on rfl rfl (by with_reducible rfl) true (by decide))); (focus (exact rfl)); (focus (exact rfl)); (focus (simp only [go_sem, ↓reduceIte, Nat.reduceLT, h1, w1, w2]; with_reducible rfl))) | refine LK.seq ?_ | refine LK.ret' ?_ | refine LK.exit' rfl ?_ | (apply LK.condT2; (focus (exact rfl)); (focus (with_reducible rfl)); (focus (first | with_reducible rfl | decide | (with_reducible exact Bool.true_or _) | (with_reducible exact congrArg (fun b => b || _) (Bool.true_or _))))) | (apply LK.condF2; (focus (exact rfl)); (focus (with_reducible rfl)); (focus (first | with_reducible rfl | decide | (with_reducible exact Bool.false_and _) | (with_reducible exact congrArg (fun b => b && _) (Bool.false_and _))))) | refine LK.regc ?_ | (apply retQ; (focus (first | exact lres_one rfl | exact lres_more rfl | (simp only [lres, lresv, Try.results37, go_sem, ↓reduceIte, Nat.reduceEqDiff, reduceCtorEq, Nat.reduceLT, Nat.reduceAdd, Int.reduceBEq, Int.reduceBNe, Int.reduceEq, Int.reduceLE, Int.reduceLT, Int.reduceToNat, Nat.reduceLeDiff, Nat.reduceMul, Nat.reduceSub, h1, w1, w2]; exact rfl)))) | fail)
      all_goals rfl
  · obtain ⟨i, rfl⟩ : ∃ i, k = i + 1 := ⟨k - 1, by omega⟩
    have hi : ((i + 1 : Nat) : Int) - 1 = (i : Int) := by omega
    have h1 : ((i : Int) ≥ 0) := by omega
    have h2 : ((i : Int) < 16) := by omega
    have c1 := bc_get m (dg N) (k := i) (by omega)
    have s1 := cut_step N i
    have bd := dg_bd N i
    have hw : IntKind.i64.wrap ((i : Int) - 1) = (i : Int) - 1 := by rw [IntKind.wrap_i64]; omega
    simp only [hi]
    by_cases h3 : (i : Int) > 3
    · have h4 : ¬ ((i : Int) < 4) := by omega
      have q1 : nq N (i + 1) = nq N i := by unfold nq; rw [if_pos (by omega), if_pos (by omega)]
      have q2 : nq N (i + 1) = 0 := if_pos (by omega)
      have g1 : ¬ dg N i > 0 := by
        rw [← nq_eq a0 h, ← nq_eq a0 h, ← q1, q2] at s1; omega
      rw [q1]
      (repeat' first | refine LOps.done ?_ | (apply LOps.mv; (focus (first | exact Goes.free | exact Goes.on rfl rfl (by with_reducible rfl) true (by decide))); (focus (exact rfl)); (focus (exact rfl))) | (apply LOps.asg; (focus (first | exact Goes.free | exact Goes.on rfl rfl (by with_reducible rfl) true (by decide))); (focus (exact rfl)); (focus (exact rfl))) | (apply LOps.loc; (focus (first | exact Goes.free | exact Goes.on rfl rfl (by with_reducible rfl) true (by decide))); (focus (exact rfl)); (focus (exact rfl)); (focus (simp only [go_sem, ↓reduceIte, Nat.reduceEqDiff, Nat.reduceLT, h1, h2, h3, h4, n16, c1, g1, hw]; with_reducible rfl))) | refine LK.seq ?_ | refine LK.skip ?_ | refine LK.block ?_ | refine LK.blk ?_ | refine LK.fin ?_ | (apply LK.condT2; (focus (exact rfl)); (focus (with_reducible rfl)); (focus (first | with_reducible rfl | decide | (with_reducible exact Bool.true_or _) | (with_reducible exact congrArg (fun b => b || _) (Bool.true_or _))))) | (apply LK.condF2; (focus (exact rfl)); (focus (with_reducible rfl)); (focus (first | with_reducible rfl | decide | (with_reducible exact Bool.false_and _) | (with_reducible exact congrArg (fun b => b && _) (Bool.false_and _))))) | refine LK.regc ?_ | fail)
      apply hJ
      exact ⟨i, by omega, by omega, (Sub.by rfl rfl (by first | rfl | (simp only [subB, MB_all_under, MI_all_under, MB_all_idp, MI_all_idp, oF_under, oF_idp, oF_all_under, oF_all_idp, MB_under, MI_under, MB_idp, MI_idp, evOk, ovOk, nvOk, keepOf, vis, LV.under, LV.unders, LV.idp, LV.idps, LO.under, LO.idp, under_pv, idp_pv, List.all_cons, List.all_nil, List.any_cons, List.any_nil, Nat.reduceBEq, beq_self_eq_true, Bool.and_true, Bool.true_and, Bool.or_true, Bool.true_or, Bool.or_false, Bool.false_or, decide_true, decide_false, Nat.reduceLT, Nat.reduceLeDiff, Nat.le_refl, Nat.reduceAdd, Bool.and_self, Bool.or_self]; done)))⟩
    · have h4 : (i : Int) < 4 := by omega
      have l1 : N / 65536 ^ i ≤ N := Int.ediv_le_self _ a0
      have l2 : 0 ≤ N / 65536 ^ (i + 1) := Int.ediv_nonneg a0 (Int.le_of_lt (pw_pos _))
      rw [← nq_eq a0 h, ← nq_eq a0 h] at s1
      rw [← nq_eq a0 h] at l1 l2
      have w1 : IntKind.u64.wrap (nq N (i + 1) * 65536) = nq N (i + 1) * 65536 := by rw [IntKind.wrap_u64]; omega
      have w2 : IntKind.u64.wrap (nq N (i + 1) * 65536 + dg N i) = nq N i := by rw [IntKind.wrap_u64]; omega
      (repeat' first | refine LOps.done ?_ | (apply LOps.mv; (focus (first | exact Goes.free | exact Goes.on rfl rfl (by with_reducible rfl) true (by decide))); (focus (exact rfl)); (focus (exact rfl))) | (apply LOps.asg; (focus (first | exact Goes.free | exact Goes.on rfl rfl (by with_reducible rfl) true (by decide))); (focus (exact rfl)); (focus (exact rfl))) | (apply LOps.loc; (focus (first | exact Goes.free | exact Goes.on rfl rfl (by with_reducible rfl) true (by decide))); (focus (exact rfl)); (focus (exact rfl)); (focus (simp only [go_sem, ↓reduceIte, Nat.reduceEqDiff, Nat.reduceLT, h1, h2, h3, h4, n16, c1, hw, w1, w2]; with_reducible rfl))) | (apply LOps.pass; (focus (first | exact Goes.on rfl rfl (by with_reducible rfl) false (by decide) | exact Goes.undef rfl rfl (by with_reducible rfl))); (focus (exact rfl))) | refine LK.seq ?_ | refine LK.skip ?_ | refine LK.block ?_ | refine LK.blk ?_ | refine LK.fin ?_ | (apply LK.condT2; (focus (exact rfl)); (focus (with_reducible rfl)); (focus (first | with_reducible rfl | decide | (with_reducible exact Bool.true_or _) | (with_reducible exact congrArg (fun b => b || _) (Bool.true_or _))))) | (apply LK.condF2; (focus (exact rfl)); (focus (with_reducible rfl)); (focus (first | with_reducible rfl | decide | (with_reducible exact Bool.false_and _) | (with_reducible exact congrArg (fun b => b && _) (Bool.false_and _))))) | refine LK.regc ?_ | fail)
      apply hJ
      exact ⟨i, by omega, by omega, (Sub.by rfl rfl (by first | rfl | (simp only [subB, MB_all_under, MI_all_under, MB_all_idp, MI_all_idp, oF_under, oF_idp, oF_all_under, oF_all_idp, MB_under, MI_under, MB_idp, MI_idp, evOk, ovOk, nvOk, keepOf, vis, LV.under, LV.unders, LV.idp, LV.idps, LO.under, LO.idp, under_pv, idp_pv, List.all_cons, List.all_nil, List.any_cons, List.any_nil, Nat.reduceBEq, beq_self_eq_true, Bool.and_true, Bool.true_and, Bool.or_true, Bool.true_or, Bool.or_false, Bool.false_or, decide_true, decide_false, Nat.reduceLT, Nat.reduceLeDiff, Nat.le_refl, Nat.reduceAdd, Bool.and_self, Bool.or_self]; done)))⟩
end Go.Proofs.Ytffchlfnnilbiaa
