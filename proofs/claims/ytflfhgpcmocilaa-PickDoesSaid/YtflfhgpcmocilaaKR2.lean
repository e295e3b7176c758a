/- The walks of chapter 16 (as in chapter 03): the document's answer, Order. -/
import Derived.Test.YtflfhgpcmocilaaKR1
set_option linter.unusedSimpArgs false
set_option linter.unusedVariables false
namespace Go.Proofs.Ytflfhgpcmocilaa
open Go.Lw
attribute [local irreducible] LK LOps LW
theorem iota_push (k : Nat) : iota k ++ [(k : Int)] = iota (k + 1) := by
  unfold iota
  rw [List.range_succ, List.map_append]; rfl
set_option maxHeartbeats 4000000 in
set_option maxRecDepth 10000 in
theorem rorder_bad (l : List Int) (a n : Int) (h : oOk l a n = false) : Fun Try.prog 31 [dv l a, vi n] (.tup [sI [], noDice, vi 1]) := by
  have hck := rcheck_fun l a
  have hc : (chk l a != 0 || decide (n < 0) || decide (n > 256)) = true := by
    refine bad_or ?_
    simp only [oOk, Bool.and_eq_false_iff, beq_eq_false_iff_ne, decide_eq_false_iff_not] at h
    rcases h with (h | h) | h
    · exact .inl (by simpa using h)
    · exact .inr (.inl (by simp; omega))
    · exact .inr (.inr (by simp; omega))
  refine Fun.frozenLe ?_
  (refine LCalls.enter Try.func31 rfl (by simp [Try.ntmps31]) (LK.start ?_); simp only [Try.ntmps31, enterA, Nat.zero_add])
  (repeat' first | refine LOps.done ?_ | (apply LOps.mv; (focus (first | exact Goes.free | exact Goes.on rfl rfl (by with_reducible rfl) true (by decide))); (focus (exact rfl)); (focus (exact rfl))) | (apply LOps.loc; (focus (first | exact Goes.free | exact Goes.on rfl rfl (by with_reducible rfl) true (by decide))); (focus (exact rfl)); (focus (exact rfl)); (focus (simp only [go_sem, ↓reduceIte, Nat.reduceEqDiff, reduceCtorEq, Nat.reduceLT, Nat.reduceAdd]; with_reducible rfl))) | (apply LOps.pass; (focus (first | exact Goes.on rfl rfl (by with_reducible rfl) false (by decide) | exact Goes.undef rfl rfl (by with_reducible rfl))); (focus (exact rfl))) | (apply LOps.scEnd; (focus (exact rfl)); (focus (with_reducible rfl))) | refine LK.seq ?_ | refine LK.regc ?_ | (apply LOps.locFn; (focus (first | exact Goes.free | exact Goes.on rfl rfl (by with_reducible rfl) true (by decide))); (focus (exact rfl)); (focus (exact rfl)); (focus (simp only [go_sem, ↓reduceIte]; exact rfl)); (focus (simp only [go_sem])); (focus (exact hck)); (focus (first | rfl | simp [go_sem])); (focus (first | rfl | simp [go_sem]))) | (apply LOps.or2; exact rfl; exact rfl; exact rfl; exact rfl; exact rfl; (focus (with_reducible rfl)); (focus (first | kernel_rfl | rfl))) | refine Under.mk (fun hg => ?_) | fail)
  refine LK.condT2 rfl (by first | with_reducible rfl | rfl) (hc) ?_
  (repeat' first | refine LOps.done ?_ | (apply LOps.loc; (focus (first | exact Goes.free | exact Goes.on rfl rfl (by with_reducible rfl) true (by decide))); (focus (exact rfl)); (focus (exact rfl)); (focus (simp only [go_sem, ↓reduceIte]; with_reducible rfl))) | (apply LOps.loc0; (focus (first | exact Goes.free | exact Goes.on rfl rfl (by with_reducible rfl) true (by decide))); (focus (exact rfl)); (focus (simp only [go_sem, ↓reduceIte, Nat.reduceEqDiff, reduceCtorEq, Nat.reduceLT, Nat.reduceAdd]; with_reducible rfl))) | refine LK.seq ?_ | refine LK.ret' ?_ | refine LK.regc ?_ | (apply retQ; (focus (first | exact lres_one rfl | exact lres_more rfl | (simp only [lres, lresv, Try.results31, go_sem, ↓reduceIte, Nat.reduceEqDiff, reduceCtorEq, Nat.reduceAdd]; exact rfl)))) | fail)
  (simp only [go_sem]; repeat' first | exact LV.le_refl _ | exact LV.le_nil _ | exact le_nilF _ _ | exact LV.le_any _ _ _ | refine LV.le_tup ?_ | refine LV.le_agg ?_ | exact LV.les_nil | refine LV.les_cons ?_ ?_)
set_option maxHeartbeats 4000000 in
set_option maxRecDepth 10000 in
theorem rorder_ok (l : List Int) (a n : Nat) (ha : a ≤ l.length) (hb : octB l) (hl : l.length ≤ 100000) (hn : n ≤ 256) : Fun Try.prog 31 [dv l a, vi n] (.tup [sI (orderL l a n), dv l (orderN l a n : Nat), vi 0]) := by
  have hck := rcheck_fun l a
  rw [chk_of ha] at hck
  have hc : (decide ((n : Int) < 0) || decide ((n : Int) > 256)) = false := by simp only [Bool.or_eq_false_iff, decide_eq_false_iff_not]; omega
  have hm : l.length ≤ maxLen ∧ l.length ≤ 140737488355328 := by simp only [maxLen]; omega
  refine Fun.frozenLe ?_
  (refine LCalls.enter Try.func31 rfl (by simp [Try.ntmps31]) (LK.start ?_); simp only [Try.ntmps31, enterA, Nat.zero_add])
  (repeat' first | refine LOps.done ?_ | (apply LOps.mv; (focus (first | exact Goes.free | exact Goes.on rfl rfl (by with_reducible rfl) true (by decide))); (focus (exact rfl)); (focus (exact rfl))) | (apply LOps.loc; (focus (first | exact Goes.free | exact Goes.on rfl rfl (by with_reducible rfl) true (by decide))); (focus (exact rfl)); (focus (exact rfl)); (focus (simp only [go_sem, ↓reduceIte, Nat.reduceEqDiff, reduceCtorEq, Nat.reduceLT, Nat.reduceAdd, Int.reduceBNe]; with_reducible rfl))) | (apply LOps.pass; (focus (first | exact Goes.on rfl rfl (by with_reducible rfl) false (by decide) | exact Goes.undef rfl rfl (by with_reducible rfl))); (focus (exact rfl))) | (apply LOps.scEnd; (focus (exact rfl)); (focus (with_reducible rfl))) | refine LK.seq ?_ | refine LK.regc ?_ | (apply LOps.locFn; (focus (first | exact Goes.free | exact Goes.on rfl rfl (by with_reducible rfl) true (by decide))); (focus (exact rfl)); (focus (exact rfl)); (focus (simp only [go_sem, ↓reduceIte]; exact rfl)); (focus (simp only [go_sem])); (focus (exact hck)); (focus (first | rfl | simp [go_sem])); (focus (first | rfl | simp [go_sem]))) | (apply LOps.or2; exact rfl; exact rfl; exact rfl; exact rfl; exact rfl; (focus (with_reducible rfl)); (focus (first | kernel_rfl | rfl))) | refine Under.mk (fun hg => ?_) | fail)
  refine LK.condF2 rfl (by first | with_reducible rfl | rfl) (hc) ?_
  (repeat' first | refine LOps.done ?_ | (apply LOps.mv; (focus (first | exact Goes.free | exact Goes.on rfl rfl (by with_reducible rfl) true (by decide))); (focus (exact rfl)); (focus (exact rfl))) | (apply LOps.loc; (focus (first | exact Goes.free | exact Goes.on rfl rfl (by with_reducible rfl) true (by decide))); (focus (exact rfl)); (focus (exact rfl)); (focus (simp only [go_sem, ↓reduceIte, Nat.reduceEqDiff, reduceCtorEq, Nat.reduceLT, Nat.reduceAdd, hm]; with_reducible rfl))) | (apply LOps.loc0; (focus (first | exact Goes.free | exact Goes.on rfl rfl (by with_reducible rfl) true (by decide))); (focus (exact rfl)); (focus (simp only [go_sem, ↓reduceIte, Nat.reduceEqDiff, Nat.reduceLT, Nat.reduceAdd, Nat.reduceLeDiff]; with_reducible rfl))) | refine LK.seq ?_ | refine LK.skip ?_ | refine LK.block ?_ | refine LK.regc ?_ | fail)
  refine LK.freeze 2 [] rfl (by simp only [go_sem]; exact rfl) (by simp only [go_sem, ↓reduceIte, Nat.reduceEqDiff, reduceCtorEq]; exact rfl) ?_
  refine LK.own0 7 1 (by simp only [upd, go_sem, ↓reduceIte, Nat.reduceEqDiff, reduceCtorEq]; rfl) rfl ?_
  refine LK.loop (fun k : Nat => n - k) (fun k => k ≤ n) (fun k => ⟨71, [(1, vi n), (2, .ptr 0 1 0 0), (5, .ptr 1 1 0 0), (7, .own 3 k 0 k), (30, vi n), (31, vi k)]⟩) (fun k => [(0, .arr 2 [[sU l, vi a]]), (1, .arr 2 [[nil0, vi 0]]), (3, .arr 1 (oF (cI .i64) (iota k)))]) 0 (Nat.zero_le _) (Sub.by rfl rfl (by first | rfl | (simp only [subB, MB_all_under, MI_all_under, MB_all_idp, MI_all_idp, oF_under, oF_idp, oF_all_under, oF_all_idp, MB_under, MI_under, MB_idp, MI_idp, evOk, ovOk, nvOk, keepOf, vis, LV.under, LV.unders, LV.idp, LV.idps, LO.under, LO.idp, under_pv, idp_pv, List.all_cons, List.all_nil, List.any_cons, List.any_nil, Nat.reduceBEq, beq_self_eq_true, Bool.and_true, Bool.true_and, Bool.or_true, Bool.true_or, Bool.or_false, Bool.false_or, decide_true, decide_false, Nat.reduceLT, Nat.reduceLeDiff, Nat.le_refl, Nat.reduceAdd, Bool.and_self, Bool.or_self]; done))) ?_
  intro k hk J hJ
  have hil := iota_len k
  rcases Nat.lt_or_ge k n with hlt | hge
  · have i1 : ((k : Int) < (n : Int)) := by omega
    have hw := wrapn (n := k) (by omega)
    have hp := iota_push k
    have hr : k + 1 ≤ maxLen ∧ (k + 1) * 8 ≤ 140737488355328 := by simp only [maxLen]; omega
    (repeat' first | refine LOps.done ?_ | (apply LOps.mv; (focus (first | exact Goes.free | exact Goes.on rfl rfl (by with_reducible rfl) true (by decide))); (focus (exact rfl)); (focus (exact rfl))) | (apply LOps.asg; (focus (first | exact Goes.free | exact Goes.on rfl rfl (by with_reducible rfl) true (by decide))); (focus (exact rfl)); (focus (exact rfl))) | (apply LOps.loc; (focus (first | exact Goes.free | exact Goes.on rfl rfl (by with_reducible rfl) true (by decide))); (focus (exact rfl)); (focus (exact rfl)); (focus (simp only [go_sem, ↓reduceIte, Nat.reduceEqDiff, reduceCtorEq, Nat.reduceLT, Nat.reduceAdd, Nat.reduceLeDiff, i1, hw, hp, hr, hil]; with_reducible rfl))) | refine LK.seq ?_ | refine LK.skip ?_ | refine LK.block ?_ | refine LK.blk ?_ | refine LK.fin ?_ | (apply LK.condT2; (focus (exact rfl)); (focus (with_reducible rfl)); (focus (first | with_reducible rfl | decide | (with_reducible exact Bool.true_or _) | (with_reducible exact congrArg (fun b => b || _) (Bool.true_or _))))) | refine LK.regc ?_ | fail)
    apply hJ
    exact ⟨k + 1, hlt, by omega, (Sub.by rfl rfl (by first | rfl | (simp only [subB, oF_all_under, LV.under, LO.under, List.all_cons, List.all_nil, decide_true, Nat.reduceLT, Nat.reduceAdd, Bool.and_self]; done)))⟩
  · obtain rfl : k = n := by omega
    have i1 : ¬ ((k : Int) < (k : Int)) := by omega
    have hw1 : IntKind.i64.wrap ((k : Int) - 1) = (k : Int) - 1 := by rw [IntKind.wrap_i64]; omega
    (repeat' first | refine LOps.done ?_ | (apply LOps.mv; (focus (first | exact Goes.free | exact Goes.on rfl rfl (by with_reducible rfl) true (by decide))); (focus (exact rfl)); (focus (exact rfl))) | (apply LOps.asg; (focus (first | exact Goes.free | exact Goes.on rfl rfl (by with_reducible rfl) true (by decide))); (focus (exact rfl)); (focus (exact rfl))) | (apply LOps.loc; (focus (first | exact Goes.free | exact Goes.on rfl rfl (by with_reducible rfl) true (by decide))); (focus (exact rfl)); (focus (exact rfl)); (focus (simp only [go_sem, ↓reduceIte, Nat.reduceEqDiff, Nat.reduceAdd, i1, hw1]; with_reducible rfl))) | refine LK.seq ?_ | refine LK.block ?_ | refine LK.exit' rfl ?_ | (apply LK.condF2; (focus (exact rfl)); (focus (with_reducible rfl)); (focus (first | with_reducible rfl | decide | (with_reducible exact Bool.false_and _) | (with_reducible exact congrArg (fun b => b && _) (Bool.false_and _))))) | refine LK.regc ?_ | fail)
    refine LK.loop (fun j : Nat => k - j) (fun j => j ≤ k - 1) (fun j => ⟨71, [(1, vi k), (2, .ptr 0 1 0 0), (5, .ptr 1 1 0 0), (7, .own 3 k 0 k), (9, vi ((k : Int) - 1 - j))]⟩) (fun j => [(0, .arr 2 [[sU l, vi ((shuf l a k j).2 : Nat)]]), (1, .arr 2 [[nil0, vi 0]]), (3, .arr 1 (oF (cI .i64) (shuf l a k j).1))]) 0 (Nat.zero_le _) (by dsimp only [shuf]; rw [Int.ofNat_zero, Int.sub_zero]; exact (Sub.by rfl rfl (by first | rfl | (simp only [subB, oF_all_under, LV.under, LO.under, List.all_cons, List.all_nil, decide_true, Nat.reduceLT, Bool.and_self]; done)))) ?_
    intro j hj J' hJ'
    have hpl := shuf_len l a k j
    have hat := shuf_at ha k j
    rcases Nat.lt_or_ge j (k - 1) with hlt | hge
    · obtain ⟨i, hi⟩ : ∃ i : Nat, k - 1 - j = i := ⟨_, rfl⟩
      have e0 : (k : Int) - 1 - j = (i : Int) := by omega
      have h2 : ((i : Int) > 0) := by omega
      have hbl := rbelow_fun l (shuf l a k j).2 ((i : Int) + 1) hb hl
      have hok : bOk l ((shuf l a k j).2 : Nat) ((i : Int) + 1) = true := by
        simp only [bOk, chk_of hat, Bool.and_eq_true, beq_self_eq_true, decide_eq_true_eq, true_and]; omega
      have hdl := draw_lt hb (shuf l a k j).2 (show 1 ≤ (i : Int) + 1 by omega)
      obtain ⟨q, hq⟩ := Int.eq_ofNat_of_zero_le hdl.1
      simp only [bN, bL, bA, bE, hok, if_true, Int.toNat_natCast, hq] at hbl
      rw [hq] at hdl
      have w1 : IntKind.i64.wrap ((i : Int) + 1) = (i : Int) + 1 := by rw [IntKind.wrap_i64]; omega
      have w2 : IntKind.i64.wrap ((i : Int) - 1) = (i : Int) - 1 := by rw [IntKind.wrap_i64]; omega
      obtain ⟨x, hx⟩ := idx_all (show i < (shuf l a k j).1.length by omega)
      obtain ⟨y, hy⟩ := idx_all (show q < (shuf l a k j).1.length by omega)
      have c1 : ((i : Int) < (k : Int)) := by omega
      have c2 : ((q : Int) < (k : Int)) := by omega
      obtain ⟨z, hz⟩ := idx_all (show q < ((shuf l a k j).1.set i y).length by rw [List.length_set]; omega)
      have es : shuf l a k (j + 1) = (((shuf l a k j).1.set i y).set q x, drawN l (shuf l a k j).2) := by
        rw [shuf, hi]
        simp only [hq, swap, hx, hy, Option.getD_some, Int.toNat_natCast]
      dsimp only
      rw [e0]
      generalize hp : (shuf l a k j).1 = p at hpl hx hy hz es
      (repeat' first | refine LOps.done ?_ | (apply LOps.mv; (focus (first | exact Goes.free | exact Goes.on rfl rfl (by with_reducible rfl) true (by decide))); (focus (exact rfl)); (focus (exact rfl))) | (apply LOps.asg; (focus (first | exact Goes.free | exact Goes.on rfl rfl (by with_reducible rfl) true (by decide))); (focus (exact rfl)); (focus (exact rfl))) | (apply LOps.ext; (focus (first | exact Goes.free | exact Goes.on rfl rfl (by with_reducible rfl) true (by decide))); (focus (exact rfl)); (focus (exact rfl)); (focus (exact rfl))) | (apply LOps.loc; (focus (first | exact Goes.free | exact Goes.on rfl rfl (by with_reducible rfl) true (by decide))); (focus (exact rfl)); (focus (exact rfl)); (focus (simp only [go_sem, ↓reduceIte, Nat.reduceEqDiff, reduceCtorEq, Nat.reduceLT, Nat.reduceAdd, h2, w1, w2, hx, hy, c1, c2, hpl]; with_reducible rfl))) | (apply LOps.loc0; (focus (first | exact Goes.free | exact Goes.on rfl rfl (by with_reducible rfl) true (by decide))); (focus (exact rfl)); (focus (simp only [go_sem, ↓reduceIte, Nat.reduceEqDiff, reduceCtorEq, Nat.reduceLT, Nat.reduceAdd, hx, hz, hpl]; with_reducible rfl))) | refine LK.seq ?_ | refine LK.skip ?_ | refine LK.block ?_ | refine LK.blk ?_ | refine LK.fin ?_ | (apply LK.condT2; (focus (exact rfl)); (focus (with_reducible rfl)); (focus (first | with_reducible rfl | decide | (with_reducible exact Bool.true_or _) | (with_reducible exact congrArg (fun b => b || _) (Bool.true_or _))))) | refine LK.regc ?_ | (apply LOps.locFn; (focus (first | exact Goes.free | exact Goes.on rfl rfl (by with_reducible rfl) true (by decide))); (focus (exact rfl)); (focus (exact rfl)); (focus (simp only [go_sem, ↓reduceIte, Nat.reduceEqDiff]; exact rfl)); (focus (simp only [go_sem])); (focus (exact hbl)); (focus (first | rfl | simp [go_sem])); (focus (first | rfl | simp [go_sem]))) | fail)
      apply hJ'
      refine ⟨j + 1, by omega, by omega, ?_⟩
      have e1 : (k : Int) - 1 - ((j + 1 : Nat) : Int) = (i : Int) - 1 := by omega
      dsimp only
      rw [e1, es]
      exact (Sub.by rfl rfl (by first | rfl | (simp only [subB, oF_all_under, LV.under, LO.under, List.all_cons, List.all_nil, decide_true, Nat.reduceLT, Bool.and_self]; done)))
    · obtain rfl : j = k - 1 := by omega
      have h2 : ¬ ((k : Int) - 1 - ((k - 1 : Nat) : Int) > 0) := by omega
      have ht : (shuf l a k (k - 1)).1.take k = (shuf l a k (k - 1)).1 := List.take_of_length_le (by omega)
      (repeat' first | refine LOps.done ?_ | (apply LOps.mv; (focus (first | exact Goes.free | exact Goes.on rfl rfl (by with_reducible rfl) true (by decide))); (focus (exact rfl)); (focus (exact rfl))) | (apply LOps.loc; (focus (first | exact Goes.free | exact Goes.on rfl rfl (by with_reducible rfl) true (by decide))); (focus (exact rfl)); (focus (exact rfl)); (focus (simp only [go_sem, ↓reduceIte, h2]; with_reducible rfl))) | refine LK.seq ?_ | refine LK.ret' ?_ | refine LK.exit' rfl ?_ | (apply LK.condF2; (focus (exact rfl)); (focus (with_reducible rfl)); (focus (first | with_reducible rfl | decide | (with_reducible exact Bool.false_and _) | (with_reducible exact congrArg (fun b => b && _) (Bool.false_and _))))) | refine LK.regc ?_ | (apply retQ; (focus (first | exact lres_one rfl | exact lres_more rfl | (simp only [lres, lresv, Try.results31, go_sem, ↓reduceIte, Nat.reduceEqDiff, reduceCtorEq, Nat.reduceAdd]; exact rfl)))) | (apply LK.drawn3; (focus (exact Ty.mixed)); (focus ((repeat' first | exact DRun.nil _ _ _ | (apply DRun.apu; (focus (exact rfl)); (focus (exact rfl)); (focus (exact rfl)); (focus (first | with_reducible rfl | (simp only [go_sem, ↓reduceIte, Nat.reduceEqDiff, reduceCtorEq, Nat.reduceLT, Nat.reduceAdd, Int.reduceBEq, Int.reduceBNe, Int.reduceEq, Int.reduceLE, Int.reduceLT, Int.reduceToNat, Nat.reduceLeDiff, Nat.reduceMul, Nat.reduceSub, h2] <;> fail) | (simp only [go_sem, ↓reduceIte, Nat.reduceEqDiff, reduceCtorEq, Nat.reduceLT, Nat.reduceAdd, Int.reduceBEq, Int.reduceBNe, Int.reduceEq, Int.reduceLE, Int.reduceLT, Int.reduceToNat, Nat.reduceLeDiff, Nat.reduceMul, Nat.reduceSub, h2]; with_reducible rfl))); (focus (intro σ0 rows0 h10 h20; simp only [go_sem, ↓reduceIte]; exact rfl)); (focus (first | exact idx_same | exact move_same)); (focus (exact rfl)); (focus (first | decide +kernel | (simp only [LV.under, List.all_cons, List.all_nil, decide_true, Nat.reduceLT, Bool.and_self]; done) | (simp [MB_all_under, MI_all_under, MB_all_idp, MI_all_idp, oF_under, oF_idp, oF_all_under, oF_all_idp, MB_under, MI_under, MB_idp, MI_idp, evOk, ovOk, nvOk, keepOf, vis, LV.under, LV.unders, LV.idp, LV.idps, LO.under, LO.idp, under_pv, idp_pv]; done)))) | (apply DRun.aopS; (focus (exact rfl)); (focus (first | exact rfl | (simp only [oF_idss, objsOf, idsOf, LV.ids, LO.ids, lookB_eq, List.any_nil, cond_false, go_sem, ↓reduceIte, Nat.reduceEqDiff, reduceCtorEq]; exact rfl))); (focus (first | exact Goes.free | exact Goes.on rfl rfl (by with_reducible rfl) true (by decide))); (focus (simp only [go_sem, ↓reduceIte, Nat.reduceAdd]; exact rfl)); (focus (exact rfl)); (focus (first | decide +kernel | (simp only [oF_all_under, oF_all_idp, evOk, ovOk, nvOk, keepOf, vis, LV.under, LV.idp, LV.idps, LO.under, LO.idp, List.all_cons, List.all_nil, List.any_cons, List.any_nil, beq_self_eq_true, Bool.and_true, Bool.or_false, decide_true, decide_false, Nat.reduceLT, Nat.reduceLeDiff, Bool.and_self]; done) | (simp [oF_all_under, oF_all_idp, evOk, ovOk, nvOk, keepOf, vis, LV.under, LV.idp, LV.idps, LO.under, LO.idp]; done)))) | (apply DRun.awr0; (focus (exact rfl)); (focus (first | exact rfl | (simp only [oF_idss, oF_ids, idss_MB, idss_MI, objsOf, idsOf, LV.ids, LV.idss, LO.ids, idss_pv, lookB_eq, List.any_nil, List.any_cons, cond_true, cond_false, List.flatten_cons, List.flatten_nil, Nat.reduceBEq, Bool.or_false, Bool.false_or, Bool.or_true, go_sem, ↓reduceIte, Nat.reduceEqDiff, reduceCtorEq, Nat.reduceLT, Nat.reduceAdd, Int.reduceBEq, Int.reduceBNe, Int.reduceEq, Int.reduceLE, Int.reduceLT, Int.reduceToNat, Nat.reduceLeDiff, Nat.reduceMul, Nat.reduceSub, h2]; exact rfl))); (focus (first | exact Goes.free | exact Goes.on rfl rfl (by with_reducible rfl) true (by decide))); (focus (simp only [go_sem, ↓reduceIte, Nat.reduceEqDiff, Nat.reduceLT, Nat.reduceAdd]; exact rfl)); (focus (first | (simp only [go_sem, ↓reduceIte]; exact rfl) | exact rfl)); (focus (first | decide +kernel | (simp only [evOk, ovOk, nvOk, keepOf, vis, LV.under, LV.unders, LV.idp, LO.under, LO.idp, List.all_cons, List.all_nil, List.any_cons, List.any_nil, beq_self_eq_true, Bool.and_true, Bool.or_false, decide_true, decide_false, Nat.reduceLT, Nat.reduceLeDiff, Bool.and_self]; done) | (simp [evOk, ovOk, nvOk, keepOf, vis, LV.under, LV.unders, LV.idp, LO.under, LO.idp]; done))); (focus (first | (simp only [go_sem, ↓reduceIte, reduceCtorEq]; exact rfl) | exact rfl))) | fail); done)); (focus kernel_rfl); (focus (first | exact puOk_none rfl | (simp [puOk, evShape, nvShape, oF_len, go_sem, ↓reduceIte, Nat.reduceEqDiff, reduceCtorEq]; done))); (focus (first | (simp only [go_sem, ↓reduceIte, Nat.reduceEqDiff, reduceCtorEq, Nat.reduceLT, Nat.reduceAdd, Int.reduceBEq, Int.reduceBNe, Int.reduceEq, Int.reduceLE, Int.reduceLT, Int.reduceToNat, Nat.reduceLeDiff, Nat.reduceMul, Nat.reduceSub, h2]; exact rfl) | exact rfl)); (focus (first | (simp only [go_sem, ↓reduceIte, Nat.reduceEqDiff, reduceCtorEq, Nat.reduceLT, Nat.reduceAdd, Int.reduceBEq, Int.reduceBNe, Int.reduceEq, Int.reduceLE, Int.reduceLT, Int.reduceToNat, Nat.reduceLeDiff, Nat.reduceMul, Nat.reduceSub, h2]; exact rfl) | exact rfl)); (focus (first | (simp only [go_sem, ↓reduceIte, Nat.reduceEqDiff, reduceCtorEq, Nat.reduceLT, Nat.reduceAdd, Int.reduceBEq, Int.reduceBNe, Int.reduceEq, Int.reduceLE, Int.reduceLT, Int.reduceToNat, Nat.reduceLeDiff, Nat.reduceMul, Nat.reduceSub, h2]; exact rfl) | exact rfl))) | fail)
      (simp only [go_sem, ↓reduceIte, Nat.reduceEqDiff, reduceCtorEq, hpl, ht]; repeat' first | exact LV.le_refl _ | exact LV.le_nil _ | exact le_nilF _ _ | exact LV.le_any _ _ _ | refine LV.le_tup ?_ | refine LV.le_agg ?_ | exact LV.les_nil | refine LV.les_cons ?_ ?_)
theorem rorder_fun (l : List Int) (a n : Int) (hb : octB l) (hl : l.length ≤ 100000) : Fun Try.prog 31 [dv l a, vi n] (.tup [sI (oV l a n), dv (oL l a n) (oA l a n), vi (oE l a n)]) := by
  cases h : oOk l a n with
  | true =>
    have h2 := h
    simp only [oOk, Bool.and_eq_true, beq_iff_eq, decide_eq_true_eq] at h2
    obtain ⟨k, rfl, hk⟩ := chk_nat h2.1.1
    obtain ⟨j, rfl⟩ := Int.eq_ofNat_of_zero_le h2.1.2
    simp only [oV, oL, oA, oE, h, if_true, Int.toNat_natCast]
    exact rorder_ok l k j hk hb hl (by have := h2.2; omega)
  | false =>
    simp only [oV, oL, oA, oE, h]
    exact rorder_bad l a n h
end Go.Proofs.Ytflfhgpcmocilaa
