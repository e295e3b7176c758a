/- Chapter 16: the document's Spill, Half, Victims, Steal. -/
import Derived.Test.YtflfhgpcmocilaaK11
import Derived.Test.YtflfhgpcmocilaaKR2
set_option linter.unusedSimpArgs false
set_option linter.unusedVariables false
namespace Go.Proofs.Ytflfhgpcmocilaa
open Go.Lw
attribute [local irreducible] LK LOps LW
theorem quo_nn {n : Int} (h : ¬ n < 0) : Int.tdiv n 2 = n / 2 := by
  rw [Int.tdiv_eq_ediv_of_nonneg (by omega)]
theorem rem_nn {n : Int} (h : ¬ n < 0) : Int.tmod n 2 = n % 2 := by
  rw [Int.tmod_eq_emod_of_nonneg (by omega)]
set_option maxHeartbeats 4000000 in
set_option maxRecDepth 10000 in
theorem rspill_fun (n : Int) (h : -9223372036854775808 ≤ n ∧ n ≤ 9223372036854775807) : Fun Try.prog 19 [vi n] (.tup [vi (spillR n).1, vi (spillR n).2]) := by
  by_cases hn : n < 0
  · simp only [spillR, if_pos hn]
    (refine LCalls.enter Try.func19 rfl (by simp [Try.ntmps19]) (LK.start ?_); simp only [Try.ntmps19, enterA])
    (repeat' first | refine LOps.done ?_ | (apply LOps.mv; (focus (first | exact Goes.free | exact Goes.on rfl rfl (by with_reducible rfl) true (by decide))); (focus (exact rfl)); (focus (exact rfl))) | (apply LOps.loc; (focus (first | exact Goes.free | exact Goes.on rfl rfl (by with_reducible rfl) true (by decide))); (focus (exact rfl)); (focus (exact rfl)); (focus (simp only [go_sem, ↓reduceIte, hn]; with_reducible rfl))) | refine LK.seq ?_ | refine LK.ret' ?_ | (apply LK.condT2; (focus (exact rfl)); (focus (with_reducible rfl)); (focus (first | with_reducible rfl | decide | (with_reducible exact Bool.true_or _) | (with_reducible exact congrArg (fun b => b || _) (Bool.true_or _))))) | refine LK.regc ?_ | (apply retQ; (focus (first | exact lres_one rfl | exact lres_more rfl | (simp only [lres, lresv, Try.results19, go_sem, ↓reduceIte, Nat.reduceEqDiff, reduceCtorEq, Nat.reduceLT, Nat.reduceAdd, Int.reduceBEq, Int.reduceBNe, Int.reduceEq, Int.reduceLE, Int.reduceLT, Int.reduceToNat, Nat.reduceLeDiff, Nat.reduceMul, Nat.reduceSub, hn]; exact rfl)))) | fail)
    all_goals rfl
  · simp only [spillR, if_neg hn]
    have e := quo_nn hn
    have w : IntKind.i64.wrap (n / 2) = n / 2 := by rw [IntKind.wrap_i64]; omega
    (refine LCalls.enter Try.func19 rfl (by simp [Try.ntmps19]) (LK.start ?_); simp only [Try.ntmps19, enterA])
    (repeat' first | refine LOps.done ?_ | (apply LOps.mv; (focus (first | exact Goes.free | exact Goes.on rfl rfl (by with_reducible rfl) true (by decide))); (focus (exact rfl)); (focus (exact rfl))) | (apply LOps.asg; (focus (first | exact Goes.free | exact Goes.on rfl rfl (by with_reducible rfl) true (by decide))); (focus (exact rfl)); (focus (exact rfl))) | (apply LOps.loc; (focus (first | exact Goes.free | exact Goes.on rfl rfl (by with_reducible rfl) true (by decide))); (focus (exact rfl)); (focus (exact rfl)); (focus (simp only [go_sem, ↓reduceIte, Int.reduceEq, hn, e, w]; with_reducible rfl))) | refine LK.seq ?_ | refine LK.skip ?_ | refine LK.ret' ?_ | (apply LK.condF2; (focus (exact rfl)); (focus (with_reducible rfl)); (focus (first | with_reducible rfl | decide | (with_reducible exact Bool.false_and _) | (with_reducible exact congrArg (fun b => b && _) (Bool.false_and _))))) | refine LK.regc ?_ | (apply retQ; (focus (first | exact lres_one rfl | exact lres_more rfl | (simp only [lres, lresv, Try.results19, go_sem, ↓reduceIte, Nat.reduceEqDiff, reduceCtorEq, Nat.reduceLT, Nat.reduceAdd, Int.reduceBEq, Int.reduceBNe, Int.reduceEq, Int.reduceLE, Int.reduceLT, Int.reduceToNat, Nat.reduceLeDiff, Nat.reduceMul, Nat.reduceSub, hn, e, w]; exact rfl)))) | fail)
    all_goals rfl
set_option maxHeartbeats 4000000 in
set_option maxRecDepth 10000 in
theorem rhalf_fun (n : Int) (h : -9223372036854775808 ≤ n ∧ n ≤ 9223372036854775807) : Fun Try.prog 18 [vi n] (.tup [vi (halfR n).1, vi (halfR n).2]) := by
  by_cases hn : n < 0
  · simp only [halfR, if_pos hn]
    (refine LCalls.enter Try.func18 rfl (by simp [Try.ntmps18]) (LK.start ?_); simp only [Try.ntmps18, enterA])
    (repeat' first | refine LOps.done ?_ | (apply LOps.mv; (focus (first | exact Goes.free | exact Goes.on rfl rfl (by with_reducible rfl) true (by decide))); (focus (exact rfl)); (focus (exact rfl))) | (apply LOps.loc; (focus (first | exact Goes.free | exact Goes.on rfl rfl (by with_reducible rfl) true (by decide))); (focus (exact rfl)); (focus (exact rfl)); (focus (simp only [go_sem, ↓reduceIte, hn]; with_reducible rfl))) | refine LK.seq ?_ | refine LK.ret' ?_ | (apply LK.condT2; (focus (exact rfl)); (focus (with_reducible rfl)); (focus (first | with_reducible rfl | decide | (with_reducible exact Bool.true_or _) | (with_reducible exact congrArg (fun b => b || _) (Bool.true_or _))))) | refine LK.regc ?_ | (apply retQ; (focus (first | exact lres_one rfl | exact lres_more rfl | (simp only [lres, lresv, Try.results18, go_sem, ↓reduceIte, Nat.reduceEqDiff, reduceCtorEq, Nat.reduceLT, Nat.reduceAdd, Int.reduceBEq, Int.reduceBNe, Int.reduceEq, Int.reduceLE, Int.reduceLT, Int.reduceToNat, Nat.reduceLeDiff, Nat.reduceMul, Nat.reduceSub, hn]; exact rfl)))) | fail)
    all_goals rfl
  · simp only [halfR, if_neg hn]
    have e := quo_nn hn
    have e2 := rem_nn hn
    have w : IntKind.i64.wrap (n / 2) = n / 2 := by rw [IntKind.wrap_i64]; omega
    have w2 : IntKind.i64.wrap (n / 2 + n % 2) = n - n / 2 := by rw [IntKind.wrap_i64]; omega
    (refine LCalls.enter Try.func18 rfl (by simp [Try.ntmps18]) (LK.start ?_); simp only [Try.ntmps18, enterA])
    (repeat' first | refine LOps.done ?_ | (apply LOps.mv; (focus (first | exact Goes.free | exact Goes.on rfl rfl (by with_reducible rfl) true (by decide))); (focus (exact rfl)); (focus (exact rfl))) | (apply LOps.asg; (focus (first | exact Goes.free | exact Goes.on rfl rfl (by with_reducible rfl) true (by decide))); (focus (exact rfl)); (focus (exact rfl))) | (apply LOps.loc; (focus (first | exact Goes.free | exact Goes.on rfl rfl (by with_reducible rfl) true (by decide))); (focus (exact rfl)); (focus (exact rfl)); (focus (simp only [go_sem, ↓reduceIte, Nat.reduceEqDiff, Int.reduceEq, hn, e, e2, w, w2]; with_reducible rfl))) | refine LK.seq ?_ | refine LK.skip ?_ | refine LK.ret' ?_ | (apply LK.condF2; (focus (exact rfl)); (focus (with_reducible rfl)); (focus (first | with_reducible rfl | decide | (with_reducible exact Bool.false_and _) | (with_reducible exact congrArg (fun b => b && _) (Bool.false_and _))))) | refine LK.regc ?_ | (apply retQ; (focus (first | exact lres_one rfl | exact lres_more rfl | (simp only [lres, lresv, Try.results18, go_sem, ↓reduceIte, Nat.reduceEqDiff, reduceCtorEq, Nat.reduceLT, Nat.reduceAdd, Int.reduceBEq, Int.reduceBNe, Int.reduceEq, Int.reduceLE, Int.reduceLT, Int.reduceToNat, Nat.reduceLeDiff, Nat.reduceMul, Nat.reduceSub, hn, e, e2, w, w2]; exact rfl)))) | fail)
    all_goals rfl
set_option maxHeartbeats 4000000 in
set_option maxRecDepth 10000 in
theorem rvictims_bad (l : List Int) (a n me : Int) (h : vOk l a n me = false) : Fun Try.prog 15 [dv l a, vi n, vi me] (.tup [sI [], noDice, vi 1]) := by
  have hck := rcheck_fun l a
  have hc : (chk l a != 0 || decide (n < 1) || decide (n > 64) || decide (me < 0) || decide (me ≥ n)) = true := by
    simp only [Bool.or_eq_true, bne_iff_ne, ne_eq, decide_eq_true_eq]
    by_cases h0 : chk l a = 0
    · simp only [vOk, h0, Bool.and_eq_false_iff, decide_eq_false_iff_not] at h
      simp at h
      omega
    · exact .inl (.inl (.inl (.inl h0)))
  refine Fun.frozenLe ?_
  (refine LCalls.enter Try.func15 rfl (by simp [Try.ntmps15]) (LK.start ?_); simp only [Try.ntmps15, enterA, Nat.zero_add])
  (repeat' first | refine LOps.done ?_ | (apply LOps.mv; (focus (first | exact Goes.free | exact Goes.on rfl rfl (by with_reducible rfl) true (by decide))); (focus (exact rfl)); (focus (exact rfl))) | (apply LOps.loc; (focus (first | exact Goes.free | exact Goes.on rfl rfl (by with_reducible rfl) true (by decide))); (focus (exact rfl)); (focus (exact rfl)); (focus (simp only [go_sem, ↓reduceIte, Nat.reduceEqDiff, reduceCtorEq, Nat.reduceLT, Nat.reduceAdd]; with_reducible rfl))) | (apply LOps.pass; (focus (first | exact Goes.on rfl rfl (by with_reducible rfl) false (by decide) | exact Goes.undef rfl rfl (by with_reducible rfl))); (focus (exact rfl))) | (apply LOps.scEnd; (focus (exact rfl)); (focus (with_reducible rfl))) | refine LK.seq ?_ | refine LK.regc ?_ | (apply LOps.locFn; (focus (first | exact Goes.free | exact Goes.on rfl rfl (by with_reducible rfl) true (by decide))); (focus (exact rfl)); (focus (exact rfl)); (focus (simp only [go_sem, ↓reduceIte]; exact rfl)); (focus (simp only [go_sem])); (focus (exact hck)); (focus (first | rfl | simp [go_sem])); (focus (first | rfl | simp [go_sem]))) | (apply LOps.or2; exact rfl; exact rfl; exact rfl; exact rfl; exact rfl; (focus (with_reducible rfl)); (focus (first | kernel_rfl | rfl))) | refine Under.mk (fun hg => ?_) | fail)
  refine LK.condT2 rfl (by first | with_reducible rfl | rfl) (hc) ?_
  (repeat' first | refine LOps.done ?_ | (apply LOps.loc; (focus (first | exact Goes.free | exact Goes.on rfl rfl (by with_reducible rfl) true (by decide))); (focus (exact rfl)); (focus (exact rfl)); (focus (simp only [go_sem, ↓reduceIte]; with_reducible rfl))) | (apply LOps.loc0; (focus (first | exact Goes.free | exact Goes.on rfl rfl (by with_reducible rfl) true (by decide))); (focus (exact rfl)); (focus (simp only [go_sem, ↓reduceIte, Nat.reduceEqDiff, reduceCtorEq, Nat.reduceLT, Nat.reduceAdd]; with_reducible rfl))) | refine LK.seq ?_ | refine LK.ret' ?_ | refine LK.regc ?_ | (apply retQ; (focus (first | exact lres_one rfl | exact lres_more rfl | (simp only [lres, lresv, Try.results15, go_sem, ↓reduceIte, Nat.reduceEqDiff, reduceCtorEq, Nat.reduceAdd]; exact rfl)))) | fail)
  (simp only [go_sem]; repeat' first | exact LV.le_refl _ | exact LV.le_nil _ | exact le_nilF _ _ | exact LV.le_any _ _ _ | refine LV.le_tup ?_ | refine LV.le_agg ?_ | exact LV.les_nil | refine LV.les_cons ?_ ?_)
theorem vf_step {P : List Int} {k : Nat} {x me : Int} (hx : P[k]? = some x) : (P.take (k + 1)).filter (fun x => !(x == me)) = (P.take k).filter (fun x => !(x == me)) ++ (if x = me then [] else [x]) := by
  rw [List.take_add_one, hx, List.filter_append]
  by_cases e : x = me <;> simp [e]
theorem vf_len (P : List Int) (k : Nat) (me : Int) : ((P.take k).filter (fun x => !(x == me))).length ≤ k := by
  have h1 := List.length_filter_le (fun x => !(x == me)) (P.take k)
  rw [List.length_take] at h1
  omega
set_option maxHeartbeats 4000000 in
set_option maxRecDepth 10000 in
theorem rvictims_ok (l : List Int) (a n : Nat) (me : Int) (h : ¬ ((n : Int) < 1 ∨ 64 < (n : Int) ∨ me < 0 ∨ (n : Int) ≤ me)) (ha : a ≤ l.length) (hb : octB l) (hl : l.length ≤ 100000) : Fun Try.prog 15 [dv l a, vi n, vi me] (.tup [sI (vic l a n me), dv l (orderN l a n : Nat), vi 0]) := by
  have hck := rcheck_fun l a
  rw [chk_of ha] at hck
  have hc : (decide ((n : Int) < 1) || decide ((n : Int) > 64) || decide (me < 0) || decide (me ≥ (n : Int))) = false := by simp only [Bool.or_eq_false_iff, decide_eq_false_iff_not]; omega
  have ho := rorder_ok l a n ha hb hl (by omega)
  have hpl : (orderL l a n).length = n := shuf_len l a n (n - 1)
  unfold vic
  generalize orderL l a n = P at *
  refine Fun.frozenLe ?_
  (refine LCalls.enter Try.func15 rfl (by simp [Try.ntmps15]) (LK.start ?_); simp only [Try.ntmps15, enterA, Nat.zero_add])
  (repeat' first | refine LOps.done ?_ | (apply LOps.mv; (focus (first | exact Goes.free | exact Goes.on rfl rfl (by with_reducible rfl) true (by decide))); (focus (exact rfl)); (focus (exact rfl))) | (apply LOps.loc; (focus (first | exact Goes.free | exact Goes.on rfl rfl (by with_reducible rfl) true (by decide))); (focus (exact rfl)); (focus (exact rfl)); (focus (simp only [go_sem, ↓reduceIte, Nat.reduceEqDiff, reduceCtorEq, Nat.reduceLT, Nat.reduceAdd, Int.reduceBNe]; with_reducible rfl))) | (apply LOps.pass; (focus (first | exact Goes.on rfl rfl (by with_reducible rfl) false (by decide) | exact Goes.undef rfl rfl (by with_reducible rfl))); (focus (exact rfl))) | (apply LOps.scEnd; (focus (exact rfl)); (focus (with_reducible rfl))) | refine LK.seq ?_ | refine LK.regc ?_ | (apply LOps.locFn; (focus (first | exact Goes.free | exact Goes.on rfl rfl (by with_reducible rfl) true (by decide))); (focus (exact rfl)); (focus (exact rfl)); (focus (simp only [go_sem, ↓reduceIte]; exact rfl)); (focus (simp only [go_sem])); (focus (exact hck)); (focus (first | rfl | simp [go_sem])); (focus (first | rfl | simp [go_sem]))) | (apply LOps.or2; exact rfl; exact rfl; exact rfl; exact rfl; exact rfl; (focus (with_reducible rfl)); (focus (first | kernel_rfl | rfl))) | refine Under.mk (fun hg => ?_) | fail)
  refine LK.condF2 rfl (by first | with_reducible rfl | rfl) (hc) ?_
  (repeat' first | refine LOps.done ?_ | (apply LOps.mv; (focus (first | exact Goes.free | exact Goes.on rfl rfl (by with_reducible rfl) true (by decide))); (focus (exact rfl)); (focus (exact rfl))) | (apply LOps.asg; (focus (first | exact Goes.free | exact Goes.on rfl rfl (by with_reducible rfl) true (by decide))); (focus (exact rfl)); (focus (exact rfl))) | (apply LOps.ext; (focus (first | exact Goes.free | exact Goes.on rfl rfl (by with_reducible rfl) true (by decide))); (focus (exact rfl)); (focus (exact rfl)); (focus (exact rfl))) | (apply LOps.loc; (focus (first | exact Goes.free | exact Goes.on rfl rfl (by with_reducible rfl) true (by decide))); (focus (exact rfl)); (focus (exact rfl)); (focus (simp only [go_sem, ↓reduceIte, Nat.reduceEqDiff, reduceCtorEq, Nat.reduceLT, Nat.reduceAdd]; with_reducible rfl))) | (apply LOps.loc0; (focus (first | exact Goes.free | exact Goes.on rfl rfl (by with_reducible rfl) true (by decide))); (focus (exact rfl)); (focus (simp only [go_sem, ↓reduceIte, Nat.reduceEqDiff, reduceCtorEq, Nat.reduceLT, Nat.reduceAdd]; with_reducible rfl))) | refine LK.seq ?_ | refine LK.skip ?_ | refine LK.block ?_ | refine LK.regc ?_ | (apply LOps.locFn; (focus (first | exact Goes.free | exact Goes.on rfl rfl (by with_reducible rfl) true (by decide))); (focus (exact rfl)); (focus (exact rfl)); (focus (simp only [go_sem, ↓reduceIte, Nat.reduceEqDiff]; exact rfl)); (focus (simp only [go_sem])); (focus (exact ho)); (focus (first | rfl | simp [go_sem])); (focus (first | rfl | simp [go_sem]))) | fail)
  refine LK.own0 12 1 (by simp only [upd, go_sem, ↓reduceIte, Nat.reduceEqDiff, reduceCtorEq]; rfl) rfl ?_
  refine LK.loop (fun k : Nat => P.length - k) (fun k => k ≤ P.length) (fun k => ⟨59, [(2, vi me), (7, .ptr 1 1 0 0), (10, .ptr 2 1 0 0), (12, .own 3 ((P.take k).filter (fun x => !(x == me))).length 0 ((P.take k).filter (fun x => !(x == me))).length), (43, sI P), (44, vi P.length), (45, vi k)]⟩) (fun k => [(1, .arr 2 [[nil0, vi 0]]), (2, .arr 2 [[sU l, vi (orderN l a n : Nat)]]), (3, .arr 1 (oF (cI .i64) ((P.take k).filter (fun x => !(x == me)))))]) 0 (Nat.zero_le _) (by dsimp only [List.take_zero]; exact (Sub.by rfl rfl (by first | rfl | (simp only [subB, MB_all_under, MI_all_under, MB_all_idp, MI_all_idp, oF_under, oF_idp, oF_all_under, oF_all_idp, MB_under, MI_under, MB_idp, MI_idp, evOk, ovOk, nvOk, keepOf, vis, LV.under, LV.unders, LV.idp, LV.idps, LO.under, LO.idp, under_pv, idp_pv, List.all_cons, List.all_nil, List.any_cons, List.any_nil, Nat.reduceBEq, beq_self_eq_true, Bool.and_true, Bool.true_and, Bool.or_true, Bool.true_or, Bool.or_false, Bool.false_or, decide_true, decide_false, Nat.reduceLT, Nat.reduceLeDiff, Nat.le_refl, Nat.reduceAdd, Bool.and_self, Bool.or_self]; done)))) ?_
  intro k hk J hJ
  have hpk := vf_len P k me
  rcases Nat.lt_or_ge k P.length with hlt | hge
  · obtain ⟨x, hx⟩ := idx_all hlt
    have h1 : ((k : Int) < (P.length : Int)) := by omega
    have hw := wrapn (n := k) (by omega)
    have hs := vf_step (me := me) hx
    by_cases e : x = me
    · have hc : (x != me) = false := by simpa using e
      rw [if_pos e, List.append_nil] at hs
      (repeat' first | refine LOps.done ?_ | (apply LOps.mv; (focus (first | exact Goes.free | exact Goes.on rfl rfl (by with_reducible rfl) true (by decide))); (focus (exact rfl)); (focus (exact rfl))) | (apply LOps.asg; (focus (first | exact Goes.free | exact Goes.on rfl rfl (by with_reducible rfl) true (by decide))); (focus (exact rfl)); (focus (exact rfl))) | (apply LOps.loc; (focus (first | exact Goes.free | exact Goes.on rfl rfl (by with_reducible rfl) true (by decide))); (focus (exact rfl)); (focus (exact rfl)); (focus (simp only [go_sem, ↓reduceIte, Nat.reduceEqDiff, Nat.reduceLT, Nat.reduceAdd, h1, hx, hc, hw]; with_reducible rfl))) | refine LK.seq ?_ | refine LK.skip ?_ | refine LK.block ?_ | refine LK.blk ?_ | refine LK.fin ?_ | (apply LK.condT2; (focus (exact rfl)); (focus (with_reducible rfl)); (focus (first | with_reducible rfl | decide | (with_reducible exact Bool.true_or _) | (with_reducible exact congrArg (fun b => b || _) (Bool.true_or _))))) | (apply LK.condF2; (focus (exact rfl)); (focus (with_reducible rfl)); (focus (first | with_reducible rfl | decide | (with_reducible exact Bool.false_and _) | (with_reducible exact congrArg (fun b => b && _) (Bool.false_and _))))) | refine LK.regc ?_ | fail)
      apply hJ
      refine ⟨k + 1, hlt, by omega, ?_⟩
      dsimp only
      rw [hs]
      exact (Sub.by rfl rfl (by first | rfl | (simp only [subB, oF_all_under, LV.under, LO.under, List.all_cons, List.all_nil, decide_true, Nat.reduceLT, Nat.reduceAdd, Bool.and_self]; done)))
    · have hc : (x != me) = true := by simpa using e
      rw [if_neg e] at hs
      have hm : ((P.take k).filter (fun x => !(x == me))).length + 1 ≤ maxLen ∧ (((P.take k).filter (fun x => !(x == me))).length + 1) * 8 ≤ 140737488355328 := by simp only [maxLen]; omega
      have hl2 : ((P.take (k + 1)).filter (fun x => !(x == me))).length = ((P.take k).filter (fun x => !(x == me))).length + 1 := by rw [hs]; simp
      have hs2 := hs.symm
      dsimp only
      (repeat' first | refine LOps.done ?_ | (apply LOps.mv; (focus (first | exact Goes.free | exact Goes.on rfl rfl (by with_reducible rfl) true (by decide))); (focus (exact rfl)); (focus (exact rfl))) | (apply LOps.asg; (focus (first | exact Goes.free | exact Goes.on rfl rfl (by with_reducible rfl) true (by decide))); (focus (exact rfl)); (focus (exact rfl))) | (apply LOps.loc; (focus (first | exact Goes.free | exact Goes.on rfl rfl (by with_reducible rfl) true (by decide))); (focus (exact rfl)); (focus (exact rfl)); (focus (simp only [go_sem, ↓reduceIte, Nat.reduceEqDiff, Nat.reduceLT, Nat.reduceAdd, Nat.reduceLeDiff, h1, hx, hc, hw, hm, hs2]; with_reducible rfl))) | refine LK.seq ?_ | refine LK.skip ?_ | refine LK.block ?_ | refine LK.blk ?_ | refine LK.fin ?_ | (apply LK.condT2; (focus (exact rfl)); (focus (with_reducible rfl)); (focus (first | with_reducible rfl | decide | (with_reducible exact Bool.true_or _) | (with_reducible exact congrArg (fun b => b || _) (Bool.true_or _))))) | refine LK.regc ?_ | fail)
      apply hJ
      refine ⟨k + 1, hlt, by omega, ?_⟩
      dsimp only
      rw [hl2]
      exact (Sub.by rfl rfl (by first | rfl | (simp only [subB, oF_all_under, LV.under, LO.under, List.all_cons, List.all_nil, decide_true, Nat.reduceLT, Nat.reduceAdd, Bool.and_self]; done)))
  · have h1 : ¬ ((k : Int) < (P.length : Int)) := by omega
    obtain rfl : k = P.length := by omega
    dsimp only
    rw [List.take_length]
    have ht : (P.filter (fun x => !(x == me))).take (P.filter (fun x => !(x == me))).length = P.filter (fun x => !(x == me)) := List.take_length
    (repeat' first | refine LOps.done ?_ | (apply LOps.loc; (focus (first | exact Goes.free | exact Goes.on rfl rfl (by with_reducible rfl) true (by decide))); (focus (exact rfl)); (focus (exact rfl)); (focus (simp only [go_sem, ↓reduceIte, Nat.reduceEqDiff, Nat.reduceAdd, h1]; with_reducible rfl))) | refine LK.seq ?_ | refine LK.ret' ?_ | refine LK.exit' rfl ?_ | (apply LK.condF2; (focus (exact rfl)); (focus (with_reducible rfl)); (focus (first | with_reducible rfl | decide | (with_reducible exact Bool.false_and _) | (with_reducible exact congrArg (fun b => b && _) (Bool.false_and _))))) | refine LK.regc ?_ | (apply retQ; (focus (first | exact lres_one rfl | exact lres_more rfl | (simp only [lres, lresv, Try.results15, go_sem, ↓reduceIte, Nat.reduceEqDiff, Nat.reduceAdd]; exact rfl)))) | (apply LK.drawn3; (focus (exact Ty.mixed)); (focus ((repeat' first | exact DRun.nil _ _ _ | (apply DRun.apu; (focus (exact rfl)); (focus (exact rfl)); (focus (exact rfl)); (focus (first | with_reducible rfl | (simp only [go_sem, ↓reduceIte, Nat.reduceEqDiff, reduceCtorEq, Nat.reduceLT, Nat.reduceAdd, Int.reduceBEq, Int.reduceBNe, Int.reduceEq, Int.reduceLE, Int.reduceLT, Int.reduceToNat, Nat.reduceLeDiff, Nat.reduceMul, Nat.reduceSub, h1] <;> fail) | (simp only [go_sem, ↓reduceIte, Nat.reduceEqDiff, reduceCtorEq, Nat.reduceLT, Nat.reduceAdd, Int.reduceBEq, Int.reduceBNe, Int.reduceEq, Int.reduceLE, Int.reduceLT, Int.reduceToNat, Nat.reduceLeDiff, Nat.reduceMul, Nat.reduceSub, h1]; with_reducible rfl))); (focus (intro σ0 rows0 h10 h20; simp only [go_sem, ↓reduceIte]; exact rfl)); (focus (first | exact idx_same | exact move_same)); (focus (exact rfl)); (focus (first | decide +kernel | (simp only [LV.under, List.all_cons, List.all_nil, decide_true, Nat.reduceLT, Bool.and_self]; done) | (simp [MB_all_under, MI_all_under, MB_all_idp, MI_all_idp, oF_under, oF_idp, oF_all_under, oF_all_idp, MB_under, MI_under, MB_idp, MI_idp, evOk, ovOk, nvOk, keepOf, vis, LV.under, LV.unders, LV.idp, LV.idps, LO.under, LO.idp, under_pv, idp_pv]; done)))) | (apply DRun.aopS; (focus (exact rfl)); (focus (first | exact rfl | (simp only [oF_idss, objsOf, idsOf, LV.ids, LO.ids, lookB_eq, List.any_nil, cond_false, go_sem, ↓reduceIte, Nat.reduceEqDiff]; exact rfl))); (focus (first | exact Goes.free | exact Goes.on rfl rfl (by with_reducible rfl) true (by decide))); (focus (simp only [go_sem, ↓reduceIte, Nat.reduceAdd]; exact rfl)); (focus (exact rfl)); (focus (first | decide +kernel | (simp only [oF_all_under, oF_all_idp, evOk, ovOk, nvOk, keepOf, vis, LV.under, LV.idp, LV.idps, LO.under, LO.idp, List.all_cons, List.all_nil, List.any_cons, List.any_nil, beq_self_eq_true, Bool.and_true, Bool.or_false, decide_true, decide_false, Nat.reduceLT, Nat.reduceLeDiff, Bool.and_self]; done) | (simp [oF_all_under, oF_all_idp, evOk, ovOk, nvOk, keepOf, vis, LV.under, LV.idp, LV.idps, LO.under, LO.idp]; done)))) | (apply DRun.awr0; (focus (exact rfl)); (focus (first | exact rfl | (simp only [oF_idss, oF_ids, idss_MB, idss_MI, objsOf, idsOf, LV.ids, LV.idss, LO.ids, idss_pv, lookB_eq, List.any_nil, List.any_cons, cond_true, cond_false, List.flatten_cons, List.flatten_nil, Nat.reduceBEq, Bool.or_false, Bool.false_or, Bool.or_true, go_sem, ↓reduceIte, Nat.reduceEqDiff, reduceCtorEq, Nat.reduceLT, Nat.reduceAdd, Int.reduceBEq, Int.reduceBNe, Int.reduceEq, Int.reduceLE, Int.reduceLT, Int.reduceToNat, Nat.reduceLeDiff, Nat.reduceMul, Nat.reduceSub, h1]; exact rfl))); (focus (first | exact Goes.free | exact Goes.on rfl rfl (by with_reducible rfl) true (by decide))); (focus (simp only [go_sem, ↓reduceIte, Nat.reduceEqDiff, Nat.reduceLT, Nat.reduceAdd]; exact rfl)); (focus (first | (simp only [go_sem, ↓reduceIte]; exact rfl) | exact rfl)); (focus (first | decide +kernel | (simp only [evOk, ovOk, nvOk, keepOf, vis, LV.under, LV.unders, LV.idp, LO.under, LO.idp, List.all_cons, List.all_nil, List.any_cons, List.any_nil, beq_self_eq_true, Bool.and_true, Bool.or_false, decide_true, decide_false, Nat.reduceLT, Nat.reduceLeDiff, Bool.and_self]; done) | (simp [evOk, ovOk, nvOk, keepOf, vis, LV.under, LV.unders, LV.idp, LO.under, LO.idp]; done))); (focus (first | (simp only [go_sem, ↓reduceIte]; exact rfl) | exact rfl))) | fail); done)); (focus kernel_rfl); (focus (first | exact puOk_none rfl | (simp [puOk, evShape, nvShape, oF_len, go_sem, ↓reduceIte, Nat.reduceEqDiff, reduceCtorEq]; done))); (focus (first | (simp only [go_sem, ↓reduceIte, Nat.reduceEqDiff, reduceCtorEq, Nat.reduceLT, Nat.reduceAdd, Int.reduceBEq, Int.reduceBNe, Int.reduceEq, Int.reduceLE, Int.reduceLT, Int.reduceToNat, Nat.reduceLeDiff, Nat.reduceMul, Nat.reduceSub, h1]; exact rfl) | exact rfl)); (focus (first | (simp only [go_sem, ↓reduceIte, Nat.reduceEqDiff, reduceCtorEq, Nat.reduceLT, Nat.reduceAdd, Int.reduceBEq, Int.reduceBNe, Int.reduceEq, Int.reduceLE, Int.reduceLT, Int.reduceToNat, Nat.reduceLeDiff, Nat.reduceMul, Nat.reduceSub, h1]; exact rfl) | exact rfl)); (focus (first | (simp only [go_sem, ↓reduceIte, Nat.reduceEqDiff, reduceCtorEq, Nat.reduceLT, Nat.reduceAdd, Int.reduceBEq, Int.reduceBNe, Int.reduceEq, Int.reduceLE, Int.reduceLT, Int.reduceToNat, Nat.reduceLeDiff, Nat.reduceMul, Nat.reduceSub, h1]; exact rfl) | exact rfl))) | fail)
    (simp only [go_sem, ↓reduceIte, Nat.reduceEqDiff, ht]; repeat' first | exact LV.le_refl _ | exact LV.le_nil _ | exact le_nilF _ _ | exact LV.le_any _ _ _ | refine LV.le_tup ?_ | refine LV.le_agg ?_ | exact LV.les_nil | refine LV.les_cons ?_ ?_)
theorem rvictims_fun (l : List Int) (a n me : Int) (hb : octB l) (hl : l.length ≤ 100000) : Fun Try.prog 15 [dv l a, vi n, vi me] (.tup [sI (vV l a n me), dv (vL l a n me) (vA l a n me), vi (vE l a n me)]) := by
  cases e : vOk l a n me with
  | true =>
    have h2 := e
    simp only [vOk, Bool.and_eq_true, decide_eq_true_eq, beq_iff_eq] at h2
    obtain ⟨k, rfl, hk⟩ := victims_nat h2.2
    obtain ⟨j, rfl⟩ := Int.eq_ofNat_of_zero_le (show 0 ≤ n by omega)
    simp only [vV, vL, vA, vE, e, if_true, Int.toNat_natCast]
    exact rvictims_ok l k j me (by omega) hk hb hl
  | false =>
    simp only [vV, vL, vA, vE, e]
    exact rvictims_bad l a n me e
end Go.Proofs.Ytflfhgpcmocilaa
