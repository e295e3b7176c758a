/- Chapter 16: the document's Lucky; the law PickDoes. -/
import Derived.Test.YtflfhgpcmocilaaKR6
set_option linter.unusedSimpArgs false
set_option linter.unusedVariables false
namespace Go.Proofs.Ytflfhgpcmocilaa
open Go.Lw
attribute [local irreducible] LK LOps LW
set_option maxHeartbeats 4000000 in
set_option maxRecDepth 10000 in
theorem rlucky_bad (l : List Int) (a : Int) (t : List Lo.Ten) (b : List Bool) (ht : t.length ≤ 100000) (h : luBad l a t b = true) : Fun Try.prog 17 [dv l a, sT t, sB b] (.tup [vi 0, noDice, vi 1]) := by
  have hck := rcheck_fun l a
  have hct := Lo.rcheck_fun t ht
  refine Fun.frozenLe ?_
  (refine LCalls.enter Try.func17 rfl (by simp [Try.ntmps17]) (LK.start ?_); simp only [Try.ntmps17, enterA, Nat.zero_add])
  (repeat' first | refine LOps.done ?_ | (apply LOps.mv; (focus (first | exact Goes.free | exact Goes.on rfl rfl (by with_reducible rfl) true (by decide))); (focus (exact rfl)); (focus (exact rfl))) | (apply LOps.loc; (focus (first | exact Goes.free | exact Goes.on rfl rfl (by with_reducible rfl) true (by decide))); (focus (exact rfl)); (focus (exact rfl)); (focus (simp only [go_sem, ↓reduceIte, Nat.reduceEqDiff, reduceCtorEq, Nat.reduceLT, Nat.reduceAdd]; with_reducible rfl))) | (apply LOps.pass; (focus (first | exact Goes.on rfl rfl (by with_reducible rfl) false (by decide) | exact Goes.undef rfl rfl (by with_reducible rfl))); (focus (exact rfl))) | (apply LOps.scEnd; (focus (exact rfl)); (focus (with_reducible rfl))) | refine LK.seq ?_ | refine LK.regc ?_ | (apply LOps.locFn; (focus (first | exact Goes.free | exact Goes.on rfl rfl (by with_reducible rfl) true (by decide))); (focus (exact rfl)); (focus (exact rfl)); (focus (simp only [go_sem, ↓reduceIte]; exact rfl)); (focus (simp only [go_sem])); (focus (first | exact hck | exact hct)); (focus (first | rfl | simp [go_sem])); (focus (first | rfl | simp [go_sem]))) | (apply LOps.or2; exact rfl; exact rfl; exact rfl; exact rfl; exact rfl; (focus (with_reducible rfl)); (focus (first | kernel_rfl | rfl))) | refine Under.mk (fun hg => ?_) | fail)
  refine LK.condT2 rfl (by first | with_reducible rfl | rfl) (h) ?_
  (repeat' first | refine LOps.done ?_ | (apply LOps.loc; (focus (first | exact Goes.free | exact Goes.on rfl rfl (by with_reducible rfl) true (by decide))); (focus (exact rfl)); (focus (exact rfl)); (focus (simp only [go_sem, ↓reduceIte]; with_reducible rfl))) | (apply LOps.loc0; (focus (first | exact Goes.free | exact Goes.on rfl rfl (by with_reducible rfl) true (by decide))); (focus (exact rfl)); (focus (simp only [go_sem, ↓reduceIte, Nat.reduceEqDiff, reduceCtorEq, Nat.reduceLT, Nat.reduceAdd]; with_reducible rfl))) | refine LK.seq ?_ | refine LK.ret' ?_ | refine LK.regc ?_ | (apply retQ; (focus (first | exact lres_one rfl | exact lres_more rfl | (simp only [lres, lresv, Try.results17, go_sem, ↓reduceIte, Nat.reduceEqDiff, reduceCtorEq, Nat.reduceAdd]; exact rfl)))) | fail)
  (simp only [go_sem]; repeat' first | exact LV.le_refl _ | exact LV.le_nil _ | exact le_nilF _ _ | exact LV.le_any _ _ _ | refine LV.le_tup ?_ | refine LV.le_agg ?_ | exact LV.les_nil | refine LV.les_cons ?_ ?_)
set_option maxHeartbeats 4000000 in
set_option maxRecDepth 10000 in
theorem rlucky_ok (l : List Int) (a : Int) (t : List Lo.Ten) (b : List Bool) (ht : t.length ≤ 100000) (hb : octB l) (hl : l.length ≤ 100000) (h : luBad l a t b = false) (w : List Int) (hw : wts t b t.length = w) : Fun Try.prog 17 [dv l a, sT t, sB b] (.tup [vi (hN l w a), dv (hL l w a) (hA l w a), vi (hE l w a)]) := by
  have hck := rcheck_fun l a
  have hct := Lo.rcheck_fun t ht
  have hlen : b.length = t.length := by
    simp only [luBad, Bool.or_eq_false_iff, bne_eq_false_iff_eq] at h; omega
  have hwl : w.length = t.length := by rw [← hw, wts_len]
  have hh := rheavy_fun l w a hb hl (by omega)
  refine Fun.frozenLe ?_
  (refine LCalls.enter Try.func17 rfl (by simp [Try.ntmps17]) (LK.start ?_); simp only [Try.ntmps17, enterA, Nat.zero_add])
  (repeat' first | refine LOps.done ?_ | (apply LOps.mv; (focus (first | exact Goes.free | exact Goes.on rfl rfl (by with_reducible rfl) true (by decide))); (focus (exact rfl)); (focus (exact rfl))) | (apply LOps.loc; (focus (first | exact Goes.free | exact Goes.on rfl rfl (by with_reducible rfl) true (by decide))); (focus (exact rfl)); (focus (exact rfl)); (focus (simp only [go_sem, ↓reduceIte, Nat.reduceEqDiff, reduceCtorEq, Nat.reduceLT, Nat.reduceAdd]; with_reducible rfl))) | (apply LOps.pass; (focus (first | exact Goes.on rfl rfl (by with_reducible rfl) false (by decide) | exact Goes.undef rfl rfl (by with_reducible rfl))); (focus (exact rfl))) | (apply LOps.scEnd; (focus (exact rfl)); (focus (with_reducible rfl))) | refine LK.seq ?_ | refine LK.regc ?_ | (apply LOps.locFn; (focus (first | exact Goes.free | exact Goes.on rfl rfl (by with_reducible rfl) true (by decide))); (focus (exact rfl)); (focus (exact rfl)); (focus (simp only [go_sem, ↓reduceIte]; exact rfl)); (focus (simp only [go_sem])); (focus (first | exact hck | exact hct)); (focus (first | rfl | simp [go_sem])); (focus (first | rfl | simp [go_sem]))) | (apply LOps.or2; exact rfl; exact rfl; exact rfl; exact rfl; exact rfl; (focus (with_reducible rfl)); (focus (first | kernel_rfl | rfl))) | refine Under.mk (fun hg => ?_) | fail)
  refine LK.condF2 rfl (by first | with_reducible rfl | rfl) (h) ?_
  (repeat' first | refine LOps.done ?_ | (apply LOps.mv; (focus (first | exact Goes.free | exact Goes.on rfl rfl (by with_reducible rfl) true (by decide))); (focus (exact rfl)); (focus (exact rfl))) | (apply LOps.loc; (focus (first | exact Goes.free | exact Goes.on rfl rfl (by with_reducible rfl) true (by decide))); (focus (exact rfl)); (focus (exact rfl)); (focus (simp only [go_sem, ↓reduceIte]; with_reducible rfl))) | refine LK.seq ?_ | refine LK.skip ?_ | refine LK.block ?_ | refine LK.regc ?_ | fail)
  refine LK.own0 9 1 (by simp only [upd, go_sem, ↓reduceIte, Nat.reduceEqDiff, reduceCtorEq]; rfl) rfl ?_
  refine LK.loop (fun k : Nat => t.length - k) (fun k => k ≤ t.length) (fun k => ⟨54, [(2, sB b), (3, .ptr 0 1 0 0), (7, .ptr 1 1 0 0), (9, .own 2 k 0 k), (28, sT t), (29, vi t.length), (30, vi k)]⟩) (fun k => [(0, .arr 2 [[sU l, vi a]]), (1, .arr 2 [[nil0, vi 0]]), (2, .arr 1 (oF (cI .i64) (w.take k)))]) 0 (Nat.zero_le _) (by dsimp only [List.take_zero]; exact (Sub.by rfl rfl (by first | rfl | (simp only [subB, MB_all_under, MI_all_under, MB_all_idp, MI_all_idp, oF_under, oF_idp, oF_all_under, oF_all_idp, MB_under, MI_under, MB_idp, MI_idp, evOk, ovOk, nvOk, keepOf, vis, LV.under, LV.unders, LV.idp, LV.idps, LO.under, LO.idp, under_pv, idp_pv, List.all_cons, List.all_nil, List.any_cons, List.any_nil, Nat.reduceBEq, beq_self_eq_true, Bool.and_true, Bool.true_and, Bool.or_true, Bool.true_or, Bool.or_false, Bool.false_or, decide_true, decide_false, Nat.reduceLT, Nat.reduceLeDiff, Nat.le_refl, Nat.reduceAdd, Bool.and_self, Bool.or_self]; done)))) ?_
  intro k hk J hJ
  have hkl : (w.take k).length = k := by rw [List.length_take]; omega
  rcases Nat.lt_or_ge k t.length with hlt | hge
  · obtain ⟨x, hx⟩ := idx_all hlt
    obtain ⟨y, hy⟩ := idx_all (show k < b.length by omega)
    have i1 : ((k : Int) < (b.length : Int)) := by omega
    have i2 : ((k : Int) < (t.length : Int)) := by omega
    have hwk := wrapn (n := k) (by omega)
    have hg := wts_get t b t.length k x y hlt hx hy
    rw [hw] at hg
    have hm : k + 1 ≤ maxLen ∧ (k + 1) * 8 ≤ 140737488355328 := by simp only [maxLen]; omega
    cases y with
    | true =>
      simp only [if_true] at hg
      have hs : oF (cI .i64) (w.take k) ++ [[vi x.w]] = oF (cI .i64) (w.take (k + 1)) := by rw [List.take_add_one, hg]; simp [oF, rF, cI]
      (repeat' first | refine LOps.done ?_ | (apply LOps.mv; (focus (first | exact Goes.free | exact Goes.on rfl rfl (by with_reducible rfl) true (by decide))); (focus (exact rfl)); (focus (exact rfl))) | (apply LOps.asg; (focus (first | exact Goes.free | exact Goes.on rfl rfl (by with_reducible rfl) true (by decide))); (focus (exact rfl)); (focus (exact rfl))) | (apply LOps.loc; (focus (first | exact Goes.free | exact Goes.on rfl rfl (by with_reducible rfl) true (by decide))); (focus (exact rfl)); (focus (exact rfl)); (focus (simp only [go_sem, ↓reduceIte, Nat.reduceEqDiff, reduceCtorEq, Nat.reduceLT, Nat.reduceAdd, Nat.reduceLeDiff, i1, i2, hx, hy, hwk, hkl, hm, hs]; with_reducible rfl))) | (apply LOps.loc0; (focus (first | exact Goes.free | exact Goes.on rfl rfl (by with_reducible rfl) true (by decide))); (focus (exact rfl)); (focus (simp only [go_sem, ↓reduceIte, Nat.reduceEqDiff, reduceCtorEq, Nat.reduceLT, Nat.reduceAdd]; with_reducible rfl))) | refine LK.seq ?_ | refine LK.skip ?_ | refine LK.block ?_ | refine LK.blk ?_ | refine LK.fin ?_ | (apply LK.condT2; (focus (exact rfl)); (focus (with_reducible rfl)); (focus (first | with_reducible rfl | decide | (with_reducible exact Bool.true_or _) | (with_reducible exact congrArg (fun b => b || _) (Bool.true_or _))))) | refine LK.regc ?_ | fail)
      apply hJ
      exact ⟨k + 1, hlt, by omega, (Sub.by rfl rfl (by first | rfl | (simp only [subB, oF_all_under, LV.under, LO.under, List.all_cons, List.all_nil, decide_true, Nat.reduceLT, Nat.reduceAdd, Bool.and_self]; done)))⟩
    | false =>
      simp only [Bool.false_eq_true, if_false] at hg
      have hs : oF (cI .i64) (w.take k) ++ [[vi 0]] = oF (cI .i64) (w.take (k + 1)) := by rw [List.take_add_one, hg]; simp [oF, rF, cI]
      (repeat' first | refine LOps.done ?_ | (apply LOps.mv; (focus (first | exact Goes.free | exact Goes.on rfl rfl (by with_reducible rfl) true (by decide))); (focus (exact rfl)); (focus (exact rfl))) | (apply LOps.asg; (focus (first | exact Goes.free | exact Goes.on rfl rfl (by with_reducible rfl) true (by decide))); (focus (exact rfl)); (focus (exact rfl))) | (apply LOps.loc; (focus (first | exact Goes.free | exact Goes.on rfl rfl (by with_reducible rfl) true (by decide))); (focus (exact rfl)); (focus (exact rfl)); (focus (simp only [go_sem, ↓reduceIte, Nat.reduceEqDiff, reduceCtorEq, Nat.reduceLT, Nat.reduceAdd, Nat.reduceLeDiff, i1, i2, hx, hy, hwk, hkl, hm, hs]; with_reducible rfl))) | (apply LOps.loc0; (focus (first | exact Goes.free | exact Goes.on rfl rfl (by with_reducible rfl) true (by decide))); (focus (exact rfl)); (focus (simp only [go_sem, ↓reduceIte, Nat.reduceEqDiff, reduceCtorEq, Nat.reduceLT, Nat.reduceAdd]; with_reducible rfl))) | refine LK.seq ?_ | refine LK.skip ?_ | refine LK.block ?_ | refine LK.blk ?_ | refine LK.fin ?_ | (apply LK.condT2; (focus (exact rfl)); (focus (with_reducible rfl)); (focus (first | with_reducible rfl | decide | (with_reducible exact Bool.true_or _) | (with_reducible exact congrArg (fun b => b || _) (Bool.true_or _))))) | (apply LK.condF2; (focus (exact rfl)); (focus (with_reducible rfl)); (focus (first | with_reducible rfl | decide | (with_reducible exact Bool.false_and _) | (with_reducible exact congrArg (fun b => b && _) (Bool.false_and _))))) | refine LK.regc ?_ | fail)
      apply hJ
      exact ⟨k + 1, hlt, by omega, (Sub.by rfl rfl (by first | rfl | (simp only [subB, oF_all_under, LV.under, LO.under, List.all_cons, List.all_nil, decide_true, Nat.reduceLT, Nat.reduceAdd, Bool.and_self]; done)))⟩
  · obtain rfl : k = t.length := by omega
    have i1 : ¬ ((t.length : Int) < (t.length : Int)) := by omega
    have hts : w.take t.length = w := List.take_of_length_le (by omega)
    rw [hts] at hkl ⊢
    (repeat' first | refine LOps.done ?_ | (apply LOps.mv; (focus (first | exact Goes.free | exact Goes.on rfl rfl (by with_reducible rfl) true (by decide))); (focus (exact rfl)); (focus (exact rfl))) | (apply LOps.asg; (focus (first | exact Goes.free | exact Goes.on rfl rfl (by with_reducible rfl) true (by decide))); (focus (exact rfl)); (focus (exact rfl))) | (apply LOps.ext; (focus (first | exact Goes.free | exact Goes.on rfl rfl (by with_reducible rfl) true (by decide))); (focus (exact rfl)); (focus (exact rfl)); (focus (exact rfl))) | (apply LOps.loc; (focus (first | exact Goes.free | exact Goes.on rfl rfl (by with_reducible rfl) true (by decide))); (focus (exact rfl)); (focus (exact rfl)); (focus (simp only [go_sem, ↓reduceIte, Nat.reduceEqDiff, reduceCtorEq, Nat.reduceAdd, i1]; with_reducible rfl))) | (apply LOps.loc0; (focus (first | exact Goes.free | exact Goes.on rfl rfl (by with_reducible rfl) true (by decide))); (focus (exact rfl)); (focus (simp only [go_sem, ↓reduceIte, Nat.reduceEqDiff, reduceCtorEq, Nat.reduceLT, Nat.reduceAdd]; with_reducible rfl))) | refine LK.seq ?_ | refine LK.ret' ?_ | refine LK.exit' rfl ?_ | (apply LK.condF2; (focus (exact rfl)); (focus (with_reducible rfl)); (focus (first | with_reducible rfl | decide | (with_reducible exact Bool.false_and _) | (with_reducible exact congrArg (fun b => b && _) (Bool.false_and _))))) | refine LK.regc ?_ | (apply retQ; (focus (first | exact lres_one rfl | exact lres_more rfl | (simp only [lres, lresv, Try.results17, go_sem, ↓reduceIte, Nat.reduceEqDiff, reduceCtorEq, Nat.reduceAdd]; exact rfl)))) | ((apply LOps.thaw; (focus (exact rfl)); (focus (exact rfl)); (focus (exact rfl)); (focus (exact rfl)); (focus (simp only [go_sem, ↓reduceIte, Nat.reduceEqDiff, reduceCtorEq, hkl, hts]; exact rfl)); (focus (simp only [go_sem, ↓reduceIte, Nat.reduceEqDiff, reduceCtorEq]; exact rfl))); (apply LOps.locFn; (focus (first | exact Goes.free | exact Goes.on rfl rfl (by with_reducible rfl) true (by decide))); (focus (exact rfl)); (focus (exact rfl)); (focus (simp only [go_sem, ↓reduceIte, Nat.reduceEqDiff]; exact rfl)); (focus (simp only [go_sem])); (focus (exact hh)); (focus (first | rfl | simp [go_sem])); (focus (first | rfl | simp [go_sem])))) | fail)
    (simp only [go_sem]; repeat' first | exact LV.le_refl _ | exact LV.le_nil _ | exact le_nilF _ _ | exact LV.le_any _ _ _ | refine LV.le_tup ?_ | refine LV.le_agg ?_ | exact LV.les_nil | refine LV.les_cons ?_ ?_)
/-- What Lucky answers. -/
def lkN (l : List Int) (a : Int) (t : List Lo.Ten) (b : List Bool) : Int := if luBad l a t b then 0 else hN l (wts t b t.length) a
def lkL (l : List Int) (a : Int) (t : List Lo.Ten) (b : List Bool) : List Int := if luBad l a t b then [] else hL l (wts t b t.length) a
def lkA (l : List Int) (a : Int) (t : List Lo.Ten) (b : List Bool) : Int := if luBad l a t b then 0 else hA l (wts t b t.length) a
def lkE (l : List Int) (a : Int) (t : List Lo.Ten) (b : List Bool) : Int := if luBad l a t b then 1 else hE l (wts t b t.length) a
theorem plucky_fun (l : List Int) (a : Int) (t : List Lo.Ten) (b : List Bool) (ht : t.length ≤ 100000) (hb : octB l) (hl : l.length ≤ 100000) : Fun Try.prog 14 [dv l a, sT t, sB b] (.tup [vi (lkN l a t b), dv (lkL l a t b) (lkA l a t b), vi (lkE l a t b)]) := by
  unfold lkN lkL lkA lkE
  cases h : luBad l a t b with
  | true => exact lucky_bad l a t b ht h
  | false => exact lucky_ok l a t b ht hb hl h _ rfl
theorem rlucky_fun (l : List Int) (a : Int) (t : List Lo.Ten) (b : List Bool) (ht : t.length ≤ 100000) (hb : octB l) (hl : l.length ≤ 100000) : Fun Try.prog 17 [dv l a, sT t, sB b] (.tup [vi (lkN l a t b), dv (lkL l a t b) (lkA l a t b), vi (lkE l a t b)]) := by
  unfold lkN lkL lkA lkE
  cases h : luBad l a t b with
  | true => exact rlucky_bad l a t b ht h
  | false => exact rlucky_ok l a t b ht hb hl h _ rfl
set_option maxHeartbeats 4000000 in
set_option maxRecDepth 10000 in
theorem does_skip (l : List Int) (a n me : Int) (has : List Int) (t : List Lo.Ten) (b : List Bool) (h : 1000 < l.length ∨ 200 < has.length ∨ 100 < t.length ∨ 100 < b.length) : Fun Try.prog 7 [dv l a, vi n, vi me, sI has, sT t, sB b] (vb true) := by
  have hc : (decide ((l.length : Int) > 1000) || decide ((has.length : Int) > 200) || decide ((t.length : Int) > 100) || decide ((b.length : Int) > 100)) = true := by simp only [Bool.or_eq_true, decide_eq_true_eq]; omega
  (refine LCalls.enter Try.func7 rfl (by simp [Try.ntmps7]) (LK.start ?_); simp only [Try.ntmps7, enterA, Nat.zero_add])
  (repeat' first | refine LOps.done ?_ | (apply LOps.mv; (focus (first | exact Goes.free | exact Goes.on rfl rfl (by with_reducible rfl) true (by decide))); (focus (exact rfl)); (focus (exact rfl))) | (apply LOps.asg; (focus (first | exact Goes.free | exact Goes.on rfl rfl (by with_reducible rfl) true (by decide))); (focus (exact rfl)); (focus (exact rfl))) | (apply LOps.loc; (focus (first | exact Goes.free | exact Goes.on rfl rfl (by with_reducible rfl) true (by decide))); (focus (exact rfl)); (focus (exact rfl)); (focus (simp only [go_sem, ↓reduceIte, Nat.reduceEqDiff, reduceCtorEq, Nat.reduceLT, Nat.reduceAdd]; with_reducible rfl))) | (apply LOps.pass; (focus (first | exact Goes.on rfl rfl (by with_reducible rfl) false (by decide) | exact Goes.undef rfl rfl (by with_reducible rfl))); (focus (exact rfl))) | (apply LOps.scEnd; (focus (exact rfl)); (focus (with_reducible rfl))) | refine LK.seq ?_ | refine LK.skip ?_ | (apply LK.condF2; (focus (exact rfl)); (focus (with_reducible rfl)); (focus (first | with_reducible rfl | decide | (with_reducible exact Bool.false_and _) | (with_reducible exact congrArg (fun b => b && _) (Bool.false_and _))))) | refine LK.regc ?_ | (apply LOps.locFn; (focus (first | exact Goes.free | exact Goes.on rfl rfl (by with_reducible rfl) true (by decide))); (focus (exact rfl)); (focus (exact rfl)); (focus (simp only [go_sem]; exact rfl)); (focus (simp only [go_sem])); (focus (exact live_fun)); (focus (first | rfl | simp [go_sem])); (focus (first | rfl | simp [go_sem]))) | (apply LOps.or2; exact rfl; exact rfl; exact rfl; exact rfl; exact rfl; (focus (with_reducible rfl)); (focus (first | kernel_rfl | rfl))) | refine Under.mk (fun hg => ?_) | fail)
  refine LK.condT2 rfl (by first | with_reducible rfl | rfl) (hc) ?_
  (repeat' first | refine LOps.done ?_ | (apply LOps.mv; (focus (first | exact Goes.free | exact Goes.on rfl rfl (by with_reducible rfl) true (by decide))); (focus (exact rfl)); (focus (exact rfl))) | (apply LOps.asg; (focus (first | exact Goes.free | exact Goes.on rfl rfl (by with_reducible rfl) true (by decide))); (focus (exact rfl)); (focus (exact rfl))) | refine LK.seq ?_ | refine LK.ret' ?_ | refine LK.regc ?_ | (apply retQ; (focus (first | exact lres_one rfl | exact lres_more rfl | (simp only [lres, lresv, Try.results7, go_sem, ↓reduceIte, Nat.reduceEqDiff, reduceCtorEq, Nat.reduceLT, Nat.reduceAdd, Int.reduceBEq, Int.reduceBNe, Int.reduceEq, Int.reduceLE, Int.reduceLT, Int.reduceToNat, Nat.reduceLeDiff, Nat.reduceMul, Nat.reduceSub]; exact rfl)))) | fail)
  all_goals rfl
set_option maxHeartbeats 4000000 in
set_option maxRecDepth 20000 in
theorem does_ok (l : List Int) (a n me : Int) (has : List Int) (t : List Lo.Ten) (b : List Bool) (h : ¬ (1000 < l.length ∨ 200 < has.length ∨ 100 < t.length ∨ 100 < b.length)) (hb : octB l) (hn : -9223372036854775808 ≤ n ∧ n ≤ 9223372036854775807) : Fun Try.prog 7 [dv l a, vi n, vi me, sI has, sT t, sB b] (vb true) := by
  have hc : (decide ((l.length : Int) > 1000) || decide ((has.length : Int) > 200) || decide ((t.length : Int) > 100) || decide ((b.length : Int) > 100)) = false := by simp only [Bool.or_eq_false_iff, decide_eq_false_iff_not]; omega
  have v1 := victims_fun l a n me hb (by omega)
  have v2 := rvictims_fun l a n me hb (by omega)
  have s1 := steal_fun l has a me hb (by omega) (by omega)
  have s2 := rsteal_fun l has a me hb (by omega) (by omega)
  have l1 := plucky_fun l a t b (by omega) hb (by omega)
  have l2 := rlucky_fun l a t b (by omega) hb (by omega)
  have h1 := half_fun n hn
  have h2 := rhalf_fun n hn
  have p1 := spill_fun n hn
  have p2 := rspill_fun n hn
  have vl : (vV l a n me).length ≤ 100000 := by
    unfold vV
    split
    · have := vic_len l a.toNat n.toNat me
      rename_i hv
      simp only [vOk, Bool.and_eq_true, decide_eq_true_eq] at hv
      omega
    · simp
  have e1 := same_fun (vV l a n me) (vV l a n me) vl
  have e2 := sameR_fun (vL l a n me) (vL l a n me) (vA l a n me) (vA l a n me)
  have e3 := sameR_fun (stL l has a me) (stL l has a me) (stA l has a me) (stA l has a me)
  have e4 := sameR_fun (lkL l a t b) (lkL l a t b) (lkA l a t b) (lkA l a t b)
  have bt : ∀ (L : List Int) (A : Int), (eqB L L && A == A) = true := fun L A => by simp [eqB_self]
  rw [bt] at e2 e3 e4
  rw [beq_self_eq_true] at e1
  generalize vV l a n me = a1 at *
  generalize vL l a n me = a2 at *
  generalize vA l a n me = a3 at *
  generalize vE l a n me = a4 at *
  generalize stN l has a me = a5 at *
  generalize stL l has a me = a6 at *
  generalize stA l has a me = a7 at *
  generalize stE l has a me = a8 at *
  generalize lkN l a t b = b1 at *
  generalize lkL l a t b = b2 at *
  generalize lkA l a t b = b3 at *
  generalize lkE l a t b = b4 at *
  generalize (halfR n).1 = c1 at *
  generalize (halfR n).2 = c2 at *
  generalize (spillR n).1 = c3 at *
  generalize (spillR n).2 = c4 at *
  (refine LCalls.enter Try.func7 rfl (by simp [Try.ntmps7]) (LK.start ?_); simp only [Try.ntmps7, enterA, Nat.zero_add])
  (repeat' first | refine LOps.done ?_ | (apply LOps.mv; (focus (first | exact Goes.free | exact Goes.on rfl rfl (by with_reducible rfl) true (by decide))); (focus (exact rfl)); (focus (exact rfl))) | (apply LOps.asg; (focus (first | exact Goes.free | exact Goes.on rfl rfl (by with_reducible rfl) true (by decide))); (focus (exact rfl)); (focus (exact rfl))) | (apply LOps.loc; (focus (first | exact Goes.free | exact Goes.on rfl rfl (by with_reducible rfl) true (by decide))); (focus (exact rfl)); (focus (exact rfl)); (focus (simp only [go_sem, ↓reduceIte, Nat.reduceEqDiff, reduceCtorEq, Nat.reduceLT, Nat.reduceAdd]; with_reducible rfl))) | (apply LOps.pass; (focus (first | exact Goes.on rfl rfl (by with_reducible rfl) false (by decide) | exact Goes.undef rfl rfl (by with_reducible rfl))); (focus (exact rfl))) | (apply LOps.scEnd; (focus (exact rfl)); (focus (with_reducible rfl))) | refine LK.seq ?_ | refine LK.skip ?_ | (apply LK.condF2; (focus (exact rfl)); (focus (with_reducible rfl)); (focus (first | with_reducible rfl | decide | (with_reducible exact Bool.false_and _) | (with_reducible exact congrArg (fun b => b && _) (Bool.false_and _))))) | refine LK.regc ?_ | (apply LOps.locFn; (focus (first | exact Goes.free | exact Goes.on rfl rfl (by with_reducible rfl) true (by decide))); (focus (exact rfl)); (focus (exact rfl)); (focus (simp only [go_sem]; exact rfl)); (focus (simp only [go_sem])); (focus (exact live_fun)); (focus (first | rfl | simp [go_sem])); (focus (first | rfl | simp [go_sem]))) | (apply LOps.or2; exact rfl; exact rfl; exact rfl; exact rfl; exact rfl; (focus (with_reducible rfl)); (focus (first | kernel_rfl | rfl))) | refine Under.mk (fun hg => ?_) | fail)
  refine LK.condF2 rfl (by first | with_reducible rfl | rfl) (hc) ?_
  (repeat' first | refine LOps.done ?_ | (apply LOps.mv; (focus (first | exact Goes.free | exact Goes.on rfl rfl (by with_reducible rfl) true (by decide))); (focus (exact rfl)); (focus (exact rfl))) | (apply LOps.asg; (focus (first | exact Goes.free | exact Goes.on rfl rfl (by with_reducible rfl) true (by decide))); (focus (exact rfl)); (focus (exact rfl))) | (apply LOps.ext; (focus (first | exact Goes.free | exact Goes.on rfl rfl (by with_reducible rfl) true (by decide))); (focus (exact rfl)); (focus (exact rfl)); (focus (exact rfl))) | (apply LOps.loc; (focus (first | exact Goes.free | exact Goes.on rfl rfl (by with_reducible rfl) true (by decide))); (focus (exact rfl)); (focus (exact rfl)); (focus (simp only [go_sem, ↓reduceIte, Nat.reduceEqDiff, reduceCtorEq, Nat.reduceLT, Nat.reduceAdd]; with_reducible rfl))) | (apply LOps.loc0; (focus (first | exact Goes.free | exact Goes.on rfl rfl (by with_reducible rfl) true (by decide))); (focus (exact rfl)); (focus (simp only [go_sem, ↓reduceIte, Nat.reduceEqDiff, reduceCtorEq, Nat.reduceLT, Nat.reduceAdd]; with_reducible rfl))) | refine LK.seq ?_ | refine LK.skip ?_ | refine LK.ret' ?_ | refine LK.regc ?_ | (apply retQ; (focus (first | exact lres_one rfl | exact lres_more rfl | (simp only [lres, lresv, Try.results7, go_sem, ↓reduceIte, Nat.reduceEqDiff, reduceCtorEq, Nat.reduceLT, Nat.reduceAdd, Int.reduceBEq, Int.reduceBNe, Int.reduceEq, Int.reduceLE, Int.reduceLT, Int.reduceToNat, Nat.reduceLeDiff, Nat.reduceMul, Nat.reduceSub]; exact rfl)))) | (apply LOps.locFn; (focus (first | exact Goes.free | exact Goes.on rfl rfl (by with_reducible rfl) true (by decide))); (focus (exact rfl)); (focus (exact rfl)); (focus (simp only [go_sem, ↓reduceIte, Nat.reduceEqDiff]; exact rfl)); (focus (simp only [go_sem])); (focus (first | exact v1 | exact v2 | exact s1 | exact s2 | exact l1 | exact l2 | exact h1 | exact h2 | exact p1 | exact p2 | exact e1 | exact e2 | exact e3 | exact e4)); (focus (first | rfl | simp [go_sem])); (focus (first | rfl | simp [go_sem]))) | fail)
  all_goals rfl
theorem does_fun (l : List Int) (a n me : Int) (has : List Int) (t : List Lo.Ten) (b : List Bool) (hb : octB l) (hn : (Lit.int .i64 n).wf = true) : Fun Try.prog 7 [dv l a, vi n, vi me, sI has, sT t, sB b] (vb true) := by
  have hw : -9223372036854775808 ≤ n ∧ n ≤ 9223372036854775807 := by
    simp [Lit.wf, IntKind.min, IntKind.max, IntKind.bits, IntKind.signed] at hn; omega
  by_cases h : 1000 < l.length ∨ 200 < has.length ∨ 100 < t.length ∨ 100 < b.length
  · exact does_skip l a n me has t b h
  · exact does_ok l a n me has t b h hb hw
theorem typed_list {α : Type} {s : Sh} {f : α → List PV} {W : α → Prop} (h1 : ∀ r, Typed s r → ∃ x, r = f x ∧ W x) : ∀ {rows : List (List PV)}, (∀ r ∈ rows, Typed s r) → ∃ l : List α, rows = rF f l ∧ ∀ x ∈ l, W x
  | [], _ => ⟨[], rfl, by simp⟩
  | r :: rows, h => by
    obtain ⟨l, rfl, hl⟩ := typed_list h1 (rows := rows) fun r hr => h r (List.mem_cons_of_mem _ hr)
    obtain ⟨x, rfl, hx⟩ := h1 r (h r (by simp))
    refine ⟨x :: l, rfl, fun y hy => ?_⟩
    rcases List.mem_cons.1 hy with rfl | hy
    · exact hx
    · exact hl y hy
theorem typed_struct41 {rows : List (List PV)} (h : ∀ r ∈ rows, Typed (.st [.int .i64, .int .i64, .int .i64, .int .i64, .int .i64]) r) : ∃ l : List Lo.Ten, rows = rF Lo.cT l ∧ ∀ x ∈ l, True := by
  refine typed_list (W := fun _ => True) (fun r hr => ?_) h
  simp only [Typed, TypedL] at hr
  obtain ⟨_, _, rfl, ⟨a, rfl, _⟩, _, _, rfl, ⟨b, rfl, _⟩, _, _, rfl, ⟨c, rfl, _⟩, _, _, rfl, ⟨d, rfl, _⟩, _, _, rfl, ⟨e, rfl, _⟩, rfl⟩ := hr
  exact ⟨⟨a, b, c, d, e⟩, rfl, trivial⟩
end Go.Proofs.Ytflfhgpcmocilaa
