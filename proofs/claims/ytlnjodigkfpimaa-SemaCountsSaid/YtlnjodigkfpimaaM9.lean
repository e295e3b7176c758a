/- The walks of chapter 10: the document's functions. -/
import Derived.Test.YtlnjodigkfpimaaM8
set_option linter.unusedSimpArgs false
set_option linter.unusedVariables false
namespace Go.Proofs.Ytlnjodigkfpimaa
open Go.Lw
attribute [local irreducible] LK LOps LW
set_option maxHeartbeats 4000000 in
set_option maxRecDepth 10000 in
theorem req_fun (p q : List Int) (hp : p.length ≤ 100000) : Fun Try.prog 16 [sI p, sI q] (vb (decide (p = q))) := by
  (refine LCalls.enter Try.func16 rfl (by simp [Try.ntmps16]) (LK.start ?_); simp only [Try.ntmps16, enterA, Nat.zero_add])
  (repeat' first | refine LOps.done ?_ | (apply LOps.mv; (focus (first | exact Goes.free | exact Goes.on rfl rfl (by with_reducible rfl) true (by decide))); (focus (exact rfl)); (focus (exact rfl))) | (apply LOps.loc; (focus (first | exact Goes.free | exact Goes.on rfl rfl (by with_reducible rfl) true (by decide))); (focus (exact rfl)); (focus (exact rfl)); (focus (simp only [go_sem, ↓reduceIte, Nat.reduceEqDiff]; with_reducible rfl))) | refine LK.seq ?_ | refine LK.regc ?_ | fail)
  by_cases hlen : p.length = q.length
  · have hc : ((p.length : Int) != (q.length : Int)) = false := by rw [hlen]; simp
    refine LK.condF2 rfl (by first | with_reducible rfl | rfl) (hc) ?_
    (repeat' first | refine LOps.done ?_ | (apply LOps.mv; (focus (first | exact Goes.free | exact Goes.on rfl rfl (by with_reducible rfl) true (by decide))); (focus (exact rfl)); (focus (exact rfl))) | (apply LOps.loc; (focus (first | exact Goes.free | exact Goes.on rfl rfl (by with_reducible rfl) true (by decide))); (focus (exact rfl)); (focus (exact rfl)); (focus (simp only [go_sem, ↓reduceIte]; with_reducible rfl))) | refine LK.seq ?_ | refine LK.skip ?_ | refine LK.block ?_ | refine LK.regc ?_ | fail)
    refine LK.loop (fun k : Nat => p.length - k) (fun k => k ≤ p.length ∧ p.take k = q.take k) (fun k => ⟨26, [(0, sI p), (1, sI q), (12, vi p.length), (13, vi k)]⟩) (fun _ => []) 0 ⟨Nat.zero_le _, rfl⟩ (Sub.by rfl rfl rfl) ?_
    rintro k ⟨hk, hsame⟩ J hJ
    rcases Nat.lt_or_ge k p.length with hlt | hge
    · obtain ⟨x, hx⟩ := idx_all hlt
      obtain ⟨y, hy⟩ := idx_all (show k < q.length by omega)
      have h1 : ((k : Int) < (p.length : Int)) := by omega
      have h2 : ((k : Int) < (q.length : Int)) := by omega
      have hw := wrapn (n := k) (by omega)
      (repeat' first | refine LOps.done ?_ | (apply LOps.mv; (focus (first | exact Goes.free | exact Goes.on rfl rfl (by with_reducible rfl) true (by decide))); (focus (exact rfl)); (focus (exact rfl))) | (apply LOps.asg; (focus (first | exact Goes.free | exact Goes.on rfl rfl (by with_reducible rfl) true (by decide))); (focus (exact rfl)); (focus (exact rfl))) | (apply LOps.loc; (focus (first | exact Goes.free | exact Goes.on rfl rfl (by with_reducible rfl) true (by decide))); (focus (exact rfl)); (focus (exact rfl)); (focus (simp only [go_sem, ↓reduceIte, Nat.reduceEqDiff, h1]; with_reducible rfl))) | refine LK.seq ?_ | refine LK.skip ?_ | refine LK.block ?_ | (apply LK.condT2; (focus (exact rfl)); (focus (with_reducible rfl)); (focus (first | with_reducible rfl | decide | (with_reducible exact Bool.true_or _) | (with_reducible exact congrArg (fun b => b || _) (Bool.true_or _))))) | refine LK.regc ?_ | (apply LK.drawn3; (focus (exact Ty.mixed)); (focus ((repeat' first | exact DRun.nil _ _ _ | (apply DRun.aopS; (focus (exact rfl)); (focus (first | exact rfl | (simp only [oF_idss, oF_ids, idss_MB, idss_MI, objsOf, idsOf, LV.ids, LV.idss, LO.ids, idss_pv, lookB_eq, List.any_nil, List.any_cons, cond_true, cond_false, List.flatten_cons, List.flatten_nil, Nat.reduceBEq, Bool.or_false, Bool.false_or, Bool.or_true, go_sem, ↓reduceIte, Nat.reduceEqDiff, reduceCtorEq, Nat.reduceLT, Nat.reduceAdd, Int.reduceBEq, Int.reduceBNe, Int.reduceEq, Int.reduceLE, Int.reduceLT, Int.reduceToNat, Nat.reduceLeDiff, Nat.reduceMul, Nat.reduceSub, h1, h2, hx, hy, hw]; exact rfl))); (focus (first | exact Goes.free | exact Goes.on rfl rfl (by with_reducible rfl) true (by decide))); (focus (simp only [go_sem, ↓reduceIte, Nat.reduceEqDiff, Nat.reduceLT, h1, h2, hx, hy]; exact rfl)); (focus (exact rfl)); (focus (first | decide +kernel | (simp only [evOk, ovOk, nvOk, keepOf, vis, LV.under, LV.idp, LO.under, LO.idp, List.all_cons, List.all_nil, List.any_nil, Bool.and_true, Bool.false_or, Bool.and_self]; done) | (simp [evOk, ovOk, nvOk, keepOf, vis, LV.under, LV.idp, LO.under, LO.idp]; done)))) | fail); done)); (focus kernel_rfl); (focus (first | exact puOk_none rfl | (simp [puOk, evShape, nvShape, look, oF_len, go_sem, ↓reduceIte, Nat.reduceEqDiff, reduceCtorEq, Nat.reduceLT, Nat.reduceAdd, Int.reduceBEq, Int.reduceBNe, Int.reduceEq, Int.reduceLE, Int.reduceLT, Int.reduceToNat, Nat.reduceLeDiff, Nat.reduceMul, Nat.reduceSub, h1, h2, hx, hy, hw]; done))); (focus (first | (simp only [go_sem, ↓reduceIte, Nat.reduceEqDiff, reduceCtorEq, Nat.reduceLT, Nat.reduceAdd, Int.reduceBEq, Int.reduceBNe, Int.reduceEq, Int.reduceLE, Int.reduceLT, Int.reduceToNat, Nat.reduceLeDiff, Nat.reduceMul, Nat.reduceSub, h1, h2, hx, hy, hw]; exact rfl) | exact rfl)); (focus (first | (simp only [go_sem, ↓reduceIte, Nat.reduceEqDiff, reduceCtorEq, Nat.reduceLT, Nat.reduceAdd, Int.reduceBEq, Int.reduceBNe, Int.reduceEq, Int.reduceLE, Int.reduceLT, Int.reduceToNat, Nat.reduceLeDiff, Nat.reduceMul, Nat.reduceSub, h1, h2, hx, hy, hw]; exact rfl) | exact rfl)); (focus (first | (simp only [go_sem, ↓reduceIte, Nat.reduceEqDiff, reduceCtorEq, Nat.reduceLT, Nat.reduceAdd, Int.reduceBEq, Int.reduceBNe, Int.reduceEq, Int.reduceLE, Int.reduceLT, Int.reduceToNat, Nat.reduceLeDiff, Nat.reduceMul, Nat.reduceSub, h1, h2, hx, hy, hw]; exact rfl) | exact rfl))) | fail)
      by_cases e : x = y
      · have hc : (x != y) = false := by simpa using e
        refine LK.condF2 rfl (by first | with_reducible rfl | rfl) (hc) ?_
        (repeat' first | refine LOps.done ?_ | (apply LOps.mv; (focus (first | exact Goes.free | exact Goes.on rfl rfl (by with_reducible rfl) true (by decide))); (focus (exact rfl)); (focus (exact rfl))) | (apply LOps.loc; (focus (first | exact Goes.free | exact Goes.on rfl rfl (by with_reducible rfl) true (by decide))); (focus (exact rfl)); (focus (exact rfl)); (focus (simp only [go_sem, ↓reduceIte, hw]; with_reducible rfl))) | refine LK.skip ?_ | refine LK.blk ?_ | refine LK.fin ?_ | refine LK.regc ?_ | fail)
        apply hJ
        exact ⟨k + 1, ⟨hlt, by rw [List.take_add_one, List.take_add_one, hsame, hx, hy, e]⟩, by omega, Sub.by rfl rfl rfl⟩
      · have hc : (x != y) = true := by simpa using e
        refine LK.condT2 rfl (by first | with_reducible rfl | rfl) (hc) ?_
        (repeat' first | refine LOps.done ?_ | (apply LOps.loc; (focus (first | exact Goes.free | exact Goes.on rfl rfl (by with_reducible rfl) true (by decide))); (focus (exact rfl)); (focus (exact rfl)); (focus (simp only [go_sem]; with_reducible rfl))) | refine LK.seq ?_ | refine LK.ret' ?_ | refine LK.regc ?_ | (apply retQ; (focus (first | exact lres_one rfl | exact lres_more rfl | (simp only [lres, lresv, Try.results16, go_sem, ↓reduceIte, Nat.reduceEqDiff, reduceCtorEq, Nat.reduceLT, Nat.reduceAdd, Int.reduceBEq, Int.reduceBNe, Int.reduceEq, Int.reduceLE, Int.reduceLT, Int.reduceToNat, Nat.reduceLeDiff, Nat.reduceMul, Nat.reduceSub, h1, h2, hx, hy, hw]; exact rfl)))) | fail)
        have : decide (p = q) = false := by
          rw [decide_eq_false_iff_not]
          rintro rfl
          rw [hx] at hy; exact e (Option.some.inj hy)
        rw [this]
    · have h1 : ¬ ((k : Int) < (p.length : Int)) := by omega
      (repeat' first | refine LOps.done ?_ | (apply LOps.loc; (focus (first | exact Goes.free | exact Goes.on rfl rfl (by with_reducible rfl) true (by decide))); (focus (exact rfl)); (focus (exact rfl)); (focus (simp only [go_sem, ↓reduceIte, Nat.reduceEqDiff, h1]; with_reducible rfl))) | refine LK.seq ?_ | refine LK.ret' ?_ | refine LK.exit' rfl ?_ | (apply LK.condF2; (focus (exact rfl)); (focus (with_reducible rfl)); (focus (first | with_reducible rfl | decide | (with_reducible exact Bool.false_and _) | (with_reducible exact congrArg (fun b => b && _) (Bool.false_and _))))) | refine LK.regc ?_ | (apply retQ; (focus (first | exact lres_one rfl | exact lres_more rfl | (simp only [lres, lresv, Try.results16, go_sem, ↓reduceIte, Nat.reduceEqDiff, reduceCtorEq, Nat.reduceLT, Nat.reduceAdd, Int.reduceBEq, Int.reduceBNe, Int.reduceEq, Int.reduceLE, Int.reduceLT, Int.reduceToNat, Nat.reduceLeDiff, Nat.reduceMul, Nat.reduceSub, h1]; exact rfl)))) | fail)
      have : p = q := by
        rw [List.take_of_length_le hge, List.take_of_length_le (by omega)] at hsame
        exact hsame
      subst this
      simp
  · have hc : ((p.length : Int) != (q.length : Int)) = true := by rw [bne_iff_ne]; omega
    refine LK.condT2 rfl (by first | with_reducible rfl | rfl) (hc) ?_
    (repeat' first | refine LOps.done ?_ | (apply LOps.loc; (focus (first | exact Goes.free | exact Goes.on rfl rfl (by with_reducible rfl) true (by decide))); (focus (exact rfl)); (focus (exact rfl)); (focus (simp only [go_sem]; with_reducible rfl))) | refine LK.seq ?_ | refine LK.ret' ?_ | refine LK.regc ?_ | (apply retQ; (focus (first | exact lres_one rfl | exact lres_more rfl | (simp only [lres, lresv, Try.results16, go_sem, ↓reduceIte, Nat.reduceEqDiff, reduceCtorEq, Nat.reduceLT, Nat.reduceAdd, Int.reduceBEq, Int.reduceBNe, Int.reduceEq, Int.reduceLE, Int.reduceLT, Int.reduceToNat, Nat.reduceLeDiff, Nat.reduceMul, Nat.reduceSub]; exact rfl)))) | fail)
    have : decide (p = q) = false := by rw [decide_eq_false_iff_not]; rintro rfl; exact hlen rfl
    rw [this]
theorem wo_step {w : List Int} {k : Nat} {x v : Int} (hx : w[k]? = some x) : wo (w.take (k + 1)) v = wo (w.take k) v ++ (if x = v then [] else [x]) := by
  rw [List.take_add_one, hx, Option.toList_some]
  simp only [wo, List.filter_append]
  by_cases e : x = v <;> simp [e]
theorem wo_len (w : List Int) (k : Nat) (v : Int) : (wo (w.take k) v).length ≤ k := by
  have := List.length_filter_le (fun x => !(x == v)) (w.take k)
  rw [List.length_take] at this
  simp only [wo]; omega
set_option maxHeartbeats 4000000 in
set_option maxRecDepth 10000 in
theorem rwo_fun (w : List Int) (v : Int) (hl : w.length ≤ 100000) : Fun Try.prog 15 [sI w, vi v] (sI (wo w v)) := by
  refine Fun.frozenLe ?_
  (refine LCalls.enter Try.func15 rfl (by simp [Try.ntmps15]) (LK.start ?_); simp only [Try.ntmps15, enterA, Nat.zero_add])
  (repeat' first | refine LOps.done ?_ | (apply LOps.mv; (focus (first | exact Goes.free | exact Goes.on rfl rfl (by with_reducible rfl) true (by decide))); (focus (exact rfl)); (focus (exact rfl))) | (apply LOps.loc; (focus (first | exact Goes.free | exact Goes.on rfl rfl (by with_reducible rfl) true (by decide))); (focus (exact rfl)); (focus (exact rfl)); (focus (simp only [go_sem, ↓reduceIte]; with_reducible rfl))) | refine LK.seq ?_ | refine LK.block ?_ | refine LK.regc ?_ | fail)
  refine LK.own0 5 1 (by simp only [upd, go_sem]; rfl) rfl ?_
  refine LK.loop (fun k : Nat => w.length - k) (fun k => k ≤ w.length) (fun k => ⟨23, [(0, sI w), (1, vi v), (5, .own 0 (wo (w.take k) v).length 0 (wo (w.take k) v).length), (8, sI w), (9, vi w.length), (10, vi k)]⟩) (fun k => [(0, .arr 1 (oF (cI .i64) (wo (w.take k) v)))]) 0 (Nat.zero_le _) (by dsimp only [List.take_zero]; exact (Sub.by rfl rfl (by first | rfl | (simp only [subB, MB_all_under, MI_all_under, MB_all_idp, MI_all_idp, oF_under, oF_idp, oF_all_under, oF_all_idp, MB_under, MI_under, MB_idp, MI_idp, evOk, ovOk, nvOk, keepOf, vis, LV.under, LV.unders, LV.idp, LV.idps, LO.under, LO.idp, under_pv, idp_pv, List.all_cons, List.all_nil, List.any_cons, List.any_nil, Nat.reduceBEq, beq_self_eq_true, Bool.and_true, Bool.true_and, Bool.or_true, Bool.true_or, Bool.or_false, Bool.false_or, decide_true, decide_false, Nat.reduceLT, Nat.reduceLeDiff, Nat.le_refl, Nat.reduceAdd, Bool.and_self, Bool.or_self]; done)))) ?_
  intro k hk J hJ
  have hpl := wo_len w k v
  rcases Nat.lt_or_ge k w.length with hlt | hge
  · obtain ⟨x, hx⟩ := idx_all hlt
    have h1 : ((k : Int) < (w.length : Int)) := by omega
    have hw := wrapn (n := k) (by omega)
    have hs := wo_step (v := v) hx
    by_cases e : x = v
    · have hc : (x != v) = false := by simpa using e
      rw [if_pos e, List.append_nil] at hs
      (repeat' first | refine LOps.done ?_ | (apply LOps.mv; (focus (first | exact Goes.free | exact Goes.on rfl rfl (by with_reducible rfl) true (by decide))); (focus (exact rfl)); (focus (exact rfl))) | (apply LOps.asg; (focus (first | exact Goes.free | exact Goes.on rfl rfl (by with_reducible rfl) true (by decide))); (focus (exact rfl)); (focus (exact rfl))) | (apply LOps.loc; (focus (first | exact Goes.free | exact Goes.on rfl rfl (by with_reducible rfl) true (by decide))); (focus (exact rfl)); (focus (exact rfl)); (focus (simp only [go_sem, ↓reduceIte, Nat.reduceEqDiff, Nat.reduceLT, h1, hx, hc, hw]; with_reducible rfl))) | refine LK.seq ?_ | refine LK.skip ?_ | refine LK.block ?_ | refine LK.blk ?_ | refine LK.fin ?_ | (apply LK.condT2; (focus (exact rfl)); (focus (with_reducible rfl)); (focus (first | with_reducible rfl | decide | (with_reducible exact Bool.true_or _) | (with_reducible exact congrArg (fun b => b || _) (Bool.true_or _))))) | (apply LK.condF2; (focus (exact rfl)); (focus (with_reducible rfl)); (focus (first | with_reducible rfl | decide | (with_reducible exact Bool.false_and _) | (with_reducible exact congrArg (fun b => b && _) (Bool.false_and _))))) | refine LK.regc ?_ | fail)
      apply hJ
      refine ⟨k + 1, hlt, by omega, ?_⟩
      dsimp only
      rw [hs]
      exact (Sub.by rfl rfl (by first | rfl | (simp only [subB, oF_all_under, LV.under, LO.under, List.all_cons, List.all_nil, decide_true, Nat.reduceLT, Nat.reduceAdd, Bool.and_self]; done)))
    · have hc : (x != v) = true := by simpa using e
      rw [if_neg e] at hs
      have hm : (wo (w.take k) v).length + 1 ≤ maxLen ∧ ((wo (w.take k) v).length + 1) * 8 ≤ 140737488355328 := by simp only [maxLen]; omega
      have hl2 : (wo (w.take (k + 1)) v).length = (wo (w.take k) v).length + 1 := by rw [hs]; simp
      have hs2 := hs.symm
      dsimp only
      (repeat' first | refine LOps.done ?_ | (apply LOps.mv; (focus (first | exact Goes.free | exact Goes.on rfl rfl (by with_reducible rfl) true (by decide))); (focus (exact rfl)); (focus (exact rfl))) | (apply LOps.asg; (focus (first | exact Goes.free | exact Goes.on rfl rfl (by with_reducible rfl) true (by decide))); (focus (exact rfl)); (focus (exact rfl))) | (apply LOps.loc; (focus (first | exact Goes.free | exact Goes.on rfl rfl (by with_reducible rfl) true (by decide))); (focus (exact rfl)); (focus (exact rfl)); (focus (simp only [go_sem, ↓reduceIte, Nat.reduceEqDiff, reduceCtorEq, Nat.reduceLT, Nat.reduceAdd, Nat.reduceLeDiff, h1, hx, hc, hw, hm, hs2]; with_reducible rfl))) | refine LK.seq ?_ | refine LK.skip ?_ | refine LK.block ?_ | refine LK.blk ?_ | refine LK.fin ?_ | (apply LK.condT2; (focus (exact rfl)); (focus (with_reducible rfl)); (focus (first | with_reducible rfl | decide | (with_reducible exact Bool.true_or _) | (with_reducible exact congrArg (fun b => b || _) (Bool.true_or _))))) | refine LK.regc ?_ | fail)
      apply hJ
      refine ⟨k + 1, hlt, by omega, ?_⟩
      dsimp only
      rw [hl2]
      exact (Sub.by rfl rfl (by first | rfl | (simp only [subB, oF_all_under, LV.under, LO.under, List.all_cons, List.all_nil, decide_true, Nat.reduceLT, Nat.reduceAdd, Bool.and_self]; done)))
  · have h1 : ¬ ((k : Int) < (w.length : Int)) := by omega
    obtain rfl : k = w.length := by omega
    have ht : (wo w v).take (wo w v).length = wo w v := List.take_of_length_le (Nat.le_refl _)
    dsimp only
    rw [List.take_length]
    (repeat' first | refine LOps.done ?_ | (apply LOps.mv; (focus (first | exact Goes.free | exact Goes.on rfl rfl (by with_reducible rfl) true (by decide))); (focus (exact rfl)); (focus (exact rfl))) | (apply LOps.asg; (focus (first | exact Goes.free | exact Goes.on rfl rfl (by with_reducible rfl) true (by decide))); (focus (exact rfl)); (focus (exact rfl))) | (apply LOps.loc; (focus (first | exact Goes.free | exact Goes.on rfl rfl (by with_reducible rfl) true (by decide))); (focus (exact rfl)); (focus (exact rfl)); (focus (simp only [go_sem, ↓reduceIte, Nat.reduceEqDiff, h1]; with_reducible rfl))) | refine LK.seq ?_ | refine LK.ret' ?_ | refine LK.exit' rfl ?_ | (apply LK.condF2; (focus (exact rfl)); (focus (with_reducible rfl)); (focus (first | with_reducible rfl | decide | (with_reducible exact Bool.false_and _) | (with_reducible exact congrArg (fun b => b && _) (Bool.false_and _))))) | refine LK.regc ?_ | (apply retQ; (focus (first | exact lres_one rfl | exact lres_more rfl | (simp only [lres, lresv, Try.results15, go_sem, ↓reduceIte, Nat.reduceEqDiff, reduceCtorEq, Nat.reduceLT, Nat.reduceAdd, Int.reduceBEq, Int.reduceBNe, Int.reduceEq, Int.reduceLE, Int.reduceLT, Int.reduceToNat, Nat.reduceLeDiff, Nat.reduceMul, Nat.reduceSub, h1]; exact rfl)))) | fail)
    (simp only [go_sem, ↓reduceIte, ht]; repeat' first | exact LV.le_refl _ | exact LV.le_nil _ | exact le_nilF _ _ | exact LV.le_any _ _ _ | refine LV.le_tup ?_ | refine LV.le_agg ?_ | exact LV.les_nil | refine LV.les_cons ?_ ?_)
set_option maxHeartbeats 4000000 in
set_option maxRecDepth 10000 in
theorem rcheck_fun (f : Int) (w : List Int) (hl : w.length ≤ 100000) : Fun Try.prog 22 [sv f w] (vi (chk f w)) := by
  (refine LCalls.enter Try.func22 rfl (by simp [Try.ntmps22]) (LK.start ?_); simp only [Try.ntmps22, enterA])
  (repeat' first | refine LOps.done ?_ | (apply LOps.mv; (focus (first | exact Goes.free | exact Goes.on rfl rfl (by with_reducible rfl) true (by decide))); (focus (exact rfl)); (focus (exact rfl))) | (apply LOps.loc; (focus (first | exact Goes.free | exact Goes.on rfl rfl (by with_reducible rfl) true (by decide))); (focus (exact rfl)); (focus (exact rfl)); (focus (simp only [go_sem, ↓reduceIte, Nat.reduceEqDiff, Nat.reduceLT, Nat.reduceAdd]; with_reducible rfl))) | (apply LOps.pass; (focus (first | exact Goes.on rfl rfl (by with_reducible rfl) false (by decide) | exact Goes.undef rfl rfl (by with_reducible rfl))); (focus (exact rfl))) | (apply LOps.scEnd; (focus (exact rfl)); (focus (with_reducible rfl))) | refine LK.seq ?_ | refine LK.regc ?_ | (apply LOps.and2; exact rfl; exact rfl; exact rfl; exact rfl; exact rfl; (focus (with_reducible rfl)); (focus (first | kernel_rfl | rfl))) | (apply LOps.or2; exact rfl; exact rfl; exact rfl; exact rfl; exact rfl; (focus (with_reducible rfl)); (focus (first | kernel_rfl | rfl))) | refine Under.mk (fun hg => ?_) | fail)
  cases hc : (decide (f < 0) || decide (f > 1000) || decide ((w.length : Int) > 256) || (decide (f > 0) && decide ((w.length : Int) > 0))) with
  | true =>
    have hno : ¬ okS f w := by
      rintro ⟨h1, h2, h3, h4, h5, h6⟩
      simp only [Bool.or_eq_true, Bool.and_eq_true, decide_eq_true_eq] at hc
      rcases h4 with rfl | rfl
      · omega
      · simp only [List.length_nil] at hc; omega
    rw [chk_no hno]
    (repeat' first | refine LOps.done ?_ | (apply LOps.loc; (focus (first | exact Goes.free | exact Goes.on rfl rfl (by with_reducible rfl) true (by decide))); (focus (exact rfl)); (focus (exact rfl)); (focus (simp only [go_sem]; with_reducible rfl))) | refine LK.seq ?_ | refine LK.ret' ?_ | (apply LK.condT2; (focus (exact rfl)); (focus (with_reducible rfl)); (focus (first | with_reducible rfl | decide | (with_reducible exact Bool.true_or _) | (with_reducible exact congrArg (fun b => b || _) (Bool.true_or _))))) | refine LK.regc ?_ | (apply retQ; (focus (first | exact lres_one rfl | exact lres_more rfl | (simp only [lres, lresv, Try.results22, go_sem, ↓reduceIte, Nat.reduceEqDiff, reduceCtorEq, Nat.reduceLT, Nat.reduceAdd, Int.reduceBEq, Int.reduceBNe, Int.reduceEq, Int.reduceLE, Int.reduceLT, Int.reduceToNat, Nat.reduceLeDiff, Nat.reduceMul, Nat.reduceSub]; exact rfl)))) | fail)
    all_goals rfl
  | false =>
    have hfin : (∀ x ∈ w, 0 ≤ x) → w.Nodup → okS f w := by
      intro h5 h6
      simp only [Bool.or_eq_false_iff, Bool.and_eq_false_iff, decide_eq_false_iff_not] at hc
      refine ⟨by omega, by omega, by omega, ?_, h5, h6⟩
      by_cases e : w = []
      · exact .inr e
      · left
        have : 0 < w.length := List.length_pos_iff.2 e
        omega
    (repeat' first | refine LOps.done ?_ | (apply LOps.loc; (focus (first | exact Goes.free | exact Goes.on rfl rfl (by with_reducible rfl) true (by decide))); (focus (exact rfl)); (focus (exact rfl)); (focus (simp only [go_sem, ↓reduceIte, Nat.reduceLT]; with_reducible rfl))) | refine LK.seq ?_ | refine LK.skip ?_ | refine LK.block ?_ | (apply LK.condF2; (focus (exact rfl)); (focus (with_reducible rfl)); (focus (first | with_reducible rfl | decide | (with_reducible exact Bool.false_and _) | (with_reducible exact congrArg (fun b => b && _) (Bool.false_and _))))) | refine LK.regc ?_ | fail)
    refine LK.loop (fun k : Nat => w.length - k) (fun k => k ≤ w.length ∧ (∀ x ∈ w.take k, 0 ≤ x) ∧ (w.take k).Nodup) (fun k => ⟨49, [(1, .ptr 0 1 0 0), (31, sI w), (32, vi w.length), (33, vi k)]⟩) (fun k => [(0, .arr 2 [[vi f, sI w]])]) 0 ⟨Nat.zero_le _, by simp, by simp⟩ (Sub.by rfl rfl (by first | rfl | (simp only [subB, MB_all_under, MI_all_under, MB_all_idp, MI_all_idp, oF_under, oF_idp, oF_all_under, oF_all_idp, MB_under, MI_under, MB_idp, MI_idp, evOk, ovOk, nvOk, keepOf, vis, LV.under, LV.unders, LV.idp, LV.idps, LO.under, LO.idp, under_pv, idp_pv, List.all_cons, List.all_nil, List.any_cons, List.any_nil, Nat.reduceBEq, beq_self_eq_true, Bool.and_true, Bool.true_and, Bool.or_true, Bool.true_or, Bool.or_false, Bool.false_or, decide_true, decide_false, Nat.reduceLT, Nat.reduceLeDiff, Nat.le_refl, Nat.reduceAdd, Bool.and_self, Bool.or_self]; done))) ?_
    rintro k ⟨hk, hpos, hnd⟩ J hJ
    rcases Nat.lt_or_ge k w.length with hlt | hge
    · obtain ⟨x, hx⟩ := idx_all hlt
      have h1 : ((k : Int) < (w.length : Int)) := by omega
      have hw := wrapn (n := k) (by omega)
      have hle : k ≤ w.length := hk
      have hh := rhas_fun (w.take k) x (by rw [List.length_take]; omega)
      (repeat' first | refine LOps.done ?_ | (apply LOps.mv; (focus (first | exact Goes.free | exact Goes.on rfl rfl (by with_reducible rfl) true (by decide))); (focus (exact rfl)); (focus (exact rfl))) | (apply LOps.asg; (focus (first | exact Goes.free | exact Goes.on rfl rfl (by with_reducible rfl) true (by decide))); (focus (exact rfl)); (focus (exact rfl))) | (apply LOps.loc; (focus (first | exact Goes.free | exact Goes.on rfl rfl (by with_reducible rfl) true (by decide))); (focus (exact rfl)); (focus (exact rfl)); (focus (simp only [go_sem, ↓reduceIte, Nat.reduceEqDiff, reduceCtorEq, Nat.reduceLT, h1, hx, hle, Nat.sub_zero]; with_reducible rfl))) | (apply LOps.pass; (focus (first | exact Goes.on rfl rfl (by with_reducible rfl) false (by decide) | exact Goes.undef rfl rfl (by with_reducible rfl))); (focus (exact rfl))) | (apply LOps.scEnd; (focus (exact rfl)); (focus (with_reducible rfl))) | refine LK.seq ?_ | refine LK.skip ?_ | refine LK.block ?_ | (apply LK.condT2; (focus (exact rfl)); (focus (with_reducible rfl)); (focus (first | with_reducible rfl | decide | (with_reducible exact Bool.true_or _) | (with_reducible exact congrArg (fun b => b || _) (Bool.true_or _))))) | refine LK.regc ?_ | (apply LOps.locFn; (focus (first | exact Goes.free | exact Goes.on rfl rfl (by with_reducible rfl) true (by decide))); (focus (exact rfl)); (focus (exact rfl)); (focus (simp only [go_sem, ↓reduceIte, Nat.reduceEqDiff]; exact rfl)); (focus (simp only [go_sem])); (focus (exact hh)); (focus (first | rfl | simp [go_sem])); (focus (first | rfl | simp [go_sem]))) | (apply LOps.or2; exact rfl; exact rfl; exact rfl; exact rfl; exact rfl; (focus (with_reducible rfl)); (focus (first | kernel_rfl | rfl))) | refine Under.mk (fun hg => ?_) | fail)
      cases hb : (decide (x < 0) || decide (x ∈ w.take k)) with
      | true =>
        have hno : ¬ okS f w := by
          rintro ⟨_, _, _, _, h5, h6⟩
          have hx0 := h5 x (List.mem_of_getElem? hx)
          simp only [Bool.or_eq_true, decide_eq_true_eq] at hb
          rcases hb with hb | hb
          · omega
          · exact not_nodup hx hb h6
        rw [chk_no hno]
        (repeat' first | refine LOps.done ?_ | (apply LOps.loc; (focus (first | exact Goes.free | exact Goes.on rfl rfl (by with_reducible rfl) true (by decide))); (focus (exact rfl)); (focus (exact rfl)); (focus (simp only [go_sem]; with_reducible rfl))) | refine LK.seq ?_ | refine LK.ret' ?_ | (apply LK.condT2; (focus (exact rfl)); (focus (with_reducible rfl)); (focus (first | with_reducible rfl | decide | (with_reducible exact Bool.true_or _) | (with_reducible exact congrArg (fun b => b || _) (Bool.true_or _))))) | refine LK.regc ?_ | (apply retQ; (focus (first | exact lres_one rfl | exact lres_more rfl | (simp only [lres, lresv, Try.results22, go_sem, ↓reduceIte, Nat.reduceEqDiff, reduceCtorEq, Nat.reduceLT, Nat.reduceAdd, Int.reduceBEq, Int.reduceBNe, Int.reduceEq, Int.reduceLE, Int.reduceLT, Int.reduceToNat, Nat.reduceLeDiff, Nat.reduceMul, Nat.reduceSub]; exact rfl)))) | fail)
        all_goals rfl
      | false =>
        simp only [Bool.or_eq_false_iff, decide_eq_false_iff_not] at hb
        obtain ⟨hb1, hb3⟩ := hb
        (repeat' first | refine LOps.done ?_ | (apply LOps.mv; (focus (first | exact Goes.free | exact Goes.on rfl rfl (by with_reducible rfl) true (by decide))); (focus (exact rfl)); (focus (exact rfl))) | (apply LOps.loc; (focus (first | exact Goes.free | exact Goes.on rfl rfl (by with_reducible rfl) true (by decide))); (focus (exact rfl)); (focus (exact rfl)); (focus (simp only [go_sem, ↓reduceIte, hw]; with_reducible rfl))) | refine LK.skip ?_ | refine LK.blk ?_ | refine LK.fin ?_ | (apply LK.condF2; (focus (exact rfl)); (focus (with_reducible rfl)); (focus (first | with_reducible rfl | decide | (with_reducible exact Bool.false_and _) | (with_reducible exact congrArg (fun b => b && _) (Bool.false_and _))))) | refine LK.regc ?_ | fail)
        apply hJ
        refine ⟨k + 1, ⟨hlt, ?_, okS_step hx hnd hb3⟩, by omega, (Sub.by rfl rfl (by first | rfl | (simp only [subB, MB_all_under, MI_all_under, MB_all_idp, MI_all_idp, oF_under, oF_idp, oF_all_under, oF_all_idp, MB_under, MI_under, MB_idp, MI_idp, evOk, ovOk, nvOk, keepOf, vis, LV.under, LV.unders, LV.idp, LV.idps, LO.under, LO.idp, under_pv, idp_pv, List.all_cons, List.all_nil, List.any_cons, List.any_nil, Nat.reduceBEq, beq_self_eq_true, Bool.and_true, Bool.true_and, Bool.or_true, Bool.true_or, Bool.or_false, Bool.false_or, decide_true, decide_false, Nat.reduceLT, Nat.reduceLeDiff, Nat.le_refl, Nat.reduceAdd, Bool.and_self, Bool.or_self]; done)))⟩
        intro y hy
        rw [List.take_add_one, hx, Option.toList_some, List.mem_append, List.mem_singleton] at hy
        rcases hy with hy | rfl
        · exact hpos y hy
        · omega
    · have h1 : ¬ ((k : Int) < (w.length : Int)) := by omega
      rw [List.take_of_length_le hge] at hpos hnd
      rw [chk_ok (hfin hpos hnd)]
      (repeat' first | refine LOps.done ?_ | (apply LOps.loc; (focus (first | exact Goes.free | exact Goes.on rfl rfl (by with_reducible rfl) true (by decide))); (focus (exact rfl)); (focus (exact rfl)); (focus (simp only [go_sem, ↓reduceIte, Nat.reduceEqDiff, h1]; with_reducible rfl))) | refine LK.seq ?_ | refine LK.ret' ?_ | refine LK.exit' rfl ?_ | (apply LK.condF2; (focus (exact rfl)); (focus (with_reducible rfl)); (focus (first | with_reducible rfl | decide | (with_reducible exact Bool.false_and _) | (with_reducible exact congrArg (fun b => b && _) (Bool.false_and _))))) | refine LK.regc ?_ | (apply retQ; (focus (first | exact lres_one rfl | exact lres_more rfl | (simp only [lres, lresv, Try.results22, go_sem, ↓reduceIte, Nat.reduceEqDiff, reduceCtorEq, Nat.reduceLT, Nat.reduceAdd, Int.reduceBEq, Int.reduceBNe, Int.reduceEq, Int.reduceLE, Int.reduceLT, Int.reduceToNat, Nat.reduceLeDiff, Nat.reduceMul, Nat.reduceSub, h1]; exact rfl)))) | fail)
      all_goals rfl
end Go.Proofs.Ytlnjodigkfpimaa
