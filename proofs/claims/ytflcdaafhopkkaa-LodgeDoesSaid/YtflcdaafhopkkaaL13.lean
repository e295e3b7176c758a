/- The walks of chapter 14: the document's functions; what admitting hands back of its own. -/
import Derived.Test.YtflcdaafhopkkaaL7
import Derived.Test.YtflcdaafhopkkaaL12
set_option linter.unusedSimpArgs false
set_option linter.unusedVariables false
namespace Go.Proofs.Ytflcdaafhopkkaa
open Go.Lw
attribute [local irreducible] LK LOps LW
set_option maxHeartbeats 4000000 in
set_option maxRecDepth 10000 in
theorem rsame_fun (p q : List Ten) (hp : p.length ≤ 100000) : Fun Try.prog 18 [sT p, sT q] (vb (decide (p = q))) := by
  (refine LCalls.enter Try.func18 rfl (by simp [Try.ntmps18]) (LK.start ?_); simp only [Try.ntmps18, enterA, Nat.zero_add])
  (repeat' first | refine LOps.done ?_ | (apply LOps.mv; (focus (first | exact Goes.free | exact Goes.on rfl rfl (by with_reducible rfl) true (by decide))); (focus (exact rfl)); (focus (exact rfl))) | (apply LOps.loc; (focus (first | exact Goes.free | exact Goes.on rfl rfl (by with_reducible rfl) true (by decide))); (focus (exact rfl)); (focus (exact rfl)); (focus (simp only [go_sem, ↓reduceIte, Nat.reduceEqDiff]; with_reducible rfl))) | refine LK.seq ?_ | refine LK.regc ?_ | fail)
  by_cases hlen : p.length = q.length
  · have hc : ((p.length : Int) != (q.length : Int)) = false := by rw [hlen]; simp
    refine LK.condF2 rfl (by first | with_reducible rfl | rfl) (hc) ?_
    (repeat' first | refine LOps.done ?_ | (apply LOps.mv; (focus (first | exact Goes.free | exact Goes.on rfl rfl (by with_reducible rfl) true (by decide))); (focus (exact rfl)); (focus (exact rfl))) | (apply LOps.loc; (focus (first | exact Goes.free | exact Goes.on rfl rfl (by with_reducible rfl) true (by decide))); (focus (exact rfl)); (focus (exact rfl)); (focus (simp only [go_sem, ↓reduceIte]; with_reducible rfl))) | refine LK.seq ?_ | refine LK.skip ?_ | refine LK.block ?_ | refine LK.regc ?_ | fail)
    refine LK.loop (fun k : Nat => p.length - k) (fun k => k ≤ p.length ∧ p.take k = q.take k) (fun k => ⟨26, [(0, sT p), (1, sT q), (12, vi p.length), (13, vi k)]⟩) (fun _ => []) 0 ⟨Nat.zero_le _, rfl⟩ (Sub.by rfl rfl rfl) ?_
    rintro k ⟨hk, hsame⟩ J hJ
    rcases Nat.lt_or_ge k p.length with hlt | hge
    · obtain ⟨x, hx⟩ := idx_all hlt
      obtain ⟨y, hy⟩ := idx_all (show k < q.length by omega)
      have h1 : ((k : Int) < (p.length : Int)) := by omega
      have h2 : ((k : Int) < (q.length : Int)) := by omega
      have hw := wrapn (n := k) (by omega)
      (repeat' first | refine LOps.done ?_ | (apply LOps.mv; (focus (first | exact Goes.free | exact Goes.on rfl rfl (by with_reducible rfl) true (by decide))); (focus (exact rfl)); (focus (exact rfl))) | (apply LOps.asg; (focus (first | exact Goes.free | exact Goes.on rfl rfl (by with_reducible rfl) true (by decide))); (focus (exact rfl)); (focus (exact rfl))) | (apply LOps.loc; (focus (first | exact Goes.free | exact Goes.on rfl rfl (by with_reducible rfl) true (by decide))); (focus (exact rfl)); (focus (exact rfl)); (focus (simp only [go_sem, ↓reduceIte, Nat.reduceEqDiff, h1]; with_reducible rfl))) | refine LK.seq ?_ | refine LK.skip ?_ | refine LK.block ?_ | (apply LK.condT2; (focus (exact rfl)); (focus (with_reducible rfl)); (focus (first | with_reducible rfl | decide | exact Bool.true_or _ | exact congrArg (fun b => b || _) (Bool.true_or _)))) | refine LK.regc ?_ | (apply LK.drawn3; (focus (exact Ty.mixed)); (focus ((repeat' first | exact DRun.nil _ _ _ | (apply DRun.aopS; (focus (exact rfl)); (focus (first | exact rfl | (simp only [oF_idss, oF_ids, idss_MB, idss_MI, objsOf, idsOf, LV.ids, LV.idss, LO.ids, idss_pv, lookB_eq, List.any_nil, List.any_cons, cond_true, cond_false, List.flatten_cons, List.flatten_nil, Nat.reduceBEq, Bool.or_false, Bool.false_or, Bool.or_true, go_sem, ↓reduceIte, Nat.reduceEqDiff, reduceCtorEq, Nat.reduceLT, Nat.reduceAdd, Int.reduceBEq, Int.reduceBNe, Int.reduceEq, Int.reduceLE, Int.reduceLT, Int.reduceToNat, Nat.reduceLeDiff, Nat.reduceMul, Nat.reduceSub, h1, h2, hx, hy, hw]; exact rfl))); (focus (first | exact Goes.free | exact Goes.on rfl rfl (by with_reducible rfl) true (by decide))); (focus (simp only [go_sem, ↓reduceIte, Nat.reduceEqDiff, Nat.reduceLT, Nat.reduceAdd, h1, h2, hx, hy]; exact rfl)); (focus (exact rfl)); (focus (first | decide +kernel | (simp only [evOk, ovOk, nvOk, keepOf, vis, LV.under, LV.unders, LV.idp, LV.idps, LO.under, LO.idp, List.all_cons, List.all_nil, List.any_nil, Bool.and_true, Bool.false_or, Bool.and_self]; done) | (simp [evOk, ovOk, nvOk, keepOf, vis, LV.under, LV.unders, LV.idp, LV.idps, LO.under, LO.idp]; done)))) | fail); done)); (focus kernel_rfl); (focus (first | exact puOk_none rfl | (simp [puOk, evShape, nvShape, look, oF_len, go_sem, ↓reduceIte, Nat.reduceEqDiff, reduceCtorEq, Nat.reduceLT, Nat.reduceAdd, Int.reduceBEq, Int.reduceBNe, Int.reduceEq, Int.reduceLE, Int.reduceLT, Int.reduceToNat, Nat.reduceLeDiff, Nat.reduceMul, Nat.reduceSub, h1, h2, hx, hy, hw]; done))); (focus (first | (simp only [go_sem, ↓reduceIte, Nat.reduceEqDiff, reduceCtorEq, Nat.reduceLT, Nat.reduceAdd, Int.reduceBEq, Int.reduceBNe, Int.reduceEq, Int.reduceLE, Int.reduceLT, Int.reduceToNat, Nat.reduceLeDiff, Nat.reduceMul, Nat.reduceSub, h1, h2, hx, hy, hw]; exact rfl) | exact rfl)); (focus (first | (simp only [go_sem, ↓reduceIte, Nat.reduceEqDiff, reduceCtorEq, Nat.reduceLT, Nat.reduceAdd, Int.reduceBEq, Int.reduceBNe, Int.reduceEq, Int.reduceLE, Int.reduceLT, Int.reduceToNat, Nat.reduceLeDiff, Nat.reduceMul, Nat.reduceSub, h1, h2, hx, hy, hw]; exact rfl) | exact rfl)); (focus (first | (simp only [go_sem, ↓reduceIte, Nat.reduceEqDiff, reduceCtorEq, Nat.reduceLT, Nat.reduceAdd, Int.reduceBEq, Int.reduceBNe, Int.reduceEq, Int.reduceLE, Int.reduceLT, Int.reduceToNat, Nat.reduceLeDiff, Nat.reduceMul, Nat.reduceSub, h1, h2, hx, hy, hw]; exact rfl) | exact rfl))) | fail)
      by_cases e : x = y
      · have hc : (!(eqT x y)) = false := by rw [(eqT_iff x y).2 e]; rfl
        refine LK.condF2 rfl (by first | with_reducible rfl | rfl) (hc) ?_
        (repeat' first | refine LOps.done ?_ | (apply LOps.mv; (focus (first | exact Goes.free | exact Goes.on rfl rfl (by with_reducible rfl) true (by decide))); (focus (exact rfl)); (focus (exact rfl))) | (apply LOps.loc; (focus (first | exact Goes.free | exact Goes.on rfl rfl (by with_reducible rfl) true (by decide))); (focus (exact rfl)); (focus (exact rfl)); (focus (simp only [go_sem, ↓reduceIte, hw]; with_reducible rfl))) | refine LK.skip ?_ | refine LK.blk ?_ | refine LK.fin ?_ | refine LK.regc ?_ | fail)
        apply hJ
        exact ⟨k + 1, ⟨hlt, by rw [List.take_add_one, List.take_add_one, hsame, hx, hy, e]⟩, by omega, Sub.by rfl rfl rfl⟩
      · have hc : (!(eqT x y)) = true := by
          cases h : eqT x y with
          | false => rfl
          | true => exact absurd ((eqT_iff x y).1 h) e
        refine LK.condT2 rfl (by first | with_reducible rfl | rfl) (hc) ?_
        (repeat' first | refine LOps.done ?_ | (apply LOps.loc; (focus (first | exact Goes.free | exact Goes.on rfl rfl (by with_reducible rfl) true (by decide))); (focus (exact rfl)); (focus (exact rfl)); (focus (simp only [go_sem]; with_reducible rfl))) | refine LK.seq ?_ | refine LK.ret' ?_ | refine LK.regc ?_ | (apply retQ; (focus (first | exact lres_one rfl | exact lres_more rfl | (simp only [lres, lresv, Try.results18, go_sem, ↓reduceIte, Nat.reduceEqDiff, reduceCtorEq, Nat.reduceLT, Nat.reduceAdd, Int.reduceBEq, Int.reduceBNe, Int.reduceEq, Int.reduceLE, Int.reduceLT, Int.reduceToNat, Nat.reduceLeDiff, Nat.reduceMul, Nat.reduceSub, h1, h2, hx, hy, hw]; exact rfl)))) | fail)
        have : decide (p = q) = false := by
          rw [decide_eq_false_iff_not]
          rintro rfl
          rw [hx] at hy; exact e (Option.some.inj hy)
        rw [this]
    · have h1 : ¬ ((k : Int) < (p.length : Int)) := by omega
      (repeat' first | refine LOps.done ?_ | (apply LOps.loc; (focus (first | exact Goes.free | exact Goes.on rfl rfl (by with_reducible rfl) true (by decide))); (focus (exact rfl)); (focus (exact rfl)); (focus (simp only [go_sem, ↓reduceIte, Nat.reduceEqDiff, h1]; with_reducible rfl))) | refine LK.seq ?_ | refine LK.ret' ?_ | refine LK.exit' rfl ?_ | (apply LK.condF2; (focus (exact rfl)); (focus (with_reducible rfl)); (focus (first | with_reducible rfl | decide | exact Bool.false_and _ | exact congrArg (fun b => b && _) (Bool.false_and _)))) | refine LK.regc ?_ | (apply retQ; (focus (first | exact lres_one rfl | exact lres_more rfl | (simp only [lres, lresv, Try.results18, go_sem, ↓reduceIte, Nat.reduceEqDiff, reduceCtorEq, Nat.reduceLT, Nat.reduceAdd, Int.reduceBEq, Int.reduceBNe, Int.reduceEq, Int.reduceLE, Int.reduceLT, Int.reduceToNat, Nat.reduceLeDiff, Nat.reduceMul, Nat.reduceSub, h1]; exact rfl)))) | fail)
      have : p = q := by
        rw [List.take_of_length_le hge, List.take_of_length_le (by omega)] at hsame
        exact hsame
      subst this
      simp
  · have hc : ((p.length : Int) != (q.length : Int)) = true := by rw [bne_iff_ne]; omega
    refine LK.condT2 rfl (by first | with_reducible rfl | rfl) (hc) ?_
    (repeat' first | refine LOps.done ?_ | (apply LOps.loc; (focus (first | exact Goes.free | exact Goes.on rfl rfl (by with_reducible rfl) true (by decide))); (focus (exact rfl)); (focus (exact rfl)); (focus (simp only [go_sem]; with_reducible rfl))) | refine LK.seq ?_ | refine LK.ret' ?_ | refine LK.regc ?_ | (apply retQ; (focus (first | exact lres_one rfl | exact lres_more rfl | (simp only [lres, lresv, Try.results18, go_sem, ↓reduceIte, Nat.reduceEqDiff, reduceCtorEq, Nat.reduceLT, Nat.reduceAdd, Int.reduceBEq, Int.reduceBNe, Int.reduceEq, Int.reduceLE, Int.reduceLT, Int.reduceToNat, Nat.reduceLeDiff, Nat.reduceMul, Nat.reduceSub]; exact rfl)))) | fail)
    have : decide (p = q) = false := by rw [decide_eq_false_iff_not]; rintro rfl; exact hlen rfl
    rw [this]
@[go_sem] theorem oT_push (l : List Ten) (a b c d e : Int) : oF cT l ++ [[vi a, vi b, vi c, vi d, vi e]] = oF cT (l ++ [⟨a, b, c, d, e⟩]) := oF_append cT l [⟨a, b, c, d, e⟩]
def mkL (w q : List Int) : Nat → List Ten
  | 0 => []
  | k + 1 => mkL w q k ++ [mkT ((w[k]?).getD 0) ((q[k]?).getD 0)]
theorem mkL_len (w q : List Int) : ∀ k, (mkL w q k).length = k
  | 0 => rfl
  | k + 1 => by rw [mkL, List.length_append, mkL_len w q k]; rfl
theorem newTo_mkL (w q : List Int) : ∀ k, k ≤ w.length → newTo w q k = mkL w q k ++ List.replicate (w.length - k) ⟨0, 0, 0, 0, 0⟩
  | 0, _ => by simp [newTo, mkL]
  | k + 1, h => by
    have ih := newTo_mkL w q k (by omega)
    have e : w.length - k = (w.length - (k + 1)) + 1 := by omega
    rw [newTo, ih, List.set_append_right _ _ (by rw [mkL_len]; exact Nat.le_refl _), mkL_len, Nat.sub_self, e, List.replicate_succ, List.set_cons_zero, mkL, List.append_assoc]
    rfl
theorem newT_mkL (w q : List Int) : newT w q = mkL w q w.length := by rw [newT, newTo_mkL w q w.length (Nat.le_refl _)]; simp
theorem chk_many {l : List Ten} (h : 16 < l.length) : chk l = 1 := by
  have hb : badT l = true := by
    have : decide ((l.length : Int) > 16) = true := by rw [decide_eq_true_eq]; omega
    simp [badT, this]
  rw [chk, hb]; rfl
set_option maxHeartbeats 4000000 in
set_option maxRecDepth 10000 in
theorem rnew_no (w q : List Int) (h : w.length ≠ q.length) : Fun Try.prog 13 [sI w, sI q] (.tup [sT [], vi 1]) := by
  have hc : ((w.length : Int) != (q.length : Int)) = true := by rw [bne_iff_ne]; omega
  refine Fun.frozenLe ?_
  (refine LCalls.enter Try.func13 rfl (by simp [Try.ntmps13]) (LK.start ?_); simp only [Try.ntmps13, enterA, Nat.zero_add])
  (repeat' first | refine LOps.done ?_ | (apply LOps.mv; (focus (first | exact Goes.free | exact Goes.on rfl rfl (by with_reducible rfl) true (by decide))); (focus (exact rfl)); (focus (exact rfl))) | (apply LOps.loc; (focus (first | exact Goes.free | exact Goes.on rfl rfl (by with_reducible rfl) true (by decide))); (focus (exact rfl)); (focus (exact rfl)); (focus (simp only [go_sem, ↓reduceIte, Nat.reduceEqDiff, hc]; with_reducible rfl))) | refine LK.seq ?_ | refine LK.ret' ?_ | (apply LK.condT2; (focus (exact rfl)); (focus (with_reducible rfl)); (focus (first | with_reducible rfl | decide | exact Bool.true_or _ | exact congrArg (fun b => b || _) (Bool.true_or _)))) | refine LK.regc ?_ | (apply retQ; (focus (first | exact lres_one rfl | exact lres_more rfl | (simp only [lres, lresv, Try.results13, go_sem, ↓reduceIte, Nat.reduceEqDiff, reduceCtorEq, Nat.reduceLT, Nat.reduceAdd, Int.reduceBEq, Int.reduceBNe, Int.reduceEq, Int.reduceLE, Int.reduceLT, Int.reduceToNat, Nat.reduceLeDiff, Nat.reduceMul, Nat.reduceSub, hc]; exact rfl)))) | fail)
  (simp only [go_sem]; repeat' first | exact LV.le_refl _ | exact LV.le_nil _ | exact le_nilF _ _ | exact LV.le_any _ _ _ | refine LV.le_tup ?_ | refine LV.le_agg ?_ | exact LV.les_nil | refine LV.les_cons ?_ ?_)
set_option maxHeartbeats 4000000 in
set_option maxRecDepth 10000 in
theorem rnew_ok (w q : List Int) (h : w.length = q.length) (hl : w.length ≤ 1000) : Fun Try.prog 13 [sI w, sI q] (.tup [sT (if chk (mkL w q w.length) = 0 then mkL w q w.length else []), vi (chk (mkL w q w.length))]) := by
  have hc : ((w.length : Int) != (q.length : Int)) = false := by rw [h]; simp
  have hck := rcheck_fun (mkL w q w.length) (by rw [mkL_len]; omega)
  refine Fun.frozenLe ?_
  (refine LCalls.enter Try.func13 rfl (by simp [Try.ntmps13]) (LK.start ?_); simp only [Try.ntmps13, enterA, Nat.zero_add])
  (repeat' first | refine LOps.done ?_ | (apply LOps.mv; (focus (first | exact Goes.free | exact Goes.on rfl rfl (by with_reducible rfl) true (by decide))); (focus (exact rfl)); (focus (exact rfl))) | (apply LOps.loc; (focus (first | exact Goes.free | exact Goes.on rfl rfl (by with_reducible rfl) true (by decide))); (focus (exact rfl)); (focus (exact rfl)); (focus (simp only [go_sem, ↓reduceIte, Nat.reduceEqDiff, hc]; with_reducible rfl))) | refine LK.seq ?_ | refine LK.skip ?_ | refine LK.block ?_ | (apply LK.condF2; (focus (exact rfl)); (focus (with_reducible rfl)); (focus (first | with_reducible rfl | decide | exact Bool.false_and _ | exact congrArg (fun b => b && _) (Bool.false_and _)))) | refine LK.regc ?_ | fail)
  refine LK.own0 6 5 (by simp only [upd, go_sem]; rfl) rfl ?_
  refine LK.loop (fun k : Nat => w.length - k) (fun k => k ≤ w.length) (fun k => ⟨35, [(1, sI q), (6, .own 0 k 0 k), (14, sI w), (15, vi w.length), (16, vi k)]⟩) (fun k => [(0, .arr 5 (oF cT (mkL w q k)))]) 0 (Nat.zero_le _) (by dsimp only [mkL]; exact (Sub.by rfl rfl (by first | rfl | (simp only [subB, MB_all_under, MI_all_under, MB_all_idp, MI_all_idp, oF_under, oF_idp, oF_all_under, oF_all_idp, MB_under, MI_under, MB_idp, MI_idp, evOk, ovOk, nvOk, keepOf, vis, LV.under, LV.unders, LV.idp, LV.idps, LO.under, LO.idp, under_pv, idp_pv, List.all_cons, List.all_nil, List.any_cons, List.any_nil, Nat.reduceBEq, beq_self_eq_true, Bool.and_true, Bool.true_and, Bool.or_true, Bool.true_or, Bool.or_false, Bool.false_or, decide_true, decide_false, Nat.reduceLT, Nat.reduceLeDiff, Nat.le_refl, Nat.reduceAdd, Bool.and_self, Bool.or_self]; done)))) ?_
  intro k hk J hJ
  have hml := mkL_len w q k
  rcases Nat.lt_or_ge k w.length with hlt | hge
  · obtain ⟨x, hx⟩ := idx_all hlt
    obtain ⟨y, hy⟩ := idx_all (show k < q.length by omega)
    have h1 : ((k : Int) < (w.length : Int)) := by omega
    have h2 : ((k : Int) < (q.length : Int)) := by omega
    have hw := wrapn (n := k) (by omega)
    have hm : k + 1 ≤ maxLen ∧ (k + 1) * 40 ≤ 140737488355328 := by simp only [maxLen]; omega
    have hs : mkL w q k ++ [{ w := x, q := y, v := 0, tag := 0, ran := 0 }] = mkL w q (k + 1) := by rw [mkL, hx, hy]; rfl
    (repeat' first | refine LOps.done ?_ | (apply LOps.mv; (focus (first | exact Goes.free | exact Goes.on rfl rfl (by with_reducible rfl) true (by decide))); (focus (exact rfl)); (focus (exact rfl))) | (apply LOps.asg; (focus (first | exact Goes.free | exact Goes.on rfl rfl (by with_reducible rfl) true (by decide))); (focus (exact rfl)); (focus (exact rfl))) | (apply LOps.loc; (focus (first | exact Goes.free | exact Goes.on rfl rfl (by with_reducible rfl) true (by decide))); (focus (exact rfl)); (focus (exact rfl)); (focus (simp only [go_sem, ↓reduceIte, Nat.reduceEqDiff, reduceCtorEq, Nat.reduceLT, Nat.reduceAdd, Nat.reduceLeDiff, h1, h2, hx, hy, hw, hm, hs, hml]; with_reducible rfl))) | refine LK.seq ?_ | refine LK.skip ?_ | refine LK.block ?_ | refine LK.blk ?_ | refine LK.fin ?_ | (apply LK.condT2; (focus (exact rfl)); (focus (with_reducible rfl)); (focus (first | with_reducible rfl | decide | exact Bool.true_or _ | exact congrArg (fun b => b || _) (Bool.true_or _)))) | refine LK.regc ?_ | fail)
    apply hJ
    exact ⟨k + 1, hlt, by omega, (Sub.by rfl rfl (by first | rfl | (simp only [subB, oF_all_under, LV.under, LO.under, List.all_cons, List.all_nil, decide_true, Nat.reduceLT, Nat.reduceAdd, Bool.and_self]; done)))⟩
  · obtain rfl : k = w.length := by omega
    have h1 : ¬ ((w.length : Int) < (w.length : Int)) := by omega
    have ht : (mkL w q w.length).take w.length = mkL w q w.length := List.take_of_length_le (by omega)
    by_cases hcc : chk (mkL w q w.length) = 0
    · rw [hcc, if_pos rfl]
      rw [hcc] at hck
      (repeat' first | refine LOps.done ?_ | (apply LOps.mv; (focus (first | exact Goes.free | exact Goes.on rfl rfl (by with_reducible rfl) true (by decide))); (focus (exact rfl)); (focus (exact rfl))) | (apply LOps.asg; (focus (first | exact Goes.free | exact Goes.on rfl rfl (by with_reducible rfl) true (by decide))); (focus (exact rfl)); (focus (exact rfl))) | (apply LOps.loc; (focus (first | exact Goes.free | exact Goes.on rfl rfl (by with_reducible rfl) true (by decide))); (focus (exact rfl)); (focus (exact rfl)); (focus (simp only [go_sem, ↓reduceIte, Nat.reduceEqDiff, reduceCtorEq, Int.reduceBNe, h1]; with_reducible rfl))) | refine LK.seq ?_ | refine LK.skip ?_ | refine LK.ret' ?_ | refine LK.exit' rfl ?_ | (apply LK.condF2; (focus (exact rfl)); (focus (with_reducible rfl)); (focus (first | with_reducible rfl | decide | exact Bool.false_and _ | exact congrArg (fun b => b && _) (Bool.false_and _)))) | refine LK.regc ?_ | (apply retQ; (focus (first | exact lres_one rfl | exact lres_more rfl | (simp only [lres, lresv, Try.results13, go_sem, ↓reduceIte, Nat.reduceEqDiff, reduceCtorEq, Nat.reduceLT, Nat.reduceAdd, Int.reduceBEq, Int.reduceBNe, Int.reduceEq, Int.reduceLE, Int.reduceLT, Int.reduceToNat, Nat.reduceLeDiff, Nat.reduceMul, Nat.reduceSub, h1, hml, ht]; exact rfl)))) | (apply LOps.borrowFn; (focus (first | exact Goes.free | exact Goes.on rfl rfl (by with_reducible rfl) true (by decide))); (focus (exact rfl)); (focus (exact rfl)); (focus (simp only [go_sem, ↓reduceIte]; exact rfl)); (focus (simp only [go_sem])); (focus (simp only [go_sem, ↓reduceIte, hml, ht]; exact rfl)); (focus (exact hck)); (focus (first | rfl | simp [go_sem])); (focus (exact rfl))) | fail)
      (simp only [go_sem, ↓reduceIte, hml, ht]; repeat' first | exact LV.le_refl _ | exact LV.le_nil _ | exact le_nilF _ _ | exact LV.le_any _ _ _ | refine LV.le_tup ?_ | refine LV.le_agg ?_ | exact LV.les_nil | refine LV.les_cons ?_ ?_)
    · rw [chk_one hcc, if_neg (by omega)]
      rw [chk_one hcc] at hck
      (repeat' first | refine LOps.done ?_ | (apply LOps.mv; (focus (first | exact Goes.free | exact Goes.on rfl rfl (by with_reducible rfl) true (by decide))); (focus (exact rfl)); (focus (exact rfl))) | (apply LOps.loc; (focus (first | exact Goes.free | exact Goes.on rfl rfl (by with_reducible rfl) true (by decide))); (focus (exact rfl)); (focus (exact rfl)); (focus (simp only [go_sem, ↓reduceIte, Nat.reduceEqDiff, reduceCtorEq, Int.reduceBNe, h1]; with_reducible rfl))) | refine LK.seq ?_ | refine LK.ret' ?_ | refine LK.exit' rfl ?_ | (apply LK.condT2; (focus (exact rfl)); (focus (with_reducible rfl)); (focus (first | with_reducible rfl | decide | exact Bool.true_or _ | exact congrArg (fun b => b || _) (Bool.true_or _)))) | (apply LK.condF2; (focus (exact rfl)); (focus (with_reducible rfl)); (focus (first | with_reducible rfl | decide | exact Bool.false_and _ | exact congrArg (fun b => b && _) (Bool.false_and _)))) | refine LK.regc ?_ | (apply retQ; (focus (first | exact lres_one rfl | exact lres_more rfl | (simp only [lres, lresv, Try.results13, go_sem, ↓reduceIte, Nat.reduceEqDiff, reduceCtorEq, Nat.reduceLT, Nat.reduceAdd, Int.reduceBEq, Int.reduceBNe, Int.reduceEq, Int.reduceLE, Int.reduceLT, Int.reduceToNat, Nat.reduceLeDiff, Nat.reduceMul, Nat.reduceSub, h1, hml, ht]; exact rfl)))) | (apply LOps.borrowFn; (focus (first | exact Goes.free | exact Goes.on rfl rfl (by with_reducible rfl) true (by decide))); (focus (exact rfl)); (focus (exact rfl)); (focus (simp only [go_sem, ↓reduceIte]; exact rfl)); (focus (simp only [go_sem])); (focus (simp only [go_sem, ↓reduceIte, hml, ht]; exact rfl)); (focus (exact hck)); (focus (first | rfl | simp [go_sem])); (focus (exact rfl))) | fail)
      (simp only [go_sem]; repeat' first | exact LV.le_refl _ | exact LV.le_nil _ | exact le_nilF _ _ | exact LV.le_any _ _ _ | refine LV.le_tup ?_ | refine LV.le_agg ?_ | exact LV.les_nil | refine LV.les_cons ?_ ?_)
theorem rnew_fun (w q : List Int) (hl : w.length ≤ 1000) : Fun Try.prog 13 [sI w, sI q] (.tup [sT (nwL w q), vi (nwE w q)]) := by
  by_cases h : w.length = q.length
  · have := rnew_ok w q h hl
    by_cases h16 : 16 < w.length
    · have e1 : nwE w q = 1 := by rw [nwE, if_pos (.inr h16)]
      have e2 : chk (mkL w q w.length) = 1 := chk_many (by rw [mkL_len]; exact h16)
      rw [nwL, e1, if_neg (by omega)]
      rw [e2, if_neg (by omega)] at this
      exact this
    · have e1 : nwE w q = chk (mkL w q w.length) := by rw [nwE, if_neg (by omega), newT_mkL]
      rw [nwL, e1, newT_mkL]
      exact this
  · have e1 : nwE w q = 1 := by rw [nwE, if_pos (.inl h)]
    rw [nwL, e1, if_neg (by omega)]
    exact rnew_no w q h
set_option maxHeartbeats 4000000 in
set_option maxRecDepth 10000 in
theorem radmit_a (l : List Ten) (i e : Int) (he : (e != 0) = true) (hf : Fun Try.prog 26 [sT l, vi i] (vi e)) : Fun Try.prog 14 [sT l, vi i] (.tup [sT [], vi e]) := by
  refine Fun.frozenLe ?_
  (refine LCalls.enter Try.func14 rfl (by simp [Try.ntmps14]) (LK.start ?_); simp only [Try.ntmps14, enterA, Nat.zero_add])
  (repeat' first | refine LOps.done ?_ | (apply LOps.mv; (focus (first | exact Goes.free | exact Goes.on rfl rfl (by with_reducible rfl) true (by decide))); (focus (exact rfl)); (focus (exact rfl))) | (apply LOps.asg; (focus (first | exact Goes.free | exact Goes.on rfl rfl (by with_reducible rfl) true (by decide))); (focus (exact rfl)); (focus (exact rfl))) | (apply LOps.loc; (focus (first | exact Goes.free | exact Goes.on rfl rfl (by with_reducible rfl) true (by decide))); (focus (exact rfl)); (focus (exact rfl)); (focus (simp only [go_sem, ↓reduceIte, reduceCtorEq, he]; with_reducible rfl))) | refine LK.seq ?_ | refine LK.ret' ?_ | (apply LK.condT2; (focus (exact rfl)); (focus (with_reducible rfl)); (focus (first | with_reducible rfl | decide | exact Bool.true_or _ | exact congrArg (fun b => b || _) (Bool.true_or _)))) | refine LK.regc ?_ | (apply retQ; (focus (first | exact lres_one rfl | exact lres_more rfl | (simp only [lres, lresv, Try.results14, go_sem, ↓reduceIte, Nat.reduceEqDiff, reduceCtorEq, Nat.reduceLT, Nat.reduceAdd, Int.reduceBEq, Int.reduceBNe, Int.reduceEq, Int.reduceLE, Int.reduceLT, Int.reduceToNat, Nat.reduceLeDiff, Nat.reduceMul, Nat.reduceSub, he]; exact rfl)))) | (apply LOps.locFn; (focus (first | exact Goes.free | exact Goes.on rfl rfl (by with_reducible rfl) true (by decide))); (focus (exact rfl)); (focus (exact rfl)); (focus (simp only [go_sem, ↓reduceIte, Nat.reduceEqDiff]; exact rfl)); (focus (simp only [go_sem])); (focus (exact hf)); (focus (first | rfl | simp [go_sem])); (focus (first | rfl | simp [go_sem]))) | fail)
  (simp only [go_sem]; repeat' first | exact LV.le_refl _ | exact LV.le_nil _ | exact le_nilF _ _ | exact LV.le_any _ _ _ | refine LV.le_tup ?_ | refine LV.le_agg ?_ | exact LV.les_nil | refine LV.les_cons ?_ ?_)
set_option maxHeartbeats 4000000 in
set_option maxRecDepth 10000 in
theorem radmit_b (l : List Ten) (n : Nat) (x : Ten) (hx : l[n]? = some x) (hi : (n : Int) < (l.length : Int)) (hq : (x.v == x.q) = true) (hf : Fun Try.prog 26 [sT l, vi n] (vi 0)) : Fun Try.prog 14 [sT l, vi n] (.tup [sT [], vi 10]) := by
  refine Fun.frozenLe ?_
  (refine LCalls.enter Try.func14 rfl (by simp [Try.ntmps14]) (LK.start ?_); simp only [Try.ntmps14, enterA, Nat.zero_add])
  (repeat' first | refine LOps.done ?_ | (apply LOps.mv; (focus (first | exact Goes.free | exact Goes.on rfl rfl (by with_reducible rfl) true (by decide))); (focus (exact rfl)); (focus (exact rfl))) | (apply LOps.asg; (focus (first | exact Goes.free | exact Goes.on rfl rfl (by with_reducible rfl) true (by decide))); (focus (exact rfl)); (focus (exact rfl))) | (apply LOps.loc; (focus (first | exact Goes.free | exact Goes.on rfl rfl (by with_reducible rfl) true (by decide))); (focus (exact rfl)); (focus (exact rfl)); (focus (simp only [go_sem, ↓reduceIte, Nat.reduceEqDiff, reduceCtorEq, Nat.reduceLT, Nat.reduceAdd, Int.reduceBNe, hx, hi, hq]; with_reducible rfl))) | (apply LOps.loc0; (focus (first | exact Goes.free | exact Goes.on rfl rfl (by with_reducible rfl) true (by decide))); (focus (exact rfl)); (focus (simp only [go_sem, ↓reduceIte, Nat.reduceEqDiff, Nat.reduceLT, Nat.reduceAdd]; with_reducible rfl))) | refine LK.seq ?_ | refine LK.skip ?_ | refine LK.ret' ?_ | (apply LK.condT2; (focus (exact rfl)); (focus (with_reducible rfl)); (focus (first | with_reducible rfl | decide | exact Bool.true_or _ | exact congrArg (fun b => b || _) (Bool.true_or _)))) | (apply LK.condF2; (focus (exact rfl)); (focus (with_reducible rfl)); (focus (first | with_reducible rfl | decide | exact Bool.false_and _ | exact congrArg (fun b => b && _) (Bool.false_and _)))) | refine LK.regc ?_ | (apply retQ; (focus (first | exact lres_one rfl | exact lres_more rfl | (simp only [lres, lresv, Try.results14, go_sem, ↓reduceIte, Nat.reduceEqDiff, reduceCtorEq, Nat.reduceLT, Nat.reduceAdd, Int.reduceBEq, Int.reduceBNe, Int.reduceEq, Int.reduceLE, Int.reduceLT, Int.reduceToNat, Nat.reduceLeDiff, Nat.reduceMul, Nat.reduceSub, hx, hi, hq]; exact rfl)))) | (apply LOps.locFn; (focus (first | exact Goes.free | exact Goes.on rfl rfl (by with_reducible rfl) true (by decide))); (focus (exact rfl)); (focus (exact rfl)); (focus (simp only [go_sem, ↓reduceIte, Nat.reduceEqDiff]; exact rfl)); (focus (simp only [go_sem])); (focus (exact hf)); (focus (first | rfl | simp [go_sem])); (focus (first | rfl | simp [go_sem]))) | fail)
  (simp only [go_sem]; repeat' first | exact LV.le_refl _ | exact LV.le_nil _ | exact le_nilF _ _ | exact LV.le_any _ _ _ | refine LV.le_tup ?_ | refine LV.le_agg ?_ | exact LV.les_nil | refine LV.les_cons ?_ ?_)
set_option maxHeartbeats 4000000 in
set_option maxRecDepth 10000 in
theorem radmit_c (l L : List Ten) (n : Nat) (x : Ten) (hx : l[n]? = some x) (hi : (n : Int) < (l.length : Int)) (hq : (x.v == x.q) = false) (hw : IntKind.i64.wrap (x.v + 1) = x.v + 1) (hf : Fun Try.prog 26 [sT l, vi n] (vi 0)) (hs : Fun Try.prog 27 [sT l, vi n, .agg [vi x.w, vi x.q, vi (x.v + 1), vi x.tag, vi x.ran]] (sT L)) : Fun Try.prog 14 [sT l, vi n] (.tup [sT L, vi 0]) := by
  refine Fun.frozenLe ?_
  (refine LCalls.enter Try.func14 rfl (by simp [Try.ntmps14]) (LK.start ?_); simp only [Try.ntmps14, enterA, Nat.zero_add])
  (repeat' first | refine LOps.done ?_ | (apply LOps.mv; (focus (first | exact Goes.free | exact Goes.on rfl rfl (by with_reducible rfl) true (by decide))); (focus (exact rfl)); (focus (exact rfl))) | (apply LOps.asg; (focus (first | exact Goes.free | exact Goes.on rfl rfl (by with_reducible rfl) true (by decide))); (focus (exact rfl)); (focus (exact rfl))) | (apply LOps.loc; (focus (first | exact Goes.free | exact Goes.on rfl rfl (by with_reducible rfl) true (by decide))); (focus (exact rfl)); (focus (exact rfl)); (focus (simp only [go_sem, ↓reduceIte, Nat.reduceEqDiff, reduceCtorEq, Nat.reduceLT, Nat.reduceAdd, Int.reduceBNe, hx, hi, hq, hw]; with_reducible rfl))) | (apply LOps.loc0; (focus (first | exact Goes.free | exact Goes.on rfl rfl (by with_reducible rfl) true (by decide))); (focus (exact rfl)); (focus (simp only [go_sem, ↓reduceIte, Nat.reduceEqDiff, Nat.reduceLT, Nat.reduceAdd, Nat.reduceLeDiff]; with_reducible rfl))) | refine LK.seq ?_ | refine LK.skip ?_ | refine LK.ret' ?_ | (apply LK.condF2; (focus (exact rfl)); (focus (with_reducible rfl)); (focus (first | with_reducible rfl | decide | exact Bool.false_and _ | exact congrArg (fun b => b && _) (Bool.false_and _)))) | refine LK.regc ?_ | (apply retQ; (focus (first | exact lres_one rfl | exact lres_more rfl | (simp only [lres, lresv, Try.results14, go_sem, ↓reduceIte, Nat.reduceEqDiff, reduceCtorEq, Nat.reduceLT, Nat.reduceAdd, Int.reduceBEq, Int.reduceBNe, Int.reduceEq, Int.reduceLE, Int.reduceLT, Int.reduceToNat, Nat.reduceLeDiff, Nat.reduceMul, Nat.reduceSub, hx, hi, hq, hw]; exact rfl)))) | (apply LOps.locFn; (focus (first | exact Goes.free | exact Goes.on rfl rfl (by with_reducible rfl) true (by decide))); (focus (exact rfl)); (focus (exact rfl)); (focus (simp only [go_sem, ↓reduceIte, Nat.reduceEqDiff]; exact rfl)); (focus (simp only [go_sem])); (focus (first | exact hf | exact hs)); (focus (first | rfl | simp [go_sem])); (focus (first | rfl | simp [go_sem]))) | fail)
  (simp only [go_sem]; repeat' first | exact LV.le_refl _ | exact LV.le_nil _ | exact le_nilF _ _ | exact LV.le_any _ _ _ | refine LV.le_tup ?_ | refine LV.le_agg ?_ | exact LV.les_nil | refine LV.les_cons ?_ ?_)
set_option maxHeartbeats 4000000 in
set_option maxRecDepth 10000 in
theorem rleave_a (l : List Ten) (i e : Int) (he : (e != 0) = true) (hf : Fun Try.prog 26 [sT l, vi i] (vi e)) : Fun Try.prog 15 [sT l, vi i] (.tup [sT [], vi e]) := by
  refine Fun.frozenLe ?_
  (refine LCalls.enter Try.func15 rfl (by simp [Try.ntmps15]) (LK.start ?_); simp only [Try.ntmps15, enterA, Nat.zero_add])
  (repeat' first | refine LOps.done ?_ | (apply LOps.mv; (focus (first | exact Goes.free | exact Goes.on rfl rfl (by with_reducible rfl) true (by decide))); (focus (exact rfl)); (focus (exact rfl))) | (apply LOps.asg; (focus (first | exact Goes.free | exact Goes.on rfl rfl (by with_reducible rfl) true (by decide))); (focus (exact rfl)); (focus (exact rfl))) | (apply LOps.loc; (focus (first | exact Goes.free | exact Goes.on rfl rfl (by with_reducible rfl) true (by decide))); (focus (exact rfl)); (focus (exact rfl)); (focus (simp only [go_sem, ↓reduceIte, reduceCtorEq, he]; with_reducible rfl))) | refine LK.seq ?_ | refine LK.ret' ?_ | (apply LK.condT2; (focus (exact rfl)); (focus (with_reducible rfl)); (focus (first | with_reducible rfl | decide | exact Bool.true_or _ | exact congrArg (fun b => b || _) (Bool.true_or _)))) | refine LK.regc ?_ | (apply retQ; (focus (first | exact lres_one rfl | exact lres_more rfl | (simp only [lres, lresv, Try.results15, go_sem, ↓reduceIte, Nat.reduceEqDiff, reduceCtorEq, Nat.reduceLT, Nat.reduceAdd, Int.reduceBEq, Int.reduceBNe, Int.reduceEq, Int.reduceLE, Int.reduceLT, Int.reduceToNat, Nat.reduceLeDiff, Nat.reduceMul, Nat.reduceSub, he]; exact rfl)))) | (apply LOps.locFn; (focus (first | exact Goes.free | exact Goes.on rfl rfl (by with_reducible rfl) true (by decide))); (focus (exact rfl)); (focus (exact rfl)); (focus (simp only [go_sem, ↓reduceIte, Nat.reduceEqDiff]; exact rfl)); (focus (simp only [go_sem])); (focus (exact hf)); (focus (first | rfl | simp [go_sem])); (focus (first | rfl | simp [go_sem]))) | fail)
  (simp only [go_sem]; repeat' first | exact LV.le_refl _ | exact LV.le_nil _ | exact le_nilF _ _ | exact LV.le_any _ _ _ | refine LV.le_tup ?_ | refine LV.le_agg ?_ | exact LV.les_nil | refine LV.les_cons ?_ ?_)
set_option maxHeartbeats 4000000 in
set_option maxRecDepth 10000 in
theorem rleave_b (l : List Ten) (n : Nat) (x : Ten) (hx : l[n]? = some x) (hi : (n : Int) < (l.length : Int)) (hq : (x.v == 0) = true) (hf : Fun Try.prog 26 [sT l, vi n] (vi 0)) : Fun Try.prog 15 [sT l, vi n] (.tup [sT [], vi 9]) := by
  refine Fun.frozenLe ?_
  (refine LCalls.enter Try.func15 rfl (by simp [Try.ntmps15]) (LK.start ?_); simp only [Try.ntmps15, enterA, Nat.zero_add])
  (repeat' first | refine LOps.done ?_ | (apply LOps.mv; (focus (first | exact Goes.free | exact Goes.on rfl rfl (by with_reducible rfl) true (by decide))); (focus (exact rfl)); (focus (exact rfl))) | (apply LOps.asg; (focus (first | exact Goes.free | exact Goes.on rfl rfl (by with_reducible rfl) true (by decide))); (focus (exact rfl)); (focus (exact rfl))) | (apply LOps.loc; (focus (first | exact Goes.free | exact Goes.on rfl rfl (by with_reducible rfl) true (by decide))); (focus (exact rfl)); (focus (exact rfl)); (focus (simp only [go_sem, ↓reduceIte, Nat.reduceEqDiff, reduceCtorEq, Nat.reduceLT, Nat.reduceAdd, Int.reduceBNe, hx, hi, hq]; with_reducible rfl))) | (apply LOps.loc0; (focus (first | exact Goes.free | exact Goes.on rfl rfl (by with_reducible rfl) true (by decide))); (focus (exact rfl)); (focus (simp only [go_sem, ↓reduceIte, Nat.reduceEqDiff, Nat.reduceLT, Nat.reduceAdd]; with_reducible rfl))) | refine LK.seq ?_ | refine LK.skip ?_ | refine LK.ret' ?_ | (apply LK.condT2; (focus (exact rfl)); (focus (with_reducible rfl)); (focus (first | with_reducible rfl | decide | exact Bool.true_or _ | exact congrArg (fun b => b || _) (Bool.true_or _)))) | (apply LK.condF2; (focus (exact rfl)); (focus (with_reducible rfl)); (focus (first | with_reducible rfl | decide | exact Bool.false_and _ | exact congrArg (fun b => b && _) (Bool.false_and _)))) | refine LK.regc ?_ | (apply retQ; (focus (first | exact lres_one rfl | exact lres_more rfl | (simp only [lres, lresv, Try.results15, go_sem, ↓reduceIte, Nat.reduceEqDiff, reduceCtorEq, Nat.reduceLT, Nat.reduceAdd, Int.reduceBEq, Int.reduceBNe, Int.reduceEq, Int.reduceLE, Int.reduceLT, Int.reduceToNat, Nat.reduceLeDiff, Nat.reduceMul, Nat.reduceSub, hx, hi, hq]; exact rfl)))) | (apply LOps.locFn; (focus (first | exact Goes.free | exact Goes.on rfl rfl (by with_reducible rfl) true (by decide))); (focus (exact rfl)); (focus (exact rfl)); (focus (simp only [go_sem, ↓reduceIte, Nat.reduceEqDiff]; exact rfl)); (focus (simp only [go_sem])); (focus (exact hf)); (focus (first | rfl | simp [go_sem])); (focus (first | rfl | simp [go_sem]))) | fail)
  (simp only [go_sem]; repeat' first | exact LV.le_refl _ | exact LV.le_nil _ | exact le_nilF _ _ | exact LV.le_any _ _ _ | refine LV.le_tup ?_ | refine LV.le_agg ?_ | exact LV.les_nil | refine LV.les_cons ?_ ?_)
set_option maxHeartbeats 4000000 in
set_option maxRecDepth 10000 in
theorem rleave_c (l L : List Ten) (n : Nat) (x : Ten) (hx : l[n]? = some x) (hi : (n : Int) < (l.length : Int)) (hq : (x.v == 0) = false) (hw : IntKind.i64.wrap (x.v - 1) = x.v - 1) (hf : Fun Try.prog 26 [sT l, vi n] (vi 0)) (hs : Fun Try.prog 27 [sT l, vi n, .agg [vi x.w, vi x.q, vi (x.v - 1), vi x.tag, vi x.ran]] (sT L)) : Fun Try.prog 15 [sT l, vi n] (.tup [sT L, vi 0]) := by
  refine Fun.frozenLe ?_
  (refine LCalls.enter Try.func15 rfl (by simp [Try.ntmps15]) (LK.start ?_); simp only [Try.ntmps15, enterA, Nat.zero_add])
  (repeat' first | refine LOps.done ?_ | (apply LOps.mv; (focus (first | exact Goes.free | exact Goes.on rfl rfl (by with_reducible rfl) true (by decide))); (focus (exact rfl)); (focus (exact rfl))) | (apply LOps.asg; (focus (first | exact Goes.free | exact Goes.on rfl rfl (by with_reducible rfl) true (by decide))); (focus (exact rfl)); (focus (exact rfl))) | (apply LOps.loc; (focus (first | exact Goes.free | exact Goes.on rfl rfl (by with_reducible rfl) true (by decide))); (focus (exact rfl)); (focus (exact rfl)); (focus (simp only [go_sem, ↓reduceIte, Nat.reduceEqDiff, reduceCtorEq, Nat.reduceLT, Nat.reduceAdd, Int.reduceBNe, hx, hi, hq, hw]; with_reducible rfl))) | (apply LOps.loc0; (focus (first | exact Goes.free | exact Goes.on rfl rfl (by with_reducible rfl) true (by decide))); (focus (exact rfl)); (focus (simp only [go_sem, ↓reduceIte, Nat.reduceEqDiff, Nat.reduceLT, Nat.reduceAdd, Nat.reduceLeDiff]; with_reducible rfl))) | refine LK.seq ?_ | refine LK.skip ?_ | refine LK.ret' ?_ | (apply LK.condF2; (focus (exact rfl)); (focus (with_reducible rfl)); (focus (first | with_reducible rfl | decide | exact Bool.false_and _ | exact congrArg (fun b => b && _) (Bool.false_and _)))) | refine LK.regc ?_ | (apply retQ; (focus (first | exact lres_one rfl | exact lres_more rfl | (simp only [lres, lresv, Try.results15, go_sem, ↓reduceIte, Nat.reduceEqDiff, reduceCtorEq, Nat.reduceLT, Nat.reduceAdd, Int.reduceBEq, Int.reduceBNe, Int.reduceEq, Int.reduceLE, Int.reduceLT, Int.reduceToNat, Nat.reduceLeDiff, Nat.reduceMul, Nat.reduceSub, hx, hi, hq, hw]; exact rfl)))) | (apply LOps.locFn; (focus (first | exact Goes.free | exact Goes.on rfl rfl (by with_reducible rfl) true (by decide))); (focus (exact rfl)); (focus (exact rfl)); (focus (simp only [go_sem, ↓reduceIte, Nat.reduceEqDiff]; exact rfl)); (focus (simp only [go_sem])); (focus (first | exact hf | exact hs)); (focus (first | rfl | simp [go_sem])); (focus (first | rfl | simp [go_sem]))) | fail)
  (simp only [go_sem]; repeat' first | exact LV.le_refl _ | exact LV.le_nil _ | exact le_nilF _ _ | exact LV.le_any _ _ _ | refine LV.le_tup ?_ | refine LV.le_agg ?_ | exact LV.les_nil | refine LV.les_cons ?_ ?_)
set_option maxHeartbeats 4000000 in
set_option maxRecDepth 10000 in
theorem rcount_a (l : List Ten) (i u e : Int) (he : (e != 0) = true) (hf : Fun Try.prog 26 [sT l, vi i] (vi e)) : Fun Try.prog 16 [sT l, vi i, vi u] (.tup [sT [], vi e]) := by
  refine Fun.frozenLe ?_
  (refine LCalls.enter Try.func16 rfl (by simp [Try.ntmps16]) (LK.start ?_); simp only [Try.ntmps16, enterA, Nat.zero_add])
  (repeat' first | refine LOps.done ?_ | (apply LOps.mv; (focus (first | exact Goes.free | exact Goes.on rfl rfl (by with_reducible rfl) true (by decide))); (focus (exact rfl)); (focus (exact rfl))) | (apply LOps.asg; (focus (first | exact Goes.free | exact Goes.on rfl rfl (by with_reducible rfl) true (by decide))); (focus (exact rfl)); (focus (exact rfl))) | (apply LOps.loc; (focus (first | exact Goes.free | exact Goes.on rfl rfl (by with_reducible rfl) true (by decide))); (focus (exact rfl)); (focus (exact rfl)); (focus (simp only [go_sem, ↓reduceIte, reduceCtorEq, he]; with_reducible rfl))) | refine LK.seq ?_ | refine LK.ret' ?_ | (apply LK.condT2; (focus (exact rfl)); (focus (with_reducible rfl)); (focus (first | with_reducible rfl | decide | exact Bool.true_or _ | exact congrArg (fun b => b || _) (Bool.true_or _)))) | refine LK.regc ?_ | (apply retQ; (focus (first | exact lres_one rfl | exact lres_more rfl | (simp only [lres, lresv, Try.results16, go_sem, ↓reduceIte, Nat.reduceEqDiff, reduceCtorEq, Nat.reduceLT, Nat.reduceAdd, Int.reduceBEq, Int.reduceBNe, Int.reduceEq, Int.reduceLE, Int.reduceLT, Int.reduceToNat, Nat.reduceLeDiff, Nat.reduceMul, Nat.reduceSub, he]; exact rfl)))) | (apply LOps.locFn; (focus (first | exact Goes.free | exact Goes.on rfl rfl (by with_reducible rfl) true (by decide))); (focus (exact rfl)); (focus (exact rfl)); (focus (simp only [go_sem, ↓reduceIte, Nat.reduceEqDiff]; exact rfl)); (focus (simp only [go_sem])); (focus (exact hf)); (focus (first | rfl | simp [go_sem])); (focus (first | rfl | simp [go_sem]))) | fail)
  (simp only [go_sem]; repeat' first | exact LV.le_refl _ | exact LV.le_nil _ | exact le_nilF _ _ | exact LV.le_any _ _ _ | refine LV.le_tup ?_ | refine LV.le_agg ?_ | exact LV.les_nil | refine LV.les_cons ?_ ?_)
set_option maxHeartbeats 4000000 in
set_option maxRecDepth 10000 in
theorem rcount_b (l : List Ten) (i u : Int) (hu : u < 0) (hf : Fun Try.prog 26 [sT l, vi i] (vi 0)) : Fun Try.prog 16 [sT l, vi i, vi u] (.tup [sT [], vi 1]) := by
  refine Fun.frozenLe ?_
  (refine LCalls.enter Try.func16 rfl (by simp [Try.ntmps16]) (LK.start ?_); simp only [Try.ntmps16, enterA, Nat.zero_add])
  (repeat' first | refine LOps.done ?_ | (apply LOps.mv; (focus (first | exact Goes.free | exact Goes.on rfl rfl (by with_reducible rfl) true (by decide))); (focus (exact rfl)); (focus (exact rfl))) | (apply LOps.asg; (focus (first | exact Goes.free | exact Goes.on rfl rfl (by with_reducible rfl) true (by decide))); (focus (exact rfl)); (focus (exact rfl))) | (apply LOps.loc; (focus (first | exact Goes.free | exact Goes.on rfl rfl (by with_reducible rfl) true (by decide))); (focus (exact rfl)); (focus (exact rfl)); (focus (simp only [go_sem, ↓reduceIte, reduceCtorEq, Int.reduceBNe, hu]; with_reducible rfl))) | refine LK.seq ?_ | refine LK.skip ?_ | refine LK.ret' ?_ | (apply LK.condT2; (focus (exact rfl)); (focus (with_reducible rfl)); (focus (first | with_reducible rfl | decide | exact Bool.true_or _ | exact congrArg (fun b => b || _) (Bool.true_or _)))) | (apply LK.condF2; (focus (exact rfl)); (focus (with_reducible rfl)); (focus (first | with_reducible rfl | decide | exact Bool.false_and _ | exact congrArg (fun b => b && _) (Bool.false_and _)))) | refine LK.regc ?_ | (apply retQ; (focus (first | exact lres_one rfl | exact lres_more rfl | (simp only [lres, lresv, Try.results16, go_sem, ↓reduceIte, Nat.reduceEqDiff, reduceCtorEq, Nat.reduceLT, Nat.reduceAdd, Int.reduceBEq, Int.reduceBNe, Int.reduceEq, Int.reduceLE, Int.reduceLT, Int.reduceToNat, Nat.reduceLeDiff, Nat.reduceMul, Nat.reduceSub, hu]; exact rfl)))) | (apply LOps.locFn; (focus (first | exact Goes.free | exact Goes.on rfl rfl (by with_reducible rfl) true (by decide))); (focus (exact rfl)); (focus (exact rfl)); (focus (simp only [go_sem, ↓reduceIte, Nat.reduceEqDiff]; exact rfl)); (focus (simp only [go_sem])); (focus (exact hf)); (focus (first | rfl | simp [go_sem])); (focus (first | rfl | simp [go_sem]))) | fail)
  (simp only [go_sem]; repeat' first | exact LV.le_refl _ | exact LV.le_nil _ | exact le_nilF _ _ | exact LV.le_any _ _ _ | refine LV.le_tup ?_ | refine LV.le_agg ?_ | exact LV.les_nil | refine LV.les_cons ?_ ?_)
set_option maxHeartbeats 4000000 in
set_option maxRecDepth 10000 in
theorem rcount_c (l : List Ten) (n : Nat) (u : Int) (x : Ten) (hu : ¬ u < 0) (hx : l[n]? = some x) (hi : (n : Int) < (l.length : Int)) (hw : IntKind.i64.wrap (1099511627776 - x.ran) = 1099511627776 - x.ran) (hq : u > 1099511627776 - x.ran) (hf : Fun Try.prog 26 [sT l, vi n] (vi 0)) : Fun Try.prog 16 [sT l, vi n, vi u] (.tup [sT [], vi 4]) := by
  refine Fun.frozenLe ?_
  (refine LCalls.enter Try.func16 rfl (by simp [Try.ntmps16]) (LK.start ?_); simp only [Try.ntmps16, enterA, Nat.zero_add])
  (repeat' first | refine LOps.done ?_ | (apply LOps.mv; (focus (first | exact Goes.free | exact Goes.on rfl rfl (by with_reducible rfl) true (by decide))); (focus (exact rfl)); (focus (exact rfl))) | (apply LOps.asg; (focus (first | exact Goes.free | exact Goes.on rfl rfl (by with_reducible rfl) true (by decide))); (focus (exact rfl)); (focus (exact rfl))) | (apply LOps.loc; (focus (first | exact Goes.free | exact Goes.on rfl rfl (by with_reducible rfl) true (by decide))); (focus (exact rfl)); (focus (exact rfl)); (focus (simp only [go_sem, ↓reduceIte, Nat.reduceEqDiff, reduceCtorEq, Nat.reduceLT, Nat.reduceAdd, Int.reduceBNe, hu, hx, hi, hq, hw]; with_reducible rfl))) | (apply LOps.loc0; (focus (first | exact Goes.free | exact Goes.on rfl rfl (by with_reducible rfl) true (by decide))); (focus (exact rfl)); (focus (simp only [go_sem, ↓reduceIte, Nat.reduceEqDiff, Nat.reduceLT, Nat.reduceAdd]; with_reducible rfl))) | refine LK.seq ?_ | refine LK.skip ?_ | refine LK.ret' ?_ | (apply LK.condT2; (focus (exact rfl)); (focus (with_reducible rfl)); (focus (first | with_reducible rfl | decide | exact Bool.true_or _ | exact congrArg (fun b => b || _) (Bool.true_or _)))) | (apply LK.condF2; (focus (exact rfl)); (focus (with_reducible rfl)); (focus (first | with_reducible rfl | decide | exact Bool.false_and _ | exact congrArg (fun b => b && _) (Bool.false_and _)))) | refine LK.regc ?_ | (apply retQ; (focus (first | exact lres_one rfl | exact lres_more rfl | (simp only [lres, lresv, Try.results16, go_sem, ↓reduceIte, Nat.reduceEqDiff, reduceCtorEq, Nat.reduceLT, Nat.reduceAdd, Int.reduceBEq, Int.reduceBNe, Int.reduceEq, Int.reduceLE, Int.reduceLT, Int.reduceToNat, Nat.reduceLeDiff, Nat.reduceMul, Nat.reduceSub, hu, hx, hi, hq, hw]; exact rfl)))) | (apply LOps.locFn; (focus (first | exact Goes.free | exact Goes.on rfl rfl (by with_reducible rfl) true (by decide))); (focus (exact rfl)); (focus (exact rfl)); (focus (simp only [go_sem, ↓reduceIte, Nat.reduceEqDiff]; exact rfl)); (focus (simp only [go_sem])); (focus (exact hf)); (focus (first | rfl | simp [go_sem])); (focus (first | rfl | simp [go_sem]))) | fail)
  (simp only [go_sem]; repeat' first | exact LV.le_refl _ | exact LV.le_nil _ | exact le_nilF _ _ | exact LV.le_any _ _ _ | refine LV.le_tup ?_ | refine LV.le_agg ?_ | exact LV.les_nil | refine LV.les_cons ?_ ?_)
set_option maxHeartbeats 4000000 in
set_option maxRecDepth 10000 in
theorem rcount_d (l L : List Ten) (n : Nat) (u : Int) (x : Ten) (hu : ¬ u < 0) (hx : l[n]? = some x) (hi : (n : Int) < (l.length : Int)) (hw : IntKind.i64.wrap (1099511627776 - x.ran) = 1099511627776 - x.ran) (hq : ¬ (u > 1099511627776 - x.ran)) (hw2 : IntKind.i64.wrap (x.ran + u) = x.ran + u) (hf : Fun Try.prog 26 [sT l, vi n] (vi 0)) (hs : Fun Try.prog 27 [sT l, vi n, .agg [vi x.w, vi x.q, vi x.v, vi x.tag, vi (x.ran + u)]] (sT L)) : Fun Try.prog 16 [sT l, vi n, vi u] (.tup [sT L, vi 0]) := by
  refine Fun.frozenLe ?_
  (refine LCalls.enter Try.func16 rfl (by simp [Try.ntmps16]) (LK.start ?_); simp only [Try.ntmps16, enterA, Nat.zero_add])
  (repeat' first | refine LOps.done ?_ | (apply LOps.mv; (focus (first | exact Goes.free | exact Goes.on rfl rfl (by with_reducible rfl) true (by decide))); (focus (exact rfl)); (focus (exact rfl))) | (apply LOps.asg; (focus (first | exact Goes.free | exact Goes.on rfl rfl (by with_reducible rfl) true (by decide))); (focus (exact rfl)); (focus (exact rfl))) | (apply LOps.loc; (focus (first | exact Goes.free | exact Goes.on rfl rfl (by with_reducible rfl) true (by decide))); (focus (exact rfl)); (focus (exact rfl)); (focus (simp only [go_sem, ↓reduceIte, Nat.reduceEqDiff, reduceCtorEq, Nat.reduceLT, Nat.reduceAdd, Int.reduceBNe, hu, hx, hi, hq, hw, hw2]; with_reducible rfl))) | (apply LOps.loc0; (focus (first | exact Goes.free | exact Goes.on rfl rfl (by with_reducible rfl) true (by decide))); (focus (exact rfl)); (focus (simp only [go_sem, ↓reduceIte, Nat.reduceEqDiff, Nat.reduceLT, Nat.reduceAdd]; with_reducible rfl))) | refine LK.seq ?_ | refine LK.skip ?_ | refine LK.ret' ?_ | (apply LK.condF2; (focus (exact rfl)); (focus (with_reducible rfl)); (focus (first | with_reducible rfl | decide | exact Bool.false_and _ | exact congrArg (fun b => b && _) (Bool.false_and _)))) | refine LK.regc ?_ | (apply retQ; (focus (first | exact lres_one rfl | exact lres_more rfl | (simp only [lres, lresv, Try.results16, go_sem, ↓reduceIte, Nat.reduceEqDiff, reduceCtorEq, Nat.reduceLT, Nat.reduceAdd, Int.reduceBEq, Int.reduceBNe, Int.reduceEq, Int.reduceLE, Int.reduceLT, Int.reduceToNat, Nat.reduceLeDiff, Nat.reduceMul, Nat.reduceSub, hu, hx, hi, hq, hw, hw2]; exact rfl)))) | (apply LOps.locFn; (focus (first | exact Goes.free | exact Goes.on rfl rfl (by with_reducible rfl) true (by decide))); (focus (exact rfl)); (focus (exact rfl)); (focus (simp only [go_sem, ↓reduceIte, Nat.reduceEqDiff]; exact rfl)); (focus (simp only [go_sem])); (focus (first | exact hf | exact hs)); (focus (first | rfl | simp [go_sem])); (focus (first | rfl | simp [go_sem]))) | fail)
  (simp only [go_sem]; repeat' first | exact LV.le_refl _ | exact LV.le_nil _ | exact le_nilF _ _ | exact LV.le_any _ _ _ | refine LV.le_tup ?_ | refine LV.le_agg ?_ | exact LV.les_nil | refine LV.les_cons ?_ ?_)
theorem bne0 {e : Int} (h : e ≠ 0) : (e != 0) = true := by simpa using h
theorem fi_ok {l : List Ten} {i : Int} (h : fiE l i = 0) : chk l = 0 ∧ ¬ (i < 0 ∨ (l.length : Int) ≤ i) ∧ ∃ (n : Nat) (x : Ten), i = (n : Int) ∧ l[n]? = some x ∧ oddT x = false := by
  unfold fiE at h
  split at h
  · cases h
  · rename_i hc
    split at h
    · cases h
    · rename_i hi
      have hc0 : chk l = 0 := by
        by_cases h0 : chk l = 0
        · exact h0
        · exact absurd (chk_one h0) hc
      obtain ⟨n, x, rfl, hx⟩ := get_of hi
      exact ⟨hc0, hi, n, x, rfl, hx, (chk_len hc0).2.2 x (List.mem_of_getElem? hx)⟩
theorem fi_ne {l : List Ten} {i : Int} (h : fiE l i ≠ 0) : (chk l = 1 ∧ fiE l i = 1) ∨ (¬ chk l = 1 ∧ (i < 0 ∨ (l.length : Int) ≤ i) ∧ fiE l i = 5) := by
  by_cases c : chk l = 1
  · exact .inl ⟨c, by rw [fiE, if_pos c]⟩
  · by_cases d : i < 0 ∨ (l.length : Int) ≤ i
    · exact .inr ⟨c, d, by rw [fiE, if_neg c, if_pos d]⟩
    · exact absurd (by rw [fiE, if_neg c, if_neg d]) h
theorem radmit_fun (l : List Ten) (i : Int) (hl : l.length ≤ 100000) : Fun Try.prog 14 [sT l, vi i] (.tup [sT (adL l i), vi (adE l i)]) := by
  have hf := find_fun l i hl
  by_cases h : fiE l i = 0
  · rw [h] at hf
    obtain ⟨hc, hi, n, x, rfl, hx, ho⟩ := fi_ok h
    have hlt := lt_of_get hx
    have hb := not_odd ho
    by_cases hq : x.v = x.q
    · have e1 : adE l n = 10 := by simp only [adE, if_neg (show ¬ chk l = 1 by omega), if_neg hi, Int.toNat_natCast, hx, if_pos hq]
      rw [adL, e1, if_neg (by omega)]
      exact radmit_b l n x hx (by omega) (by simpa using hq) hf
    · obtain ⟨e1, e2⟩ := ad_of hc hx hq
      rw [e1, e2]
      exact radmit_c l _ n x hx (by omega) (by simpa using hq) (by rw [IntKind.wrap_i64]; omega) hf (with_fun l n { x with v := x.v + 1 } x hx hl)
  · have e : adE l i = fiE l i := by
      rcases fi_ne h with ⟨c, e⟩ | ⟨c, d, e⟩
      · rw [e, adE, if_pos c]
      · rw [e, adE, if_neg c, if_pos d]
    rw [adL, e, if_neg h]
    exact radmit_a l i _ (bne0 h) hf
theorem rleave_fun (l : List Ten) (i : Int) (hl : l.length ≤ 100000) : Fun Try.prog 15 [sT l, vi i] (.tup [sT (leL l i), vi (leE l i)]) := by
  have hf := find_fun l i hl
  by_cases h : fiE l i = 0
  · rw [h] at hf
    obtain ⟨hc, hi, n, x, rfl, hx, ho⟩ := fi_ok h
    have hlt := lt_of_get hx
    have hb := not_odd ho
    by_cases hq : x.v = 0
    · have e1 : leE l n = 9 := by simp only [leE, if_neg (show ¬ chk l = 1 by omega), if_neg hi, Int.toNat_natCast, hx, if_pos hq]
      rw [leL, e1, if_neg (by omega)]
      exact rleave_b l n x hx (by omega) (by simpa using hq) hf
    · have e1 : leE l n = 0 := by simp only [leE, if_neg (show ¬ chk l = 1 by omega), if_neg hi, Int.toNat_natCast, hx, if_neg hq]
      have e2 : leL l n = l.set n { x with v := x.v - 1 } := by simp only [leL, e1, if_true, Int.toNat_natCast, hx]
      rw [e1, e2]
      exact rleave_c l _ n x hx (by omega) (by simpa using hq) (by rw [IntKind.wrap_i64]; omega) hf (with_fun l n { x with v := x.v - 1 } x hx hl)
  · have e : leE l i = fiE l i := by
      rcases fi_ne h with ⟨c, e⟩ | ⟨c, d, e⟩
      · rw [e, leE, if_pos c]
      · rw [e, leE, if_neg c, if_pos d]
    rw [leL, e, if_neg h]
    exact rleave_a l i _ (bne0 h) hf
theorem rcount_fun (l : List Ten) (i u : Int) (hl : l.length ≤ 100000) : Fun Try.prog 16 [sT l, vi i, vi u] (.tup [sT (coL l i u), vi (coE l i u)]) := by
  have hf := find_fun l i hl
  by_cases h : fiE l i = 0
  · rw [h] at hf
    obtain ⟨hc, hi, n, x, rfl, hx, ho⟩ := fi_ok h
    have hlt := lt_of_get hx
    have hb := not_odd ho
    have hw : IntKind.i64.wrap (1099511627776 - x.ran) = 1099511627776 - x.ran := by rw [IntKind.wrap_i64]; omega
    by_cases hu : u < 0
    · have e1 : coE l n u = 1 := by simp only [coE, if_neg (show ¬ chk l = 1 by omega), if_neg hi, Int.toNat_natCast, hx, if_pos hu]
      rw [coL, e1, if_neg (by omega)]
      exact rcount_b l n u hu hf
    · by_cases hq : 1099511627776 - x.ran < u
      · have e1 : coE l n u = 4 := by simp only [coE, if_neg (show ¬ chk l = 1 by omega), if_neg hi, Int.toNat_natCast, hx, if_neg hu, if_pos hq]
        rw [coL, e1, if_neg (by omega)]
        exact rcount_c l n u x hu hx (by omega) hw hq hf
      · have e1 : coE l n u = 0 := by simp only [coE, if_neg (show ¬ chk l = 1 by omega), if_neg hi, Int.toNat_natCast, hx, if_neg hu, if_neg hq]
        have e2 : coL l n u = l.set n { x with ran := x.ran + u } := by simp only [coL, e1, if_true, Int.toNat_natCast, hx]
        rw [e1, e2]
        exact rcount_d l _ n u x hu hx (by omega) hw hq (by rw [IntKind.wrap_i64]; omega) hf (with_fun l n { x with ran := x.ran + u } x hx hl)
  · have e : coE l i u = fiE l i := by
      rcases fi_ne h with ⟨c, e⟩ | ⟨c, d, e⟩
      · rw [e, coE, if_pos c]
      · rw [e, coE, if_neg c, if_pos d]
    rw [coL, e, if_neg h]
    exact rcount_a l i u _ (bne0 h) hf
set_option maxHeartbeats 4000000 in
set_option maxRecDepth 10000 in
theorem rall_fun (l : List Ten) (hl : l.length ≤ 100000) : Fun Try.prog 17 [sT l] (.tup [vi (alV l), vi (alR l), vi (chk l)]) := by
  have hck := rcheck_fun l hl
  by_cases hc : chk l = 0
  · obtain ⟨h1, h2, h3⟩ := chk_len hc
    have hb := sums_bound (l := l) fun x hx => by have := not_odd (h3 x hx); omega
    rw [hc] at hck
    simp only [alV, alR, hc, if_true]
    (refine LCalls.enter Try.func17 rfl (by simp [Try.ntmps17]) (LK.start ?_); simp only [Try.ntmps17, enterA])
    (repeat' first | refine LOps.done ?_ | (apply LOps.mv; (focus (first | exact Goes.free | exact Goes.on rfl rfl (by with_reducible rfl) true (by decide))); (focus (exact rfl)); (focus (exact rfl))) | (apply LOps.loc; (focus (first | exact Goes.free | exact Goes.on rfl rfl (by with_reducible rfl) true (by decide))); (focus (exact rfl)); (focus (exact rfl)); (focus (simp only [go_sem, ↓reduceIte, reduceCtorEq, Int.reduceBNe]; with_reducible rfl))) | refine LK.seq ?_ | refine LK.skip ?_ | refine LK.block ?_ | (apply LK.condF2; (focus (exact rfl)); (focus (with_reducible rfl)); (focus (first | with_reducible rfl | decide | exact Bool.false_and _ | exact congrArg (fun b => b && _) (Bool.false_and _)))) | refine LK.regc ?_ | (apply LOps.locFn; (focus (first | exact Goes.free | exact Goes.on rfl rfl (by with_reducible rfl) true (by decide))); (focus (exact rfl)); (focus (exact rfl)); (focus (simp only [go_sem, ↓reduceIte]; exact rfl)); (focus (simp only [go_sem])); (focus (exact hck)); (focus (first | rfl | simp [go_sem])); (focus (first | rfl | simp [go_sem]))) | fail)
    refine LK.loop (fun k : Nat => l.length - k) (fun k => k ≤ l.length) (fun k => ⟨29, [(5, vi (sumV l k)), (6, vi (sumR l k)), (12, sT l), (13, vi l.length), (14, vi k)]⟩) (fun _ => []) 0 (Nat.zero_le _) (Sub.by rfl rfl rfl) ?_
    intro k hk J hJ
    rcases Nat.lt_or_ge k l.length with hlt | hge
    · obtain ⟨x, hx⟩ := idx_all hlt
      have hi : ((k : Int) < (l.length : Int)) := by omega
      have hw := wrapn (n := k) (by omega)
      have b1 := hb (k + 1)
      have e1 := sumV_succ hx
      have e2 := sumR_succ hx
      have w1 : IntKind.i64.wrap (sumV l k + x.v) = sumV l (k + 1) := by rw [← e1, IntKind.wrap_i64]; omega
      have w2 : IntKind.i64.wrap (sumR l k + x.ran) = sumR l (k + 1) := by rw [← e2, IntKind.wrap_i64]; omega
      (repeat' first | refine LOps.done ?_ | (apply LOps.mv; (focus (first | exact Goes.free | exact Goes.on rfl rfl (by with_reducible rfl) true (by decide))); (focus (exact rfl)); (focus (exact rfl))) | (apply LOps.asg; (focus (first | exact Goes.free | exact Goes.on rfl rfl (by with_reducible rfl) true (by decide))); (focus (exact rfl)); (focus (exact rfl))) | (apply LOps.loc; (focus (first | exact Goes.free | exact Goes.on rfl rfl (by with_reducible rfl) true (by decide))); (focus (exact rfl)); (focus (exact rfl)); (focus (simp only [go_sem, ↓reduceIte, Nat.reduceEqDiff, Nat.reduceLT, Nat.reduceAdd, hi, hw, hx, w1, w2]; with_reducible rfl))) | (apply LOps.loc0; (focus (first | exact Goes.free | exact Goes.on rfl rfl (by with_reducible rfl) true (by decide))); (focus (exact rfl)); (focus (simp only [go_sem, ↓reduceIte, Nat.reduceEqDiff, Nat.reduceLT, Nat.reduceAdd]; with_reducible rfl))) | refine LK.seq ?_ | refine LK.skip ?_ | refine LK.block ?_ | refine LK.blk ?_ | refine LK.fin ?_ | (apply LK.condT2; (focus (exact rfl)); (focus (with_reducible rfl)); (focus (first | with_reducible rfl | decide | exact Bool.true_or _ | exact congrArg (fun b => b || _) (Bool.true_or _)))) | refine LK.regc ?_ | fail)
      apply hJ
      exact ⟨k + 1, hlt, by omega, Sub.by rfl rfl rfl⟩
    · obtain rfl : k = l.length := by omega
      have hi : ¬ ((l.length : Int) < (l.length : Int)) := by omega
      (repeat' first | refine LOps.done ?_ | (apply LOps.mv; (focus (first | exact Goes.free | exact Goes.on rfl rfl (by with_reducible rfl) true (by decide))); (focus (exact rfl)); (focus (exact rfl))) | (apply LOps.asg; (focus (first | exact Goes.free | exact Goes.on rfl rfl (by with_reducible rfl) true (by decide))); (focus (exact rfl)); (focus (exact rfl))) | (apply LOps.loc; (focus (first | exact Goes.free | exact Goes.on rfl rfl (by with_reducible rfl) true (by decide))); (focus (exact rfl)); (focus (exact rfl)); (focus (simp only [go_sem, ↓reduceIte, Nat.reduceEqDiff, hi]; with_reducible rfl))) | refine LK.seq ?_ | refine LK.ret' ?_ | refine LK.exit' rfl ?_ | (apply LK.condF2; (focus (exact rfl)); (focus (with_reducible rfl)); (focus (first | with_reducible rfl | decide | exact Bool.false_and _ | exact congrArg (fun b => b && _) (Bool.false_and _)))) | refine LK.regc ?_ | (apply retQ; (focus (first | exact lres_one rfl | exact lres_more rfl | (simp only [lres, lresv, Try.results17, go_sem, ↓reduceIte, Nat.reduceEqDiff, reduceCtorEq, Nat.reduceLT, Nat.reduceAdd, Int.reduceBEq, Int.reduceBNe, Int.reduceEq, Int.reduceLE, Int.reduceLT, Int.reduceToNat, Nat.reduceLeDiff, Nat.reduceMul, Nat.reduceSub, hi]; exact rfl)))) | fail)
      all_goals rfl
  · have hc1 := chk_one hc
    rw [hc1] at hck
    simp only [alV, alR, hc1]
    (refine LCalls.enter Try.func17 rfl (by simp [Try.ntmps17]) (LK.start ?_); simp only [Try.ntmps17, enterA])
    (repeat' first | refine LOps.done ?_ | (apply LOps.mv; (focus (first | exact Goes.free | exact Goes.on rfl rfl (by with_reducible rfl) true (by decide))); (focus (exact rfl)); (focus (exact rfl))) | (apply LOps.loc; (focus (first | exact Goes.free | exact Goes.on rfl rfl (by with_reducible rfl) true (by decide))); (focus (exact rfl)); (focus (exact rfl)); (focus (simp only [go_sem, ↓reduceIte, reduceCtorEq, Int.reduceBNe]; with_reducible rfl))) | refine LK.seq ?_ | refine LK.ret' ?_ | (apply LK.condT2; (focus (exact rfl)); (focus (with_reducible rfl)); (focus (first | with_reducible rfl | decide | exact Bool.true_or _ | exact congrArg (fun b => b || _) (Bool.true_or _)))) | refine LK.regc ?_ | (apply retQ; (focus (first | exact lres_one rfl | exact lres_more rfl | (simp only [lres, lresv, Try.results17, go_sem, ↓reduceIte, Nat.reduceEqDiff, reduceCtorEq, Nat.reduceLT, Nat.reduceAdd, Int.reduceBEq, Int.reduceBNe, Int.reduceEq, Int.reduceLE, Int.reduceLT, Int.reduceToNat, Nat.reduceLeDiff, Nat.reduceMul, Nat.reduceSub]; exact rfl)))) | (apply LOps.locFn; (focus (first | exact Goes.free | exact Goes.on rfl rfl (by with_reducible rfl) true (by decide))); (focus (exact rfl)); (focus (exact rfl)); (focus (simp only [go_sem, ↓reduceIte]; exact rfl)); (focus (simp only [go_sem])); (focus (exact hck)); (focus (first | rfl | simp [go_sem])); (focus (first | rfl | simp [go_sem]))) | fail)
    all_goals rfl
end Go.Proofs.Ytflcdaafhopkkaa
