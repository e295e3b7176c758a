/- Chapter 11: DeleteFunc, as Done gives it. -/
import Derived.Test.YtoppnepjemhckaaJ9
set_option linter.unusedSimpArgs false
set_option linter.unusedVariables false
namespace Go.Proofs.Ytoppnepjemhckaa
open Go.Lw
attribute [local irreducible] LK LOps LW
set_option maxHeartbeats 4000000 in
set_option maxRecDepth 10000 in
theorem delete_done (l : List Jn) (me : Int) (n : Nat) (hn : l.length = n) (hl : n ≤ 100000) (p : Jn → Bool) (hp : p = (fun x : Jn => x.1 == me)) :
    LCalls Try.prog 27 [.own 3 n 0 n, .fn (.func 28) [.ptr 0 1 0 0, .ptr 1 1 0 0]] (fun u s => u = .own 3 n 0 (delN p l) ∧ s = ⟨4, [(3, .arr 2 (oF cJ (delL p l))), (0, .arr 1 [[vi me]]), (1, .arr 1 [[.own 2 (whoS p l n).length 0 (whoS p l n).length]]), (2, .arr 1 (oF (cI .i64) (whoS p l n)))]⟩) ⟨4, [(3, .arr 2 (oF cJ l)), (0, .arr 1 [[vi me]]), (1, .arr 1 [[.own 2 (whoS p l 0).length 0 (whoS p l 0).length]]), (2, .arr 1 (oF (cI .i64) (whoS p l 0)))]⟩ := by
  have ht : l.take n = l := List.take_of_length_le (by omega)
  have hpx : ∀ x : Jn, (x.1 == me) = p x := by rw [hp]; exact fun _ => rfl
  clear hp
  refine LCalls.forget rfl (by simp [LO.under, LV.under, oF_all_under]) ?_
  rcases first_of (w := l) (p := p) with hno | ⟨i0, y, hi, hy, hlo⟩
  · obtain ⟨d1, d2⟩ := delL_none hno
    rw [d1, d2, hn]
    (refine LCalls.enter Try.func27 rfl (by simp [Try.ntmps27]) (LK.start ?_); simp only [Try.ntmps27, enterA, Nat.zero_add])
    (repeat' first | refine LOps.done ?_ | (apply LOps.mv; (focus (first | exact Goes.free | exact Goes.on rfl rfl (by with_reducible rfl) true (by decide))); (focus (exact rfl)); (focus (exact rfl))) | (apply LOps.loc; (focus (first | exact Goes.free | exact Goes.on rfl rfl (by with_reducible rfl) true (by decide))); (focus (exact rfl)); (focus (exact rfl)); (focus (simp only [go_sem, ↓reduceIte, reduceCtorEq, hn, ht]; with_reducible rfl))) | refine LK.seq ?_ | refine LK.block ?_ | refine LK.regc ?_ | ((apply LOps.inline; (focus (first | exact Goes.free | exact Goes.on rfl rfl (by with_reducible rfl) true (by decide))); (focus (exact rfl)); (focus (exact rfl)); (focus (simp only [go_sem, ↓reduceIte, Nat.reduceEqDiff]; exact rfl)); (focus (simp only [go_sem]))); (first | (refine LCalls.enter Try.func37 rfl (by simp [Try.ntmps37]) (LK.start ?_); simp only [Try.ntmps37, enterA, Nat.zero_add]) | fail)) | fail)
    refine LK.loop (fun k : Nat => n - k) (fun k => k ≤ n) (fun k => ⟨19, [(0, .own 3 n 0 n), (1, .fn (.func 28) [.ptr 0 1 0 0, .ptr 1 1 0 0]), (7, vi n), (8, vi k)]⟩) (fun k => [(3, .arr 2 (oF cJ l)), (0, .arr 1 [[vi me]]), (1, .arr 1 [[.own 2 (whoS p l k).length 0 (whoS p l k).length]]), (2, .arr 1 (oF (cI .i64) (whoS p l k)))]) 0 (Nat.zero_le _) (Sub.by rfl rfl (by first | rfl | (simp only [subB, oF_all_under, LV.under, LV.unders, LO.under, List.all_cons, List.all_nil, decide_true, Nat.reduceLT, Bool.and_self]; done))) ?_
    intro k hk J hJ
    rcases Nat.lt_or_ge k n with hlt | hge
    · obtain ⟨x, hx⟩ := idx_all (show k < l.length by omega)
      have hne := hno x (List.mem_of_getElem? hx)
      have hq := hpx x
      rw [hne] at hq
      have i1 : ((k : Int) < (n : Int)) := by omega
      have hw := wrapn (n := k) (by omega)
      have hs : whoS p l (k + 1) = whoS p l k := by rw [whoS, hx]; simp [hne]
      (repeat' first | refine LOps.done ?_ | (apply LOps.mv; (focus (first | exact Goes.free | exact Goes.on rfl rfl (by with_reducible rfl) true (by decide))); (focus (exact rfl)); (focus (exact rfl))) | (apply LOps.asg; (focus (first | exact Goes.free | exact Goes.on rfl rfl (by with_reducible rfl) true (by decide))); (focus (exact rfl)); (focus (exact rfl))) | (apply LOps.loc; (focus (first | exact Goes.free | exact Goes.on rfl rfl (by with_reducible rfl) true (by decide))); (focus (exact rfl)); (focus (exact rfl)); (focus (simp only [go_sem, ↓reduceIte, Nat.reduceEqDiff, reduceCtorEq, Nat.reduceLT, Nat.reduceAdd, i1, hx, hw, hn, hq, cJ_eq]; with_reducible rfl))) | refine LK.seq ?_ | refine LK.skip ?_ | refine LK.block ?_ | refine LK.blk ?_ | refine LK.fin ?_ | refine LK.ret' ?_ | (apply LK.condT2; (focus (exact rfl)); (focus (with_reducible rfl)); (focus (first | with_reducible rfl | decide | (with_reducible exact Bool.true_or _) | (with_reducible exact congrArg (fun b => b || _) (Bool.true_or _))))) | (apply LK.condF2; (focus (exact rfl)); (focus (with_reducible rfl)); (focus (first | with_reducible rfl | decide | (with_reducible exact Bool.false_and _) | (with_reducible exact congrArg (fun b => b && _) (Bool.false_and _))))) | refine LK.regc ?_ | (apply retQ; (focus (first | exact lres_one rfl | exact lres_more rfl | (simp only [lres, lresv, Try.results37, Try.results28, go_sem, ↓reduceIte, Nat.reduceEqDiff, reduceCtorEq, Nat.reduceLT, Nat.reduceAdd, Int.reduceBEq, Int.reduceBNe, Int.reduceEq, Int.reduceLE, Int.reduceLT, Int.reduceToNat, Nat.reduceLeDiff, Nat.reduceMul, Nat.reduceSub, i1, hx, hw, hn, hq, cJ_eq]; exact rfl)))) | ((apply LOps.inline; (focus (first | exact Goes.free | exact Goes.on rfl rfl (by with_reducible rfl) true (by decide))); (focus (exact rfl)); (focus (exact rfl)); (focus (simp only [go_sem, ↓reduceIte, Nat.reduceEqDiff]; exact rfl)); (focus (simp only [go_sem]))); (first | (refine LCalls.enter Try.func28 rfl (by simp [Try.ntmps28]) (LK.start ?_); simp only [Try.ntmps28, enterA, Nat.zero_add]) | fail)) | fail)
      apply hJ
      refine ⟨k + 1, hlt, by omega, ?_⟩
      rw [hs]
      exact (Sub.by rfl rfl (by first | rfl | (simp only [subB, oF_all_under, LV.under, LV.unders, LO.under, List.all_cons, List.all_nil, decide_true, Nat.reduceLT, Bool.and_self]; done)))
    · have i1 : ¬ ((k : Int) < (n : Int)) := by omega
      obtain rfl : k = n := by omega
      (repeat' first | refine LOps.done ?_ | (apply LOps.mv; (focus (first | exact Goes.free | exact Goes.on rfl rfl (by with_reducible rfl) true (by decide))); (focus (exact rfl)); (focus (exact rfl))) | (apply LOps.asg; (focus (first | exact Goes.free | exact Goes.on rfl rfl (by with_reducible rfl) true (by decide))); (focus (exact rfl)); (focus (exact rfl))) | (apply LOps.loc; (focus (first | exact Goes.free | exact Goes.on rfl rfl (by with_reducible rfl) true (by decide))); (focus (exact rfl)); (focus (exact rfl)); (focus (simp only [go_sem, ↓reduceIte, Nat.reduceEqDiff, i1]; with_reducible rfl))) | refine LK.seq ?_ | refine LK.ret' ?_ | refine LK.exit' rfl ?_ | (apply LK.condT2; (focus (exact rfl)); (focus (with_reducible rfl)); (focus (first | with_reducible rfl | decide | (with_reducible exact Bool.true_or _) | (with_reducible exact congrArg (fun b => b || _) (Bool.true_or _))))) | (apply LK.condF2; (focus (exact rfl)); (focus (with_reducible rfl)); (focus (first | with_reducible rfl | decide | (with_reducible exact Bool.false_and _) | (with_reducible exact congrArg (fun b => b && _) (Bool.false_and _))))) | refine LK.regc ?_ | (apply retQ; (focus (first | exact lres_one rfl | exact lres_more rfl | (simp only [lres, lresv, Try.results37, Try.results27, go_sem, ↓reduceIte, Nat.reduceEqDiff, reduceCtorEq, Nat.reduceLT, Nat.reduceAdd, Int.reduceBEq, Int.reduceBNe, Int.reduceEq, Int.reduceLE, Int.reduceLT, Int.reduceToNat, Nat.reduceLeDiff, Nat.reduceMul, Nat.reduceSub, i1]; exact rfl)))) | fail)
      all_goals exact ⟨rfl, rfl⟩
  · have hil := lt_of_get hi
    have hqy := hpx y
    rw [hy] at hqy
    (refine LCalls.enter Try.func27 rfl (by simp [Try.ntmps27]) (LK.start ?_); simp only [Try.ntmps27, enterA, Nat.zero_add])
    (repeat' first | refine LOps.done ?_ | (apply LOps.mv; (focus (first | exact Goes.free | exact Goes.on rfl rfl (by with_reducible rfl) true (by decide))); (focus (exact rfl)); (focus (exact rfl))) | (apply LOps.loc; (focus (first | exact Goes.free | exact Goes.on rfl rfl (by with_reducible rfl) true (by decide))); (focus (exact rfl)); (focus (exact rfl)); (focus (simp only [go_sem, ↓reduceIte, reduceCtorEq, hn, ht]; with_reducible rfl))) | refine LK.seq ?_ | refine LK.block ?_ | refine LK.regc ?_ | ((apply LOps.inline; (focus (first | exact Goes.free | exact Goes.on rfl rfl (by with_reducible rfl) true (by decide))); (focus (exact rfl)); (focus (exact rfl)); (focus (simp only [go_sem, ↓reduceIte, Nat.reduceEqDiff]; exact rfl)); (focus (simp only [go_sem]))); (first | (refine LCalls.enter Try.func37 rfl (by simp [Try.ntmps37]) (LK.start ?_); simp only [Try.ntmps37, enterA, Nat.zero_add]) | fail)) | fail)
    refine LK.loop (fun k : Nat => n - k) (fun k => k ≤ i0) (fun k => ⟨19, [(0, .own 3 n 0 n), (1, .fn (.func 28) [.ptr 0 1 0 0, .ptr 1 1 0 0]), (7, vi n), (8, vi k)]⟩) (fun k => [(3, .arr 2 (oF cJ l)), (0, .arr 1 [[vi me]]), (1, .arr 1 [[.own 2 (whoS p l k).length 0 (whoS p l k).length]]), (2, .arr 1 (oF (cI .i64) (whoS p l k)))]) 0 (Nat.zero_le _) (Sub.by rfl rfl (by first | rfl | (simp only [subB, oF_all_under, LV.under, LV.unders, LO.under, List.all_cons, List.all_nil, decide_true, Nat.reduceLT, Bool.and_self]; done))) ?_
    intro k hk J hJ
    have i1 : ((k : Int) < (n : Int)) := by omega
    rcases Nat.lt_or_ge k i0 with hlt | hge
    · obtain ⟨x, hx⟩ := idx_all (show k < l.length by omega)
      have hne := hlo k x hlt hx
      have hq := hpx x
      rw [hne] at hq
      have hw := wrapn (n := k) (by omega)
      have hs : whoS p l (k + 1) = whoS p l k := by rw [whoS, hx]; simp [hne]
      (repeat' first | refine LOps.done ?_ | (apply LOps.mv; (focus (first | exact Goes.free | exact Goes.on rfl rfl (by with_reducible rfl) true (by decide))); (focus (exact rfl)); (focus (exact rfl))) | (apply LOps.asg; (focus (first | exact Goes.free | exact Goes.on rfl rfl (by with_reducible rfl) true (by decide))); (focus (exact rfl)); (focus (exact rfl))) | (apply LOps.loc; (focus (first | exact Goes.free | exact Goes.on rfl rfl (by with_reducible rfl) true (by decide))); (focus (exact rfl)); (focus (exact rfl)); (focus (simp only [go_sem, ↓reduceIte, Nat.reduceEqDiff, reduceCtorEq, Nat.reduceLT, Nat.reduceAdd, i1, hx, hw, hn, hq, cJ_eq]; with_reducible rfl))) | refine LK.seq ?_ | refine LK.skip ?_ | refine LK.block ?_ | refine LK.blk ?_ | refine LK.fin ?_ | refine LK.ret' ?_ | (apply LK.condT2; (focus (exact rfl)); (focus (with_reducible rfl)); (focus (first | with_reducible rfl | decide | (with_reducible exact Bool.true_or _) | (with_reducible exact congrArg (fun b => b || _) (Bool.true_or _))))) | (apply LK.condF2; (focus (exact rfl)); (focus (with_reducible rfl)); (focus (first | with_reducible rfl | decide | (with_reducible exact Bool.false_and _) | (with_reducible exact congrArg (fun b => b && _) (Bool.false_and _))))) | refine LK.regc ?_ | (apply retQ; (focus (first | exact lres_one rfl | exact lres_more rfl | (simp only [lres, lresv, Try.results37, Try.results28, go_sem, ↓reduceIte, Nat.reduceEqDiff, reduceCtorEq, Nat.reduceLT, Nat.reduceAdd, Int.reduceBEq, Int.reduceBNe, Int.reduceEq, Int.reduceLE, Int.reduceLT, Int.reduceToNat, Nat.reduceLeDiff, Nat.reduceMul, Nat.reduceSub, i1, hx, hw, hn, hq, cJ_eq]; exact rfl)))) | ((apply LOps.inline; (focus (first | exact Goes.free | exact Goes.on rfl rfl (by with_reducible rfl) true (by decide))); (focus (exact rfl)); (focus (exact rfl)); (focus (simp only [go_sem, ↓reduceIte, Nat.reduceEqDiff]; exact rfl)); (focus (simp only [go_sem]))); (first | (refine LCalls.enter Try.func28 rfl (by simp [Try.ntmps28]) (LK.start ?_); simp only [Try.ntmps28, enterA, Nat.zero_add]) | fail)) | fail)
      apply hJ
      refine ⟨k + 1, hlt, by omega, ?_⟩
      rw [hs]
      exact (Sub.by rfl rfl (by first | rfl | (simp only [subB, oF_all_under, LV.under, LV.unders, LO.under, List.all_cons, List.all_nil, decide_true, Nat.reduceLT, Bool.and_self]; done)))
    · obtain rfl : k = i0 := by omega
      have hw := wrapn (n := k) (by omega)
      have hm1 : ((k : Int) == -1) = false := by rw [beq_eq_false_iff_ne]; omega
      have w0 : whoS p l k = [] := whoS_first fun m x hm hx => hlo m x hm hx
      have w1 : whoS p l (k + 1) = [y.2] := by rw [whoS, hi, w0]; simp [hy]
      have hmx0 : 0 + 1 ≤ maxLen ∧ (0 + 1) * 8 ≤ 140737488355328 := by simp only [maxLen]; omega
      rw [w0]
      have hap0 : oF (cI .i64) [] ++ [[vi y.2]] = oF (cI .i64) [y.2] := by simp [oF, rF, cI]
      (repeat' first | refine LOps.done ?_ | (apply LOps.mv; (focus (first | exact Goes.free | exact Goes.on rfl rfl (by with_reducible rfl) true (by decide))); (focus (exact rfl)); (focus (exact rfl))) | (apply LOps.asg; (focus (first | exact Goes.free | exact Goes.on rfl rfl (by with_reducible rfl) true (by decide))); (focus (exact rfl)); (focus (exact rfl))) | (apply LOps.loc; (focus (first | exact Goes.free | exact Goes.on rfl rfl (by with_reducible rfl) true (by decide))); (focus (exact rfl)); (focus (exact rfl)); (focus (simp only [go_sem, ↓reduceIte, Nat.reduceEqDiff, reduceCtorEq, Nat.reduceLT, Nat.reduceAdd, Nat.reduceLeDiff, i1, hi, hw, hn, hm1, hqy, cJ_eq, hmx0]; with_reducible rfl))) | (apply LOps.loc0; (focus (first | exact Goes.free | exact Goes.on rfl rfl (by with_reducible rfl) true (by decide))); (focus (exact rfl)); (focus (simp only [go_sem, ↓reduceIte, Nat.reduceEqDiff, reduceCtorEq, Nat.reduceLT]; with_reducible rfl))) | refine LK.seq ?_ | refine LK.skip ?_ | refine LK.block ?_ | refine LK.ret' ?_ | (apply LK.condT2; (focus (exact rfl)); (focus (with_reducible rfl)); (focus (first | with_reducible rfl | decide | (with_reducible exact Bool.true_or _) | (with_reducible exact congrArg (fun b => b || _) (Bool.true_or _))))) | (apply LK.condF2; (focus (exact rfl)); (focus (with_reducible rfl)); (focus (first | with_reducible rfl | decide | (with_reducible exact Bool.false_and _) | (with_reducible exact congrArg (fun b => b && _) (Bool.false_and _))))) | refine LK.regc ?_ | (apply retQ; (focus (first | exact lres_one rfl | exact lres_more rfl | (simp only [lres, lresv, Try.results37, Try.results27, Try.results28, go_sem, ↓reduceIte, Nat.reduceEqDiff, reduceCtorEq, Nat.reduceLT, Nat.reduceAdd, Int.reduceBEq, Int.reduceBNe, Int.reduceEq, Int.reduceLE, Int.reduceLT, Int.reduceToNat, Nat.reduceLeDiff, Nat.reduceMul, Nat.reduceSub, i1, hi, hw, hn, hm1, ht, hqy, cJ_eq, hmx0, hap0]; exact rfl)))) | ((apply LOps.inline; (focus (first | exact Goes.free | exact Goes.on rfl rfl (by with_reducible rfl) true (by decide))); (focus (exact rfl)); (focus (exact rfl)); (focus (simp only [go_sem, ↓reduceIte, Nat.reduceEqDiff]; exact rfl)); (focus (simp only [go_sem]))); (first | (refine LCalls.enter Try.func28 rfl (by simp [Try.ntmps28]) (LK.start ?_); simp only [Try.ntmps28, enterA, Nat.zero_add]) | fail)) | fail)
      have h0 : del p l k = (l, k) := del_first (by omega) hlo
      have h00 : del p l (k + 1) = (l, k) := by rw [del, hi]; simp [h0, hy]
      refine LK.loop (fun j : Nat => n - j) (fun j => k + 1 ≤ j ∧ j ≤ n) (fun j => ⟨42, [(0, .own 3 n 0 n), (1, .fn (.func 28) [.ptr 0 1 0 0, .ptr 1 1 0 0]), (5, vi ((del p l j).2 : Nat)), (6, vi j)]⟩) (fun j => [(3, .arr 2 (oF cJ (del p l j).1)), (0, .arr 1 [[vi me]]), (1, .arr 1 [[.own 2 (whoS p l j).length 0 (whoS p l j).length]]), (2, .arr 1 (oF (cI .i64) (whoS p l j)))]) (k + 1) ⟨Nat.le_refl _, by omega⟩ (by dsimp only; rw [h00, w1]; exact (Sub.by rfl rfl (by first | rfl | (simp only [subB, oF_all_under, LV.under, LV.unders, LO.under, List.all_cons, List.all_nil, decide_true, Nat.reduceLT, Bool.and_self]; done)))) ?_
      rintro j ⟨hj1, hj2⟩ J' hJ'
      obtain ⟨d1, d2, d3, d4⟩ := del_inv p l j (by omega)
      have htj : (del p l j).1.take n = (del p l j).1 := List.take_of_length_le (by omega)
      rcases Nat.lt_or_ge j n with hlt | hge2
      · obtain ⟨x, hx⟩ := idx_all (show j < l.length by omega)
        have hxd : (del p l j).1[j]? = some x := by rw [d3 j d2]; exact hx
        have c1 : ((j : Int) < (n : Int)) := by omega
        have c2 : (((del p l j).2 : Nat) : Int) < (n : Int) := by omega
        have hwj := wrapn (n := j) (by omega)
        have hwi := wrapn (n := (del p l j).2) (by omega)
        obtain ⟨z, hz⟩ := idx_all (show (del p l j).2 < (del p l j).1.length by omega)
        have hwl := whoS_len p l j
        have hmx : (whoS p l j).length + 1 ≤ maxLen ∧ ((whoS p l j).length + 1) * 8 ≤ 140737488355328 := by simp only [maxLen]; omega
        have htw : (whoS p l j).take (whoS p l j).length = whoS p l j := List.take_length
        cases e : p x with
        | true =>
          have hq := hpx x
          rw [e] at hq
          have hs : del p l (j + 1) = del p l j := by rw [del, hx]; simp [e]
          have hsw : whoS p l (j + 1) = whoS p l j ++ [x.2] := by rw [whoS, hx]; simp [e]
          have hap : oF (cI .i64) (whoS p l j) ++ [[vi x.2]] = oF (cI .i64) (whoS p l j ++ [x.2]) := by simp [oF, rF, cI]
          rw [hn] at d1
          (repeat' first | refine LOps.done ?_ | (apply LOps.mv; (focus (first | exact Goes.free | exact Goes.on rfl rfl (by with_reducible rfl) true (by decide))); (focus (exact rfl)); (focus (exact rfl))) | (apply LOps.asg; (focus (first | exact Goes.free | exact Goes.on rfl rfl (by with_reducible rfl) true (by decide))); (focus (exact rfl)); (focus (exact rfl))) | (apply LOps.loc; (focus (first | exact Goes.free | exact Goes.on rfl rfl (by with_reducible rfl) true (by decide))); (focus (exact rfl)); (focus (exact rfl)); (focus (simp only [go_sem, ↓reduceIte, Nat.reduceEqDiff, reduceCtorEq, Nat.reduceLT, Nat.reduceAdd, Nat.reduceLeDiff, c1, hxd, hwj, d1, htj, hq, cJ_eq, hmx, hap]; with_reducible rfl))) | (apply LOps.loc0; (focus (first | exact Goes.free | exact Goes.on rfl rfl (by with_reducible rfl) true (by decide))); (focus (exact rfl)); (focus (simp only [go_sem, ↓reduceIte, Nat.reduceEqDiff, reduceCtorEq, Nat.reduceLT, Nat.reduceAdd]; with_reducible rfl))) | refine LK.seq ?_ | refine LK.skip ?_ | refine LK.block ?_ | refine LK.blk ?_ | refine LK.fin ?_ | refine LK.ret' ?_ | (apply LK.condT2; (focus (exact rfl)); (focus (with_reducible rfl)); (focus (first | with_reducible rfl | decide | (with_reducible exact Bool.true_or _) | (with_reducible exact congrArg (fun b => b || _) (Bool.true_or _))))) | (apply LK.condF2; (focus (exact rfl)); (focus (with_reducible rfl)); (focus (first | with_reducible rfl | decide | (with_reducible exact Bool.false_and _) | (with_reducible exact congrArg (fun b => b && _) (Bool.false_and _))))) | refine LK.regc ?_ | (apply retQ; (focus (first | exact lres_one rfl | exact lres_more rfl | (simp only [lres, lresv, Try.results27, Try.results28, go_sem, ↓reduceIte, Nat.reduceEqDiff, reduceCtorEq, Nat.reduceLT, Nat.reduceAdd, Int.reduceBEq, Int.reduceBNe, Int.reduceEq, Int.reduceLE, Int.reduceLT, Int.reduceToNat, Nat.reduceLeDiff, Nat.reduceMul, Nat.reduceSub, c1, c2, hxd, hwj, hwi, d1, htj, hz, hq, cJ_eq, hmx, hap, htw]; exact rfl)))) | ((apply LOps.inline; (focus (first | exact Goes.free | exact Goes.on rfl rfl (by with_reducible rfl) true (by decide))); (focus (exact rfl)); (focus (exact rfl)); (focus (simp only [go_sem, ↓reduceIte, Nat.reduceEqDiff]; exact rfl)); (focus (simp only [go_sem]))); (first | (refine LCalls.enter Try.func28 rfl (by simp [Try.ntmps28]) (LK.start ?_); simp only [Try.ntmps28, enterA, Nat.zero_add]) | fail)) | fail)
          apply hJ'
          refine ⟨j + 1, ⟨by omega, by omega⟩, by omega, ?_⟩
          dsimp only
          rw [hs, hsw]
          rw [List.length_append, List.length_singleton]
          exact (Sub.by rfl rfl (by first | rfl | (simp only [subB, oF_all_under, LV.under, LV.unders, LO.under, List.all_cons, List.all_nil, decide_true, Nat.reduceLT, Bool.and_self]; done)))
        | false =>
          have hq := hpx x
          rw [e] at hq
          have hs : del p l (j + 1) = ((del p l j).1.set (del p l j).2 x, (del p l j).2 + 1) := by rw [del, hx]; simp [e]
          have hsw : whoS p l (j + 1) = whoS p l j := by rw [whoS, hx]; simp [e]
          rw [hn] at d1
          (repeat' first | refine LOps.done ?_ | (apply LOps.mv; (focus (first | exact Goes.free | exact Goes.on rfl rfl (by with_reducible rfl) true (by decide))); (focus (exact rfl)); (focus (exact rfl))) | (apply LOps.asg; (focus (first | exact Goes.free | exact Goes.on rfl rfl (by with_reducible rfl) true (by decide))); (focus (exact rfl)); (focus (exact rfl))) | (apply LOps.loc; (focus (first | exact Goes.free | exact Goes.on rfl rfl (by with_reducible rfl) true (by decide))); (focus (exact rfl)); (focus (exact rfl)); (focus (simp only [go_sem, ↓reduceIte, Nat.reduceEqDiff, reduceCtorEq, Nat.reduceLT, Nat.reduceAdd, c1, c2, hxd, hwj, hwi, d1, htj, hq, cJ_eq]; with_reducible rfl))) | (apply LOps.loc0; (focus (first | exact Goes.free | exact Goes.on rfl rfl (by with_reducible rfl) true (by decide))); (focus (exact rfl)); (focus (simp only [go_sem, ↓reduceIte, Nat.reduceEqDiff, reduceCtorEq, Nat.reduceLT, Nat.reduceAdd, d1, hz, cJ_eq, oJ_set]; with_reducible rfl))) | refine LK.seq ?_ | refine LK.skip ?_ | refine LK.block ?_ | refine LK.blk ?_ | refine LK.fin ?_ | refine LK.ret' ?_ | (apply LK.condT2; (focus (exact rfl)); (focus (with_reducible rfl)); (focus (first | with_reducible rfl | decide | (with_reducible exact Bool.true_or _) | (with_reducible exact congrArg (fun b => b || _) (Bool.true_or _))))) | (apply LK.condF2; (focus (exact rfl)); (focus (with_reducible rfl)); (focus (first | with_reducible rfl | decide | (with_reducible exact Bool.false_and _) | (with_reducible exact congrArg (fun b => b && _) (Bool.false_and _))))) | refine LK.regc ?_ | (apply retQ; (focus (first | exact lres_one rfl | exact lres_more rfl | (simp only [lres, lresv, Try.results27, Try.results28, go_sem, ↓reduceIte, Nat.reduceEqDiff, reduceCtorEq, Nat.reduceLT, Nat.reduceAdd, Int.reduceBEq, Int.reduceBNe, Int.reduceEq, Int.reduceLE, Int.reduceLT, Int.reduceToNat, Nat.reduceLeDiff, Nat.reduceMul, Nat.reduceSub, c1, c2, hxd, hwj, hwi, d1, htj, hz, hq, cJ_eq, oJ_set]; exact rfl)))) | ((apply LOps.inline; (focus (first | exact Goes.free | exact Goes.on rfl rfl (by with_reducible rfl) true (by decide))); (focus (exact rfl)); (focus (exact rfl)); (focus (simp only [go_sem, ↓reduceIte, Nat.reduceEqDiff]; exact rfl)); (focus (simp only [go_sem]))); (first | (refine LCalls.enter Try.func28 rfl (by simp [Try.ntmps28]) (LK.start ?_); simp only [Try.ntmps28, enterA, Nat.zero_add]) | fail)) | fail)
          apply hJ'
          refine ⟨j + 1, ⟨by omega, by omega⟩, by omega, ?_⟩
          dsimp only
          rw [hs, hsw]
          dsimp only
          exact (Sub.by rfl rfl (by first | rfl | (simp only [subB, oF_all_under, LV.under, LV.unders, LO.under, List.all_cons, List.all_nil, decide_true, Nat.reduceLT, Bool.and_self]; done)))
      · obtain rfl : j = n := by omega
        have c1 : ¬ ((j : Int) < (j : Int)) := by omega
        have hdn : (del p l j).2 = delN p l := by rw [delN, hn]
        have hdnl := delN_le p l
        have c2 : ((delN p l : Nat) : Int) ≤ (j : Int) := by omega
        have c3 : delN p l ≤ j := by omega
        have c4 : (0 : Int) ≤ ((delN p l : Nat) : Int) := by omega
        have c5 : delN p l + (j - delN p l) = j := by omega
        have hL : (del p l j).1.take (delN p l) ++ List.replicate (j - delN p l) (0, 0) = delL p l := by rw [delL, hn]
        rw [hn] at d1
        rw [hdn]
        have d5 : (del p l j).1.drop j = [] := List.drop_eq_nil_of_le (by omega)
        have hdl : (delL p l).length = j := by rw [delL_len, hn]
        have hrz : List.replicate (j - delN p l) [vi 0, vi 0] = oF cJ (List.replicate (j - delN p l) (0, 0)) := by simp [oF, rF, cJ]
        (repeat' first | refine LOps.done ?_ | (apply LOps.mv; (focus (first | exact Goes.free | exact Goes.on rfl rfl (by with_reducible rfl) true (by decide))); (focus (exact rfl)); (focus (exact rfl))) | (apply LOps.asg; (focus (first | exact Goes.free | exact Goes.on rfl rfl (by with_reducible rfl) true (by decide))); (focus (exact rfl)); (focus (exact rfl))) | (apply LOps.loc; (focus (first | exact Goes.free | exact Goes.on rfl rfl (by with_reducible rfl) true (by decide))); (focus (exact rfl)); (focus (exact rfl)); (focus (simp only [go_sem, ↓reduceIte, Nat.reduceEqDiff, c1, c3, c4, d1, htj, hdl]; with_reducible rfl))) | (apply LOps.loc0; (focus (first | exact Goes.free | exact Goes.on rfl rfl (by with_reducible rfl) true (by decide))); (focus (exact rfl)); (focus (simp only [go_sem, ↓reduceIte, Nat.reduceLT, Nat.reduceAdd, c5, d1, d5, hL, hrz]; with_reducible rfl))) | refine LK.seq ?_ | refine LK.ret' ?_ | refine LK.exit' rfl ?_ | (apply LK.condF2; (focus (exact rfl)); (focus (with_reducible rfl)); (focus (first | with_reducible rfl | decide | (with_reducible exact Bool.false_and _) | (with_reducible exact congrArg (fun b => b && _) (Bool.false_and _))))) | refine LK.regc ?_ | (apply retQ; (focus (first | exact lres_one rfl | exact lres_more rfl | (simp only [lres, lresv, Try.results27, go_sem, ↓reduceIte, Nat.reduceEqDiff, reduceCtorEq, Nat.reduceLT, Nat.reduceAdd, Int.reduceBEq, Int.reduceBNe, Int.reduceEq, Int.reduceLE, Int.reduceLT, Int.reduceToNat, Nat.reduceLeDiff, Nat.reduceMul, Nat.reduceSub, c1, c2, c3, c4, c5, d1, htj, d5, hL, hdl, hrz]; exact rfl)))) | fail)
        all_goals exact ⟨rfl, rfl⟩
end Go.Proofs.Ytoppnepjemhckaa
