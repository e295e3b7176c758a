/- The walks of chapter 14: the law LodgeDoes. -/
import Derived.Test.YtflcdaafhopkkaaL13
set_option linter.unusedSimpArgs false
set_option linter.unusedVariables false
namespace Go.Proofs.Ytflcdaafhopkkaa
open Go.Lw
attribute [local irreducible] LK LOps LW
set_option maxHeartbeats 4000000 in
set_option maxRecDepth 10000 in
theorem admit_own (l : List Ten) (k : Nat) (x : Ten) (hc : chk l = 0) (hx : l[k]? = some x) (hq : x.v ≠ x.q) : Own Try.prog 7 [sT l, vi k] (.tup [.own 0 l.length 0 l.length, vi 0]) 20 [(0, .arr 5 (oF cT (l.set k { x with v := x.v + 1 })))] := by
  obtain ⟨h1, h2, h3⟩ := chk_len hc
  have hlt2 := lt_of_get hx
  unfold Own
  refine LCalls.kind (l := []) (fun h0 => absurd h0 (rT_ne h1)) ?_
  have hck := check_fun .loose l (by omega)
  rw [hc] at hck
  have hxo := not_odd (h3 x (List.mem_of_getElem? hx))
  have hcc : (decide ((k : Int) < 0) || decide ((k : Int) ≥ (l.length : Int))) = false := by simp only [Bool.or_eq_false_iff, decide_eq_false_iff_not]; omega
  have hlt : ((k : Int) < (l.length : Int)) := by omega
  have hm : l.length ≤ maxLen ∧ l.length * 40 ≤ 140737488355328 := by simp only [maxLen]; omega
  have hpos : 0 < l.length := h1
  have hw : IntKind.i64.wrap (x.v + 1) = x.v + 1 := by rw [IntKind.wrap_i64]; omega
  have hq2 : (x.v == x.q) = false := by simpa using hq
  (refine LCalls.enter Try.func7 rfl (by simp [Try.ntmps7]) (LK.start ?_); simp only [Try.ntmps7, enterA, Nat.zero_add, List.nil_append])
  (repeat' first | refine LOps.done ?_ | (apply LOps.mv; (focus (first | exact Goes.free | exact Goes.on rfl rfl (by with_reducible rfl) true (by decide))); (focus (exact rfl)); (focus (exact rfl))) | (apply LOps.asg; (focus (first | exact Goes.free | exact Goes.on rfl rfl (by with_reducible rfl) true (by decide))); (focus (exact rfl)); (focus (exact rfl))) | (apply LOps.loc; (focus (first | exact Goes.free | exact Goes.on rfl rfl (by with_reducible rfl) true (by decide))); (focus (exact rfl)); (focus (exact rfl)); (focus (simp only [go_sem, ↓reduceIte, Nat.reduceEqDiff, reduceCtorEq, Int.reduceBNe]; with_reducible rfl))) | (apply LOps.pass; (focus (first | exact Goes.on rfl rfl (by with_reducible rfl) false (by decide) | exact Goes.undef rfl rfl (by with_reducible rfl))); (focus (exact rfl))) | (apply LOps.scEnd; (focus (exact rfl)); (focus (with_reducible rfl))) | refine LK.seq ?_ | refine LK.skip ?_ | (apply LK.condF2; (focus (exact rfl)); (focus (with_reducible rfl)); (focus (first | with_reducible rfl | decide | exact Bool.false_and _ | exact congrArg (fun b => b && _) (Bool.false_and _)))) | refine LK.regc ?_ | (apply LOps.locFn; (focus (first | exact Goes.free | exact Goes.on rfl rfl (by with_reducible rfl) true (by decide))); (focus (exact rfl)); (focus (exact rfl)); (focus (simp only [go_sem, ↓reduceIte, Nat.reduceEqDiff]; exact rfl)); (focus (simp only [go_sem])); (focus (exact hck)); (focus (first | rfl | simp [go_sem])); (focus (first | rfl | simp [go_sem]))) | ((apply LOps.inline; (focus (first | exact Goes.free | exact Goes.on rfl rfl (by with_reducible rfl) true (by decide))); (focus (exact rfl)); (focus (exact rfl)); (focus (simp only [go_sem, ↓reduceIte, Nat.reduceEqDiff]; exact rfl)); (focus (simp only [go_sem]))); (first | (refine LCalls.enter Try.func21 rfl (by simp [Try.ntmps21]) (LK.start ?_); simp only [Try.ntmps21, enterA, Nat.zero_add]) | fail)) | (apply LOps.or2; exact rfl; exact rfl; exact rfl; exact rfl; exact rfl; (focus (with_reducible rfl)); (focus (first | kernel_rfl | rfl))) | refine Under.mk (fun hg => ?_) | fail)
  refine LK.condF2 rfl (by first | with_reducible rfl | rfl) (hcc) ?_
  (repeat' first | refine LOps.done ?_ | (apply LOps.mv; (focus (first | exact Goes.free | exact Goes.on rfl rfl (by with_reducible rfl) true (by decide))); (focus (exact rfl)); (focus (exact rfl))) | (apply LOps.asg; (focus (first | exact Goes.free | exact Goes.on rfl rfl (by with_reducible rfl) true (by decide))); (focus (exact rfl)); (focus (exact rfl))) | (apply LOps.ext; (focus (first | exact Goes.free | exact Goes.on rfl rfl (by with_reducible rfl) true (by decide))); (focus (exact rfl)); (focus (exact rfl)); (focus (exact rfl))) | (apply LOps.loc; (focus (first | exact Goes.free | exact Goes.on rfl rfl (by with_reducible rfl) true (by decide))); (focus (exact rfl)); (focus (exact rfl)); (focus (simp only [go_sem, ↓reduceIte, Nat.reduceEqDiff, reduceCtorEq, Nat.reduceLT, Nat.reduceAdd, Int.reduceBNe, hpos, hlt, hm, hx, hw]; with_reducible rfl))) | (apply LOps.loc0; (focus (first | exact Goes.free | exact Goes.on rfl rfl (by with_reducible rfl) true (by decide))); (focus (exact rfl)); (focus (simp only [go_sem, ↓reduceIte, Nat.reduceEqDiff, Nat.reduceLT, Nat.reduceAdd, Nat.reduceLeDiff, hx]; with_reducible rfl))) | refine LK.seq ?_ | refine LK.skip ?_ | refine LK.ret' ?_ | (apply LK.condF2; (focus (exact rfl)); (focus (with_reducible rfl)); (focus (first | with_reducible rfl | decide | exact Bool.false_and _ | exact congrArg (fun b => b && _) (Bool.false_and _)))) | refine LK.regc ?_ | (apply retQ; (focus (first | exact lres_one rfl | exact lres_more rfl | (simp only [lres, lresv, Try.results7, Try.results21, Try.results31, Try.results22, go_sem, ↓reduceIte, Nat.reduceEqDiff, reduceCtorEq, Nat.reduceLT, Nat.reduceAdd, Int.reduceBEq, Int.reduceBNe, Int.reduceEq, Int.reduceLE, Int.reduceLT, Int.reduceToNat, Nat.reduceLeDiff, Nat.reduceMul, Nat.reduceSub, hpos, hlt, hm, hx, hw, hq2]; exact rfl)))) | ((apply LOps.inline; (focus (first | exact Goes.free | exact Goes.on rfl rfl (by with_reducible rfl) true (by decide))); (focus (exact rfl)); (focus (exact rfl)); (focus (simp only [go_sem, ↓reduceIte, Nat.reduceEqDiff]; exact rfl)); (focus (simp only [go_sem]))); (first | (refine LCalls.enter Try.func31 rfl (by simp [Try.ntmps31]) (LK.start ?_); simp only [Try.ntmps31, enterA]) | (refine LCalls.enter Try.func22 rfl (by simp [Try.ntmps22]) (LK.start ?_); simp only [Try.ntmps22, enterA]) | fail)) | (apply LK.drawn3; (focus (exact Ty.mixed)); (focus ((repeat' first | exact DRun.nil _ _ _ | (apply DRun.aopS; (focus (exact rfl)); (focus (first | exact rfl | (simp only [oF_idss, objsOf, idsOf, LV.ids, LO.ids, lookB_eq, List.any_nil, cond_false, go_sem, ↓reduceIte]; exact rfl))); (focus (first | exact Goes.free | exact Goes.on rfl rfl (by with_reducible rfl) true (by decide))); (focus (simp only [go_sem, ↓reduceIte, Nat.reduceEqDiff, Nat.reduceLT, hpos, hx, hq2]; exact rfl)); (focus (exact rfl)); (focus (first | decide +kernel | (simp only [oF_all_under, oF_all_idp, evOk, ovOk, nvOk, keepOf, vis, LV.under, LV.idp, LO.under, LO.idp, List.all_cons, List.all_nil, List.any_cons, List.any_nil, beq_self_eq_true, Bool.and_true, Bool.or_false, Bool.false_or, decide_true, decide_false, Nat.reduceLT, Nat.reduceLeDiff, Bool.and_self]; done) | (simp [oF_all_under, oF_all_idp, evOk, ovOk, nvOk, keepOf, vis, LV.under, LV.idp, LO.under, LO.idp]; done)))) | fail); done)); (focus kernel_rfl); (focus (first | exact puOk_none rfl | (simp [puOk, evShape, nvShape, look, oF_len, go_sem, ↓reduceIte, Nat.reduceEqDiff, reduceCtorEq, Nat.reduceLT, Nat.reduceAdd, Int.reduceBEq, Int.reduceBNe, Int.reduceEq, Int.reduceLE, Int.reduceLT, Int.reduceToNat, Nat.reduceLeDiff, Nat.reduceMul, Nat.reduceSub, hpos, hlt, hm, hx, hw, hq2]; done))); (focus (first | (simp only [go_sem, ↓reduceIte, Nat.reduceEqDiff, reduceCtorEq, Nat.reduceLT, Nat.reduceAdd, Int.reduceBEq, Int.reduceBNe, Int.reduceEq, Int.reduceLE, Int.reduceLT, Int.reduceToNat, Nat.reduceLeDiff, Nat.reduceMul, Nat.reduceSub, hpos, hlt, hm, hx, hw, hq2]; exact rfl) | exact rfl)); (focus (first | (simp only [go_sem, ↓reduceIte, Nat.reduceEqDiff, reduceCtorEq, Nat.reduceLT, Nat.reduceAdd, Int.reduceBEq, Int.reduceBNe, Int.reduceEq, Int.reduceLE, Int.reduceLT, Int.reduceToNat, Nat.reduceLeDiff, Nat.reduceMul, Nat.reduceSub, hpos, hlt, hm, hx, hw, hq2]; exact rfl) | exact rfl)); (focus (first | (simp only [go_sem, ↓reduceIte, Nat.reduceEqDiff, reduceCtorEq, Nat.reduceLT, Nat.reduceAdd, Int.reduceBEq, Int.reduceBNe, Int.reduceEq, Int.reduceLE, Int.reduceLT, Int.reduceToNat, Nat.reduceLeDiff, Nat.reduceMul, Nat.reduceSub, hpos, hlt, hm, hx, hw, hq2]; exact rfl) | exact rfl))) | fail)
  exact Own.end (by first | rfl | (simp only [go_sem, ↓reduceIte, Nat.reduceEqDiff, reduceCtorEq, Nat.reduceLT, Nat.reduceAdd, Int.reduceBEq, Int.reduceBNe, Int.reduceEq, Int.reduceLE, Int.reduceLT, Int.reduceToNat, Nat.reduceLeDiff, Nat.reduceMul, Nat.reduceSub])) rfl rfl (by first | exact rfl | (simp only [go_sem, ↓reduceIte, Nat.reduceEqDiff, reduceCtorEq, Nat.reduceLT, Nat.reduceAdd, Int.reduceBEq, Int.reduceBNe, Int.reduceEq, Int.reduceLE, Int.reduceLT, Int.reduceToNat, Nat.reduceLeDiff, Nat.reduceMul, Nat.reduceSub]; exact rfl))
def up1 (x : Ten) : Ten := { x with v := IntKind.i64.wrap (x.v + 1) }
def inc (w : List Ten) (k : Nat) : List Ten := (w.take k).map up1 ++ w.drop k
theorem inc_zero (w : List Ten) : inc w 0 = w := by simp [inc]
theorem inc_len (w : List Ten) (k : Nat) : (inc w k).length = w.length := by simp [inc]; omega
theorem inc_get {w : List Ten} {k : Nat} {x : Ten} (hx : w[k]? = some x) : (inc w k)[k]? = some x := by
  have hk := lt_of_get hx
  rw [inc, List.getElem?_append_right (by simp; omega)]
  simp only [List.length_map, List.length_take, Nat.min_eq_left (Nat.le_of_lt hk), Nat.sub_self, List.getElem?_drop, Nat.add_zero]
  exact hx
theorem inc_set {w : List Ten} {k : Nat} {x : Ten} (hx : w[k]? = some x) : (inc w k).set k (up1 x) = inc w (k + 1) := by
  have hk := lt_of_get hx
  have e : w.drop k = x :: w.drop (k + 1) := by
    rw [List.drop_eq_getElem_cons hk]
    rw [List.getElem?_eq_getElem hk] at hx
    rw [Option.some.inj hx]
  simp only [inc]
  rw [List.set_append_right _ _ (by simp; omega), List.take_add_one, hx, e]
  simp only [List.length_map, List.length_take, Nat.min_eq_left (Nat.le_of_lt hk), Nat.sub_self, List.set_cons_zero, Option.toList_some, List.map_append, List.map_cons, List.map_nil, List.append_assoc, List.cons_append, List.nil_append]
set_option maxHeartbeats 4000000 in
set_option maxRecDepth 10000 in
theorem does_skip (w q : List Int) (l o : List Ten) (i u : Int) (h : 100 < w.length ∨ 100 < q.length ∨ 100 < l.length ∨ 100 < o.length) : Fun Try.prog 5 [sI w, sI q, sT l, sT o, vi i, vi u] (vb true) := by
  have hc : (decide ((w.length : Int) > 100) || decide ((q.length : Int) > 100) || decide ((l.length : Int) > 100) || decide ((o.length : Int) > 100)) = true := by simp only [Bool.or_eq_true, decide_eq_true_eq]; omega
  (refine LCalls.enter Try.func5 rfl (by simp [Try.ntmps5]) (LK.start ?_); simp only [Try.ntmps5, enterA, Nat.zero_add])
  (repeat' first | refine LOps.done ?_ | (apply LOps.mv; (focus (first | exact Goes.free | exact Goes.on rfl rfl (by with_reducible rfl) true (by decide))); (focus (exact rfl)); (focus (exact rfl))) | (apply LOps.asg; (focus (first | exact Goes.free | exact Goes.on rfl rfl (by with_reducible rfl) true (by decide))); (focus (exact rfl)); (focus (exact rfl))) | (apply LOps.loc; (focus (first | exact Goes.free | exact Goes.on rfl rfl (by with_reducible rfl) true (by decide))); (focus (exact rfl)); (focus (exact rfl)); (focus (simp only [go_sem, ↓reduceIte, Nat.reduceEqDiff, reduceCtorEq]; with_reducible rfl))) | (apply LOps.pass; (focus (first | exact Goes.on rfl rfl (by with_reducible rfl) false (by decide) | exact Goes.undef rfl rfl (by with_reducible rfl))); (focus (exact rfl))) | (apply LOps.scEnd; (focus (exact rfl)); (focus (with_reducible rfl))) | refine LK.seq ?_ | refine LK.skip ?_ | (apply LK.condF2; (focus (exact rfl)); (focus (with_reducible rfl)); (focus (first | with_reducible rfl | decide | exact Bool.false_and _ | exact congrArg (fun b => b && _) (Bool.false_and _)))) | refine LK.regc ?_ | (apply LOps.locFn; (focus (first | exact Goes.free | exact Goes.on rfl rfl (by with_reducible rfl) true (by decide))); (focus (exact rfl)); (focus (exact rfl)); (focus (simp only [go_sem]; exact rfl)); (focus (simp only [go_sem])); (focus (exact live_fun)); (focus (first | rfl | simp [go_sem])); (focus (first | rfl | simp [go_sem]))) | (apply LOps.or2; exact rfl; exact rfl; exact rfl; exact rfl; exact rfl; (focus (with_reducible rfl)); (focus (first | kernel_rfl | rfl))) | refine Under.mk (fun hg => ?_) | fail)
  refine LK.condT2 rfl (by first | with_reducible rfl | rfl) (hc) ?_
  (repeat' first | refine LOps.done ?_ | (apply LOps.mv; (focus (first | exact Goes.free | exact Goes.on rfl rfl (by with_reducible rfl) true (by decide))); (focus (exact rfl)); (focus (exact rfl))) | (apply LOps.asg; (focus (first | exact Goes.free | exact Goes.on rfl rfl (by with_reducible rfl) true (by decide))); (focus (exact rfl)); (focus (exact rfl))) | refine LK.seq ?_ | refine LK.ret' ?_ | refine LK.regc ?_ | (apply retQ; (focus (first | exact lres_one rfl | exact lres_more rfl | (simp only [lres, lresv, Try.results5, go_sem, ↓reduceIte, Nat.reduceEqDiff, reduceCtorEq, Nat.reduceLT, Nat.reduceAdd, Int.reduceBEq, Int.reduceBNe, Int.reduceEq, Int.reduceLE, Int.reduceLT, Int.reduceToNat, Nat.reduceLeDiff, Nat.reduceMul, Nat.reduceSub]; exact rfl)))) | fail)
  all_goals rfl
theorem nw_len (w q : List Int) (h : w.length ≤ 100) : (nwL w q).length ≤ 100 := by
  unfold nwL
  split
  · rw [newT, newTo_len]; exact h
  · simp
theorem le_len (l : List Ten) (i : Int) (h : l.length ≤ 100) : (leL l i).length ≤ 100 := by
  unfold leL
  split
  · split
    · rw [List.length_set]; exact h
    · simp
  · simp
theorem co_len (l : List Ten) (i u : Int) (h : l.length ≤ 100) : (coL l i u).length ≤ 100 := by
  unfold coL
  split
  · split
    · rw [List.length_set]; exact h
    · simp
  · simp
set_option maxHeartbeats 4000000 in
set_option maxRecDepth 20000 in
theorem does_ok (w q : List Int) (l o : List Ten) (i u : Int) (h1 : w.length ≤ 100) (h2 : q.length ≤ 100) (h3 : l.length ≤ 100) (h4 : o.length ≤ 100) (A : List Ten) (m : Nat) (hA : A.length = m) (hm : m ≤ 100)
    (hT : Own Try.prog 7 [sT l, vi i] (.tup [.own 0 m 0 m, vi 0]) 20 [(0, .arr 5 (oF cT A))])
    (hR : Fun Try.prog 14 [sT l, vi i] (.tup [sT A, vi 0])) : Fun Try.prog 5 [sI w, sI q, sT l, sT o, vi i, vi u] (vb true) := by
  have hc : (decide ((w.length : Int) > 100) || decide ((q.length : Int) > 100) || decide ((l.length : Int) > 100) || decide ((o.length : Int) > 100)) = false := by simp only [Bool.or_eq_false_iff, decide_eq_false_iff_not]; omega
  have hmx : l.length ≤ maxLen ∧ l.length * 40 ≤ 140737488355328 := by simp only [maxLen]; omega
  have hct : A.take m = A := List.take_of_length_le (by omega)
  have q1 := new_fun w q (by omega) (by omega)
  have q2 := rnew_fun w q (by omega)
  have q3 := leave_fun l i (by omega)
  have q4 := rleave_fun l i (by omega)
  have q5 := count_fun l i u (by omega)
  have q6 := rcount_fun l i u (by omega)
  have q7 := all_fun l (by omega)
  have q8 := rall_fun l (by omega)
  have q9 := check_fun .any l (by omega)
  have q10 := rcheck_fun l (by omega)
  have q11 := same_fun l o (by omega)
  have q12 := rsame_fun l o (by omega)
  have u1 := rsame_fun (nwL w q) (nwL w q) (by have := nw_len w q h1; omega)
  have u2 := rsame_fun A A (by omega)
  have u3 := rsame_fun (leL l i) (leL l i) (by have := le_len l i h3; omega)
  have u4 := rsame_fun (coL l i u) (coL l i u) (by have := co_len l i u h3; omega)
  have u5 := rsame_fun l l (by omega)
  simp only [decide_true] at u1 u2 u3 u4 u5
  generalize nwL w q = b1 at *
  generalize nwE w q = b2 at *
  generalize leL l i = b3 at *
  generalize leE l i = b4 at *
  generalize coL l i u = b5 at *
  generalize coE l i u = b6 at *
  generalize alV l = b7 at *
  generalize alR l = b8 at *
  generalize chk l = b9 at *
  generalize decide (l = o) = b10 at *
  (refine LCalls.enter Try.func5 rfl (by simp [Try.ntmps5]) (LK.start ?_); simp only [Try.ntmps5, enterA, Nat.zero_add])
  (repeat' first | refine LOps.done ?_ | (apply LOps.mv; (focus (first | exact Goes.free | exact Goes.on rfl rfl (by with_reducible rfl) true (by decide))); (focus (exact rfl)); (focus (exact rfl))) | (apply LOps.asg; (focus (first | exact Goes.free | exact Goes.on rfl rfl (by with_reducible rfl) true (by decide))); (focus (exact rfl)); (focus (exact rfl))) | (apply LOps.loc; (focus (first | exact Goes.free | exact Goes.on rfl rfl (by with_reducible rfl) true (by decide))); (focus (exact rfl)); (focus (exact rfl)); (focus (simp only [go_sem, ↓reduceIte, Nat.reduceEqDiff, reduceCtorEq]; with_reducible rfl))) | (apply LOps.pass; (focus (first | exact Goes.on rfl rfl (by with_reducible rfl) false (by decide) | exact Goes.undef rfl rfl (by with_reducible rfl))); (focus (exact rfl))) | (apply LOps.scEnd; (focus (exact rfl)); (focus (with_reducible rfl))) | refine LK.seq ?_ | refine LK.skip ?_ | (apply LK.condF2; (focus (exact rfl)); (focus (with_reducible rfl)); (focus (first | with_reducible rfl | decide | exact Bool.false_and _ | exact congrArg (fun b => b && _) (Bool.false_and _)))) | refine LK.regc ?_ | (apply LOps.locFn; (focus (first | exact Goes.free | exact Goes.on rfl rfl (by with_reducible rfl) true (by decide))); (focus (exact rfl)); (focus (exact rfl)); (focus (simp only [go_sem]; exact rfl)); (focus (simp only [go_sem])); (focus (exact live_fun)); (focus (first | rfl | simp [go_sem])); (focus (first | rfl | simp [go_sem]))) | (apply LOps.or2; exact rfl; exact rfl; exact rfl; exact rfl; exact rfl; (focus (with_reducible rfl)); (focus (first | kernel_rfl | rfl))) | refine Under.mk (fun hg => ?_) | fail)
  refine LK.condF2 rfl (by first | with_reducible rfl | rfl) (hc) ?_
  (repeat' first | refine LOps.done ?_ | (apply LOps.mv; (focus (first | exact Goes.free | exact Goes.on rfl rfl (by with_reducible rfl) true (by decide))); (focus (exact rfl)); (focus (exact rfl))) | (apply LOps.asg; (focus (first | exact Goes.free | exact Goes.on rfl rfl (by with_reducible rfl) true (by decide))); (focus (exact rfl)); (focus (exact rfl))) | (apply LOps.ext; (focus (first | exact Goes.free | exact Goes.on rfl rfl (by with_reducible rfl) true (by decide))); (focus (exact rfl)); (focus (exact rfl)); (focus (exact rfl))) | (apply LOps.loc; (focus (first | exact Goes.free | exact Goes.on rfl rfl (by with_reducible rfl) true (by decide))); (focus (exact rfl)); (focus (exact rfl)); (focus (simp only [go_sem, ↓reduceIte, Nat.reduceEqDiff, reduceCtorEq, Nat.reduceLT, Nat.reduceAdd, hmx, hA, hct]; with_reducible rfl))) | refine LK.seq ?_ | refine LK.skip ?_ | refine LK.block ?_ | refine LK.regc ?_ | (apply LOps.locFn; (focus (first | exact Goes.free | exact Goes.on rfl rfl (by with_reducible rfl) true (by decide))); (focus (exact rfl)); (focus (exact rfl)); (focus (simp only [go_sem, ↓reduceIte, Nat.reduceEqDiff]; exact rfl)); (focus (simp only [go_sem])); (focus (first | exact q1 | exact q2 | exact Own.at (hT) (by first | rfl | simp [go_sem]) (by first | (simp only [go_sem]; exact rfl) | (simp only [go_sem, ↓reduceIte, Nat.reduceEqDiff, reduceCtorEq, Nat.reduceLT, Nat.reduceAdd, Int.reduceBEq, Int.reduceBNe, Int.reduceEq, Int.reduceLE, Int.reduceLT, Int.reduceToNat, Nat.reduceLeDiff, Nat.reduceMul, Nat.reduceSub, hmx, hA, hct] <;> fail) | exact rfl) (by first | (simp only [go_sem, ↓reduceIte, Nat.reduceEqDiff, reduceCtorEq, Nat.reduceLT, Nat.reduceAdd, Int.reduceBEq, Int.reduceBNe, Int.reduceEq, Int.reduceLE, Int.reduceLT, Int.reduceToNat, Nat.reduceLeDiff, Nat.reduceMul, Nat.reduceSub, hmx, hA, hct]; exact rfl) | (simp only [go_sem, ↓reduceIte, Nat.reduceEqDiff, reduceCtorEq, Nat.reduceLT, Nat.reduceAdd, Int.reduceBEq, Int.reduceBNe, Int.reduceEq, Int.reduceLE, Int.reduceLT, Int.reduceToNat, Nat.reduceLeDiff, Nat.reduceMul, Nat.reduceSub, hmx, hA, hct] <;> fail) | exact rfl) (by first | (simp only [go_sem]; exact rfl) | (simp only [go_sem, ↓reduceIte, Nat.reduceEqDiff, reduceCtorEq, Nat.reduceLT, Nat.reduceAdd, Int.reduceBEq, Int.reduceBNe, Int.reduceEq, Int.reduceLE, Int.reduceLT, Int.reduceToNat, Nat.reduceLeDiff, Nat.reduceMul, Nat.reduceSub, hmx, hA, hct] <;> fail) | exact rfl) | exact hR | exact q3 | exact q4 | exact q5 | exact q6 | exact q7 | exact q8 | exact q9 | exact q10 | exact q11 | exact q12 | exact u1 | exact u2 | exact u3 | exact u4)); (focus (first | rfl | simp [go_sem])); (focus (first | rfl | simp [go_sem]))) | (apply LOps.borrowFn; (focus (first | exact Goes.free | exact Goes.on rfl rfl (by with_reducible rfl) true (by decide))); (focus (exact rfl)); (focus (exact rfl)); (focus (simp only [go_sem, ↓reduceIte, Nat.reduceEqDiff]; exact rfl)); (focus (simp only [go_sem])); (focus (simp only [go_sem, ↓reduceIte, hA, hct]; exact rfl)); (focus (first | exact q1 | exact q2 | exact Own.at (hT) (by first | rfl | simp [go_sem]) (by first | (simp only [go_sem]; exact rfl) | (simp only [go_sem, ↓reduceIte, Nat.reduceEqDiff, reduceCtorEq, Nat.reduceLT, Nat.reduceAdd, Int.reduceBEq, Int.reduceBNe, Int.reduceEq, Int.reduceLE, Int.reduceLT, Int.reduceToNat, Nat.reduceLeDiff, Nat.reduceMul, Nat.reduceSub, hmx, hA, hct] <;> fail) | exact rfl) (by first | (simp only [go_sem, ↓reduceIte, Nat.reduceEqDiff, reduceCtorEq, Nat.reduceLT, Nat.reduceAdd, Int.reduceBEq, Int.reduceBNe, Int.reduceEq, Int.reduceLE, Int.reduceLT, Int.reduceToNat, Nat.reduceLeDiff, Nat.reduceMul, Nat.reduceSub, hmx, hA, hct]; exact rfl) | (simp only [go_sem, ↓reduceIte, Nat.reduceEqDiff, reduceCtorEq, Nat.reduceLT, Nat.reduceAdd, Int.reduceBEq, Int.reduceBNe, Int.reduceEq, Int.reduceLE, Int.reduceLT, Int.reduceToNat, Nat.reduceLeDiff, Nat.reduceMul, Nat.reduceSub, hmx, hA, hct] <;> fail) | exact rfl) (by first | (simp only [go_sem]; exact rfl) | (simp only [go_sem, ↓reduceIte, Nat.reduceEqDiff, reduceCtorEq, Nat.reduceLT, Nat.reduceAdd, Int.reduceBEq, Int.reduceBNe, Int.reduceEq, Int.reduceLE, Int.reduceLT, Int.reduceToNat, Nat.reduceLeDiff, Nat.reduceMul, Nat.reduceSub, hmx, hA, hct] <;> fail) | exact rfl) | exact hR | exact q3 | exact q4 | exact q5 | exact q6 | exact q7 | exact q8 | exact q9 | exact q10 | exact q11 | exact q12 | exact u1 | exact u2 | exact u3 | exact u4)); (focus (first | rfl | simp [go_sem])); (focus (exact rfl))) | ((apply LOps.inline; (focus (first | exact Goes.free | exact Goes.on rfl rfl (by with_reducible rfl) true (by decide))); (focus (exact rfl)); (focus (exact rfl)); (focus (simp only [go_sem, ↓reduceIte, Nat.reduceEqDiff]; exact rfl)); (focus (simp only [go_sem]))); (first | (refine LCalls.mono (by first | exact q1 | exact q2 | exact Own.at (hT) (by first | rfl | simp [go_sem]) (by first | (simp only [go_sem]; exact rfl) | (simp only [go_sem, ↓reduceIte, Nat.reduceEqDiff, reduceCtorEq, Nat.reduceLT, Nat.reduceAdd, Int.reduceBEq, Int.reduceBNe, Int.reduceEq, Int.reduceLE, Int.reduceLT, Int.reduceToNat, Nat.reduceLeDiff, Nat.reduceMul, Nat.reduceSub, hmx, hA, hct] <;> fail) | exact rfl) (by first | (simp only [go_sem, Nat.reduceAdd]; exact rfl) | (simp only [go_sem, ↓reduceIte, Nat.reduceEqDiff, reduceCtorEq, Nat.reduceLT, Nat.reduceAdd, Int.reduceBEq, Int.reduceBNe, Int.reduceEq, Int.reduceLE, Int.reduceLT, Int.reduceToNat, Nat.reduceLeDiff, Nat.reduceMul, Nat.reduceSub, hmx, hA, hct] <;> fail) | exact rfl) (by first | (simp only [go_sem]; exact rfl) | (simp only [go_sem, ↓reduceIte, Nat.reduceEqDiff, reduceCtorEq, Nat.reduceLT, Nat.reduceAdd, Int.reduceBEq, Int.reduceBNe, Int.reduceEq, Int.reduceLE, Int.reduceLT, Int.reduceToNat, Nat.reduceLeDiff, Nat.reduceMul, Nat.reduceSub, hmx, hA, hct] <;> fail) | exact rfl) | exact hR | exact q3 | exact q4 | exact q5 | exact q6 | exact q7 | exact q8 | exact q9 | exact q10 | exact q11 | exact q12 | exact u1 | exact u2 | exact u3 | exact u4) ?_; (rintro _ _ ⟨rfl, rfl⟩)) | fail)) | fail)
  refine LK.loop (fun k : Nat => m - k) (fun k => k ≤ m) (fun k => ⟨217, [(2, sT l), (13, vb true), (14, .own 0 l.length 0 l.length), (19, .own 1 m 0 m), (37, vb true), (195, vi m), (196, vi k)]⟩) (fun k => [(0, .arr 5 (oF cT l)), (1, .arr 5 (oF cT (inc A k)))]) 0 (Nat.zero_le _) (by dsimp only; rw [inc_zero]; exact (Sub.by rfl rfl (by first | rfl | (simp only [subB, oF_all_under, LV.under, LO.under, List.all_cons, List.all_nil, decide_true, Nat.reduceLT, Bool.and_self]; done)))) ?_
  intro k hk J hJ
  have hil : (inc A k).length = m := by rw [inc_len, hA]
  rcases Nat.lt_or_ge k m with hlt | hge
  · obtain ⟨x, hx⟩ := idx_all (show k < A.length by omega)
    have i1 : ((k : Int) < (m : Int)) := by omega
    have hg := inc_get hx
    have hs : (inc A k).set k { w := x.w, q := x.q, v := IntKind.i64.wrap (x.v + 1), tag := x.tag, ran := x.ran } = inc A (k + 1) := inc_set hx
    have hw := wrapn (n := k) (by omega)
    have hp0 : 0 < m := by omega
    (repeat' first | refine LOps.done ?_ | (apply LOps.mv; (focus (first | exact Goes.free | exact Goes.on rfl rfl (by with_reducible rfl) true (by decide))); (focus (exact rfl)); (focus (exact rfl))) | (apply LOps.asg; (focus (first | exact Goes.free | exact Goes.on rfl rfl (by with_reducible rfl) true (by decide))); (focus (exact rfl)); (focus (exact rfl))) | (apply LOps.loc; (focus (first | exact Goes.free | exact Goes.on rfl rfl (by with_reducible rfl) true (by decide))); (focus (exact rfl)); (focus (exact rfl)); (focus (simp only [go_sem, ↓reduceIte, Nat.reduceEqDiff, reduceCtorEq, Nat.reduceLT, i1, hil, hg, hw, hp0]; with_reducible rfl))) | (apply LOps.loc0; (focus (first | exact Goes.free | exact Goes.on rfl rfl (by with_reducible rfl) true (by decide))); (focus (exact rfl)); (focus (simp only [go_sem, ↓reduceIte, Nat.reduceEqDiff, reduceCtorEq, Nat.reduceLT, Nat.reduceAdd, Nat.reduceLeDiff, hil, hg, hs]; with_reducible rfl))) | refine LK.seq ?_ | refine LK.skip ?_ | refine LK.block ?_ | refine LK.blk ?_ | refine LK.fin ?_ | (apply LK.condT2; (focus (exact rfl)); (focus (with_reducible rfl)); (focus (first | with_reducible rfl | decide | exact Bool.true_or _ | exact congrArg (fun b => b || _) (Bool.true_or _)))) | refine LK.regc ?_ | fail)
    apply hJ
    exact ⟨k + 1, hlt, by omega, (Sub.by rfl rfl (by first | rfl | (simp only [subB, oF_all_under, LV.under, LO.under, List.all_cons, List.all_nil, decide_true, Nat.reduceLT, Bool.and_self]; done)))⟩
  · have i1 : ¬ ((k : Int) < (m : Int)) := by omega
    have ht : l.take l.length = l := List.take_of_length_le (Nat.le_refl _)
    (repeat' first | refine LOps.done ?_ | (apply LOps.mv; (focus (first | exact Goes.free | exact Goes.on rfl rfl (by with_reducible rfl) true (by decide))); (focus (exact rfl)); (focus (exact rfl))) | (apply LOps.asg; (focus (first | exact Goes.free | exact Goes.on rfl rfl (by with_reducible rfl) true (by decide))); (focus (exact rfl)); (focus (exact rfl))) | (apply LOps.loc; (focus (first | exact Goes.free | exact Goes.on rfl rfl (by with_reducible rfl) true (by decide))); (focus (exact rfl)); (focus (exact rfl)); (focus (simp only [go_sem, ↓reduceIte, Nat.reduceEqDiff, reduceCtorEq, i1]; with_reducible rfl))) | refine LK.seq ?_ | refine LK.ret' ?_ | refine LK.exit' rfl ?_ | (apply LK.condF2; (focus (exact rfl)); (focus (with_reducible rfl)); (focus (first | with_reducible rfl | decide | exact Bool.false_and _ | exact congrArg (fun b => b && _) (Bool.false_and _)))) | refine LK.regc ?_ | (apply retQ; (focus (first | exact lres_one rfl | exact lres_more rfl | (simp only [lres, lresv, Try.results5, go_sem, ↓reduceIte, Nat.reduceEqDiff, reduceCtorEq, Nat.reduceLT, Nat.reduceAdd, Int.reduceBEq, Int.reduceBNe, Int.reduceEq, Int.reduceLE, Int.reduceLT, Int.reduceToNat, Nat.reduceLeDiff, Nat.reduceMul, Nat.reduceSub, i1, ht]; exact rfl)))) | (apply LOps.borrowFn; (focus (first | exact Goes.free | exact Goes.on rfl rfl (by with_reducible rfl) true (by decide))); (focus (exact rfl)); (focus (exact rfl)); (focus (simp only [go_sem, ↓reduceIte, Nat.reduceEqDiff]; exact rfl)); (focus (simp only [go_sem])); (focus (simp only [go_sem, ↓reduceIte, ht]; exact rfl)); (focus (exact u5)); (focus (first | rfl | simp [go_sem])); (focus (exact rfl))) | fail)
    all_goals rfl
set_option maxHeartbeats 4000000 in
set_option maxRecDepth 20000 in
theorem does_bad (w q : List Int) (l o : List Ten) (i u : Int) (h1 : w.length ≤ 100) (h2 : q.length ≤ 100) (h3 : l.length ≤ 100) (h4 : o.length ≤ 100) (e : Int) (hT : Fun Try.prog 7 [sT l, vi i] (.tup [sT [], vi e])) (hR : Fun Try.prog 14 [sT l, vi i] (.tup [sT [], vi e])) : Fun Try.prog 5 [sI w, sI q, sT l, sT o, vi i, vi u] (vb true) := by
  have hc : (decide ((w.length : Int) > 100) || decide ((q.length : Int) > 100) || decide ((l.length : Int) > 100) || decide ((o.length : Int) > 100)) = false := by simp only [Bool.or_eq_false_iff, decide_eq_false_iff_not]; omega
  have hmx : l.length ≤ maxLen ∧ l.length * 40 ≤ 140737488355328 := by simp only [maxLen]; omega
  have ht : l.take l.length = l := List.take_of_length_le (Nat.le_refl _)
  have q1 := new_fun w q (by omega) (by omega)
  have q2 := rnew_fun w q (by omega)
  have q3 := leave_fun l i (by omega)
  have q4 := rleave_fun l i (by omega)
  have q5 := count_fun l i u (by omega)
  have q6 := rcount_fun l i u (by omega)
  have q7 := all_fun l (by omega)
  have q8 := rall_fun l (by omega)
  have q9 := check_fun .any l (by omega)
  have q10 := rcheck_fun l (by omega)
  have q11 := same_fun l o (by omega)
  have q12 := rsame_fun l o (by omega)
  have u1 := rsame_fun (nwL w q) (nwL w q) (by have := nw_len w q h1; omega)
  have u2 := rsame_fun [] [] (by decide)
  have u3 := rsame_fun (leL l i) (leL l i) (by have := le_len l i h3; omega)
  have u4 := rsame_fun (coL l i u) (coL l i u) (by have := co_len l i u h3; omega)
  have u5 := rsame_fun l l (by omega)
  simp only [decide_true] at u1 u2 u3 u4 u5
  generalize nwL w q = b1 at *
  generalize nwE w q = b2 at *
  generalize leL l i = b3 at *
  generalize leE l i = b4 at *
  generalize coL l i u = b5 at *
  generalize coE l i u = b6 at *
  generalize alV l = b7 at *
  generalize alR l = b8 at *
  generalize chk l = b9 at *
  generalize decide (l = o) = b10 at *
  (refine LCalls.enter Try.func5 rfl (by simp [Try.ntmps5]) (LK.start ?_); simp only [Try.ntmps5, enterA, Nat.zero_add])
  (repeat' first | refine LOps.done ?_ | (apply LOps.mv; (focus (first | exact Goes.free | exact Goes.on rfl rfl (by with_reducible rfl) true (by decide))); (focus (exact rfl)); (focus (exact rfl))) | (apply LOps.asg; (focus (first | exact Goes.free | exact Goes.on rfl rfl (by with_reducible rfl) true (by decide))); (focus (exact rfl)); (focus (exact rfl))) | (apply LOps.loc; (focus (first | exact Goes.free | exact Goes.on rfl rfl (by with_reducible rfl) true (by decide))); (focus (exact rfl)); (focus (exact rfl)); (focus (simp only [go_sem, ↓reduceIte, Nat.reduceEqDiff, reduceCtorEq]; with_reducible rfl))) | (apply LOps.pass; (focus (first | exact Goes.on rfl rfl (by with_reducible rfl) false (by decide) | exact Goes.undef rfl rfl (by with_reducible rfl))); (focus (exact rfl))) | (apply LOps.scEnd; (focus (exact rfl)); (focus (with_reducible rfl))) | refine LK.seq ?_ | refine LK.skip ?_ | (apply LK.condF2; (focus (exact rfl)); (focus (with_reducible rfl)); (focus (first | with_reducible rfl | decide | exact Bool.false_and _ | exact congrArg (fun b => b && _) (Bool.false_and _)))) | refine LK.regc ?_ | (apply LOps.locFn; (focus (first | exact Goes.free | exact Goes.on rfl rfl (by with_reducible rfl) true (by decide))); (focus (exact rfl)); (focus (exact rfl)); (focus (simp only [go_sem]; exact rfl)); (focus (simp only [go_sem])); (focus (exact live_fun)); (focus (first | rfl | simp [go_sem])); (focus (first | rfl | simp [go_sem]))) | (apply LOps.or2; exact rfl; exact rfl; exact rfl; exact rfl; exact rfl; (focus (with_reducible rfl)); (focus (first | kernel_rfl | rfl))) | refine Under.mk (fun hg => ?_) | fail)
  refine LK.condF2 rfl (by first | with_reducible rfl | rfl) (hc) ?_
  (repeat' first | refine LOps.done ?_ | (apply LOps.mv; (focus (first | exact Goes.free | exact Goes.on rfl rfl (by with_reducible rfl) true (by decide))); (focus (exact rfl)); (focus (exact rfl))) | (apply LOps.asg; (focus (first | exact Goes.free | exact Goes.on rfl rfl (by with_reducible rfl) true (by decide))); (focus (exact rfl)); (focus (exact rfl))) | (apply LOps.ext; (focus (first | exact Goes.free | exact Goes.on rfl rfl (by with_reducible rfl) true (by decide))); (focus (exact rfl)); (focus (exact rfl)); (focus (exact rfl))) | (apply LOps.loc; (focus (first | exact Goes.free | exact Goes.on rfl rfl (by with_reducible rfl) true (by decide))); (focus (exact rfl)); (focus (exact rfl)); (focus (simp only [go_sem, ↓reduceIte, Nat.reduceEqDiff, reduceCtorEq, Nat.reduceLT, Nat.reduceAdd, Int.reduceLT, hmx, Int.ofNat_zero, Int.reduceLT]; with_reducible rfl))) | refine LK.seq ?_ | refine LK.skip ?_ | refine LK.block ?_ | refine LK.ret' ?_ | refine LK.exit' rfl ?_ | (apply LK.condF2; (focus (exact rfl)); (focus (with_reducible rfl)); (focus (first | with_reducible rfl | decide | exact Bool.false_and _ | exact congrArg (fun b => b && _) (Bool.false_and _)))) | refine LK.regc ?_ | (apply retQ; (focus (first | exact lres_one rfl | exact lres_more rfl | (simp only [lres, lresv, Try.results5, go_sem, ↓reduceIte, Nat.reduceEqDiff, reduceCtorEq, Nat.reduceLT, Nat.reduceAdd, Int.reduceBEq, Int.reduceBNe, Int.reduceEq, Int.reduceLE, Int.reduceLT, Int.reduceToNat, Nat.reduceLeDiff, Nat.reduceMul, Nat.reduceSub, hmx, ht, Int.ofNat_zero, wrap_small, Int.reduceAdd, Int.reduceSub, Int.reduceMul, Int.reduceMod, Int.reduceNeg, Int.reduceToNat, Int.reduceLT, Int.reduceLE, Int.reduceGT, Int.reduceGE, Int.zero_add, Int.add_zero, List.replicate_succ, List.replicate_zero, Nat.reduceSub]; exact rfl)))) | (apply LOps.locFn; (focus (first | exact Goes.free | exact Goes.on rfl rfl (by with_reducible rfl) true (by decide))); (focus (exact rfl)); (focus (exact rfl)); (focus (simp only [go_sem, ↓reduceIte, Nat.reduceEqDiff]; exact rfl)); (focus (simp only [go_sem])); (focus (first | exact u5 | exact q1 | exact q2 | exact hT | exact hR | exact q3 | exact q4 | exact q5 | exact q6 | exact q7 | exact q8 | exact q9 | exact q10 | exact q11 | exact q12 | exact u1 | exact u2 | exact u3 | exact u4)); (focus (first | rfl | simp [go_sem])); (focus (first | rfl | simp [go_sem]))) | (apply LOps.borrowFn; (focus (first | exact Goes.free | exact Goes.on rfl rfl (by with_reducible rfl) true (by decide))); (focus (exact rfl)); (focus (exact rfl)); (focus (simp only [go_sem, ↓reduceIte, Nat.reduceEqDiff]; exact rfl)); (focus (simp only [go_sem])); (focus (simp only [go_sem, ↓reduceIte, ht]; exact rfl)); (focus (first | exact u5 | exact q1 | exact q2 | exact hT | exact hR | exact q3 | exact q4 | exact q5 | exact q6 | exact q7 | exact q8 | exact q9 | exact q10 | exact q11 | exact q12 | exact u1 | exact u2 | exact u3 | exact u4)); (focus (first | rfl | simp [go_sem])); (focus (exact rfl))) | refine LK.rounds 1 ?_ | fail)
  all_goals rfl
theorem does_fun (w q : List Int) (l o : List Ten) (i u : Int) : Fun Try.prog 5 [sI w, sI q, sT l, sT o, vi i, vi u] (vb true) := by
  by_cases h : 100 < w.length ∨ 100 < q.length ∨ 100 < l.length ∨ 100 < o.length
  · exact does_skip w q l o i u h
  · have hR := radmit_fun l i (by omega)
    by_cases he : adE l i = 0
    · obtain ⟨hc, n, x, rfl, hx, hv, e⟩ := ad_inv he
      rw [he, e] at hR
      exact does_ok w q l o n u (by omega) (by omega) (by omega) (by omega) _ l.length (by simp) (by omega) (admit_own l n x hc hx hv) hR
    · have hT := admit_fun l i (by omega)
      rw [adL, if_neg he] at hT hR
      exact does_bad w q l o i u (by omega) (by omega) (by omega) (by omega) _ hT hR
end Go.Proofs.Ytflcdaafhopkkaa
