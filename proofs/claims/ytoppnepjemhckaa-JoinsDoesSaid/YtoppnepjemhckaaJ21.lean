/- Chapter 11: the law JoinsDoes. -/
import Derived.Test.YtoppnepjemhckaaJ20
set_option linter.unusedSimpArgs false
set_option linter.unusedVariables false
namespace Go.Proofs.Ytoppnepjemhckaa
open Go.Lw
attribute [local irreducible] LK LOps LW
def up1 (x : Jn) : Jn := (IntKind.i64.wrap (x.1 + 1), x.2)
def inc (w : List Jn) (k : Nat) : List Jn := (w.take k).map up1 ++ w.drop k
theorem inc_zero (w : List Jn) : inc w 0 = w := by simp [inc]
theorem inc_len (w : List Jn) (k : Nat) : (inc w k).length = w.length := by simp [inc]; omega
theorem inc_get {w : List Jn} {k : Nat} {x : Jn} (hx : w[k]? = some x) : (inc w k)[k]? = some x := by
  have hk := lt_of_get hx
  rw [inc, List.getElem?_append_right (by simp; omega)]
  simp only [List.length_map, List.length_take, Nat.min_eq_left (Nat.le_of_lt hk), Nat.sub_self, List.getElem?_drop, Nat.add_zero]
  exact hx
theorem inc_set {w : List Jn} {k : Nat} {x : Jn} (hx : w[k]? = some x) : (inc w k).set k (up1 x) = inc w (k + 1) := by
  have hk := lt_of_get hx
  have e : w.drop k = x :: w.drop (k + 1) := by
    rw [List.drop_eq_getElem_cons hk]
    rw [List.getElem?_eq_getElem hk] at hx
    rw [Option.some.inj hx]
  simp only [inc]
  rw [List.set_append_right _ _ (by simp; omega), List.take_add_one, hx, e]
  simp only [List.length_map, List.length_take, Nat.min_eq_left (Nat.le_of_lt hk), Nat.sub_self, List.set_cons_zero, Option.toList_some, List.map_append, List.map_cons, List.map_nil, List.append_assoc, List.cons_append, List.nil_append]
set_option maxHeartbeats 4000000 in
set_option maxRecDepth 10000 in
theorem does_skip (l o : List Jn) (on who : Int) (h : 260 < l.length ∨ 260 < o.length) : Fun Try.prog 7 [sJ l, sJ o, vi on, vi who] (vb true) := by
  have hc : (decide ((l.length : Int) > 260) || decide ((o.length : Int) > 260)) = true := by simp only [Bool.or_eq_true, decide_eq_true_eq]; omega
  (refine LCalls.enter Try.func7 rfl (by simp [Try.ntmps7]) (LK.start ?_); simp only [Try.ntmps7, enterA, Nat.zero_add])
  (repeat' first | refine LOps.done ?_ | (apply LOps.mv; (focus (first | exact Goes.free | exact Goes.on rfl rfl (by with_reducible rfl) true (by decide))); (focus (exact rfl)); (focus (exact rfl))) | (apply LOps.asg; (focus (first | exact Goes.free | exact Goes.on rfl rfl (by with_reducible rfl) true (by decide))); (focus (exact rfl)); (focus (exact rfl))) | (apply LOps.loc; (focus (first | exact Goes.free | exact Goes.on rfl rfl (by with_reducible rfl) true (by decide))); (focus (exact rfl)); (focus (exact rfl)); (focus (simp only [go_sem, ↓reduceIte, Nat.reduceEqDiff, reduceCtorEq]; with_reducible rfl))) | (apply LOps.pass; (focus (first | exact Goes.on rfl rfl (by with_reducible rfl) false (by decide) | exact Goes.undef rfl rfl (by with_reducible rfl))); (focus (exact rfl))) | (apply LOps.scEnd; (focus (exact rfl)); (focus (with_reducible rfl))) | refine LK.seq ?_ | refine LK.skip ?_ | (apply LK.condF2; (focus (exact rfl)); (focus (with_reducible rfl)); (focus (first | with_reducible rfl | decide | (with_reducible exact Bool.false_and _) | (with_reducible exact congrArg (fun b => b && _) (Bool.false_and _))))) | refine LK.regc ?_ | (apply LOps.locFn; (focus (first | exact Goes.free | exact Goes.on rfl rfl (by with_reducible rfl) true (by decide))); (focus (exact rfl)); (focus (exact rfl)); (focus (simp only [go_sem]; exact rfl)); (focus (simp only [go_sem])); (focus (exact live_fun)); (focus (first | rfl | simp [go_sem])); (focus (first | rfl | simp [go_sem]))) | (apply LOps.or2; exact rfl; exact rfl; exact rfl; exact rfl; exact rfl; (focus (with_reducible rfl)); (focus (first | kernel_rfl | rfl))) | refine Under.mk (fun hg => ?_) | fail)
  refine LK.condT2 rfl (by first | with_reducible rfl | rfl) (hc) ?_
  (repeat' first | refine LOps.done ?_ | (apply LOps.mv; (focus (first | exact Goes.free | exact Goes.on rfl rfl (by with_reducible rfl) true (by decide))); (focus (exact rfl)); (focus (exact rfl))) | (apply LOps.asg; (focus (first | exact Goes.free | exact Goes.on rfl rfl (by with_reducible rfl) true (by decide))); (focus (exact rfl)); (focus (exact rfl))) | refine LK.seq ?_ | refine LK.ret' ?_ | refine LK.regc ?_ | (apply retQ; (focus (first | exact lres_one rfl | exact lres_more rfl | (simp only [lres, lresv, Try.results7, go_sem, ↓reduceIte, Nat.reduceEqDiff, reduceCtorEq, Nat.reduceLT, Nat.reduceAdd, Int.reduceBEq, Int.reduceBNe, Int.reduceEq, Int.reduceLE, Int.reduceLT, Int.reduceToNat, Nat.reduceLeDiff, Nat.reduceMul, Nat.reduceSub]; exact rfl)))) | fail)
  all_goals rfl
set_option maxHeartbeats 4000000 in
set_option maxRecDepth 20000 in
theorem does_ok (l o : List Jn) (on who : Int) (h1 : l.length ≤ 260) (h2 : o.length ≤ 260) (L : List Jn) (m : Nat) (hm : L.length = m) (hml : m ≤ 300)
    (hT : Own Try.prog 11 [sJ l, vi on, vi who] (.tup [.own 0 m 0 m, vi 0]) 2 [(0, .arr 2 (oF cJ L))])
    (hR : Fun Try.prog 15 [sJ l, vi on, vi who] (.tup [sJ L, vi 0])) : Fun Try.prog 7 [sJ l, sJ o, vi on, vi who] (vb true) := by
  have hc : (decide ((l.length : Int) > 260) || decide ((o.length : Int) > 260)) = false := by simp only [Bool.or_eq_false_iff, decide_eq_false_iff_not]; omega
  have hmx : l.length ≤ maxLen ∧ l.length * 16 ≤ 140737488355328 := by simp only [maxLen]; omega
  have hct : L.take m = L := List.take_of_length_le (by omega)
  have g1 := done_fun l on (by omega)
  have g2 := rdone_fun l on
  have d1 := drop_fun l who (by omega)
  have d2 := rdrop_fun l who
  have f1 := for_fun l who (by omega)
  have f2 := rfor_fun l who
  have k1 := check_fun l (by omega)
  have k2 := rcheck_fun l
  have s1 := same_fun l o (by omega)
  have s2 := rsame_fun l o (by omega)
  have b1 : (dnW l on).length ≤ 100000 := by
    unfold dnW
    split
    · have := List.length_filter_le (isOn on) l; rw [List.length_map]; omega
    · simp
  have b2 : (dnL l on).length ≤ 100000 := by
    unfold dnL
    split
    · have := List.length_filter_le (fun x => !(isOn on x)) l; omega
    · simp
  have b3 : (drL l who).length ≤ 100000 := by
    unfold drL
    split
    · have := List.length_filter_le (fun x => !(isWho who x)) l; omega
    · simp
  have b4 : (frL l who).length ≤ 100000 := by
    unfold frL
    split
    · have := wayl_len l who; omega
    · simp
  have t1 := rsame_fun L L (by omega)
  have t2 := rsameI_fun (dnW l on) (dnW l on) b1
  have t3 := rsame_fun (dnL l on) (dnL l on) b2
  have t4 := rsame_fun (drL l who) (drL l who) b3
  have t5 := rsameI_fun (frL l who) (frL l who) b4
  have t6 := rsame_fun l l (by omega)
  rw [decide_eq_true rfl] at t1 t2 t3 t4 t5 t6
  generalize dnW l on = a1 at *
  generalize dnL l on = a2 at *
  generalize drL l who = a3 at *
  generalize drE l who = a4 at *
  generalize frL l who = a5 at *
  generalize chkJ l = a6 at *
  generalize decide (l = o) = b0 at *
  (refine LCalls.enter Try.func7 rfl (by simp [Try.ntmps7]) (LK.start ?_); simp only [Try.ntmps7, enterA, Nat.zero_add])
  (repeat' first | refine LOps.done ?_ | (apply LOps.mv; (focus (first | exact Goes.free | exact Goes.on rfl rfl (by with_reducible rfl) true (by decide))); (focus (exact rfl)); (focus (exact rfl))) | (apply LOps.asg; (focus (first | exact Goes.free | exact Goes.on rfl rfl (by with_reducible rfl) true (by decide))); (focus (exact rfl)); (focus (exact rfl))) | (apply LOps.loc; (focus (first | exact Goes.free | exact Goes.on rfl rfl (by with_reducible rfl) true (by decide))); (focus (exact rfl)); (focus (exact rfl)); (focus (simp only [go_sem, ↓reduceIte, Nat.reduceEqDiff, reduceCtorEq]; with_reducible rfl))) | (apply LOps.pass; (focus (first | exact Goes.on rfl rfl (by with_reducible rfl) false (by decide) | exact Goes.undef rfl rfl (by with_reducible rfl))); (focus (exact rfl))) | (apply LOps.scEnd; (focus (exact rfl)); (focus (with_reducible rfl))) | refine LK.seq ?_ | refine LK.skip ?_ | (apply LK.condF2; (focus (exact rfl)); (focus (with_reducible rfl)); (focus (first | with_reducible rfl | decide | (with_reducible exact Bool.false_and _) | (with_reducible exact congrArg (fun b => b && _) (Bool.false_and _))))) | refine LK.regc ?_ | (apply LOps.locFn; (focus (first | exact Goes.free | exact Goes.on rfl rfl (by with_reducible rfl) true (by decide))); (focus (exact rfl)); (focus (exact rfl)); (focus (simp only [go_sem]; exact rfl)); (focus (simp only [go_sem])); (focus (exact live_fun)); (focus (first | rfl | simp [go_sem])); (focus (first | rfl | simp [go_sem]))) | (apply LOps.or2; exact rfl; exact rfl; exact rfl; exact rfl; exact rfl; (focus (with_reducible rfl)); (focus (first | kernel_rfl | rfl))) | refine Under.mk (fun hg => ?_) | fail)
  refine LK.condF2 rfl (by first | with_reducible rfl | rfl) (hc) ?_
  (repeat' first | refine LOps.done ?_ | (apply LOps.mv; (focus (first | exact Goes.free | exact Goes.on rfl rfl (by with_reducible rfl) true (by decide))); (focus (exact rfl)); (focus (exact rfl))) | (apply LOps.asg; (focus (first | exact Goes.free | exact Goes.on rfl rfl (by with_reducible rfl) true (by decide))); (focus (exact rfl)); (focus (exact rfl))) | (apply LOps.ext; (focus (first | exact Goes.free | exact Goes.on rfl rfl (by with_reducible rfl) true (by decide))); (focus (exact rfl)); (focus (exact rfl)); (focus (exact rfl))) | (apply LOps.loc; (focus (first | exact Goes.free | exact Goes.on rfl rfl (by with_reducible rfl) true (by decide))); (focus (exact rfl)); (focus (exact rfl)); (focus (simp only [go_sem, ↓reduceIte, Nat.reduceEqDiff, reduceCtorEq, Nat.reduceLT, Nat.reduceAdd, hm, hmx, hct]; with_reducible rfl))) | refine LK.seq ?_ | refine LK.skip ?_ | refine LK.block ?_ | refine LK.regc ?_ | (apply LOps.locFn; (focus (first | exact Goes.free | exact Goes.on rfl rfl (by with_reducible rfl) true (by decide))); (focus (exact rfl)); (focus (exact rfl)); (focus (simp only [go_sem, ↓reduceIte, Nat.reduceEqDiff]; exact rfl)); (focus (simp only [go_sem])); (focus (first | exact Own.at (hT) (by first | rfl | simp [go_sem]) (by first | (simp only [go_sem]; exact rfl) | (simp only [go_sem, ↓reduceIte, Nat.reduceEqDiff, reduceCtorEq, Nat.reduceLT, Nat.reduceAdd, Int.reduceBEq, Int.reduceBNe, Int.reduceEq, Int.reduceLE, Int.reduceLT, Int.reduceToNat, Nat.reduceLeDiff, Nat.reduceMul, Nat.reduceSub, hm, hmx, hct] <;> fail) | exact rfl) (by first | (simp only [go_sem, ↓reduceIte, Nat.reduceEqDiff, reduceCtorEq, Nat.reduceLT, Nat.reduceAdd, Int.reduceBEq, Int.reduceBNe, Int.reduceEq, Int.reduceLE, Int.reduceLT, Int.reduceToNat, Nat.reduceLeDiff, Nat.reduceMul, Nat.reduceSub, hm, hmx, hct]; exact rfl) | (simp only [go_sem, ↓reduceIte, Nat.reduceEqDiff, reduceCtorEq, Nat.reduceLT, Nat.reduceAdd, Int.reduceBEq, Int.reduceBNe, Int.reduceEq, Int.reduceLE, Int.reduceLT, Int.reduceToNat, Nat.reduceLeDiff, Nat.reduceMul, Nat.reduceSub, hm, hmx, hct] <;> fail) | exact rfl) (by first | (simp only [go_sem]; exact rfl) | (simp only [go_sem, ↓reduceIte, Nat.reduceEqDiff, reduceCtorEq, Nat.reduceLT, Nat.reduceAdd, Int.reduceBEq, Int.reduceBNe, Int.reduceEq, Int.reduceLE, Int.reduceLT, Int.reduceToNat, Nat.reduceLeDiff, Nat.reduceMul, Nat.reduceSub, hm, hmx, hct] <;> fail) | exact rfl) | exact hR | exact g1 | exact g2 | exact d1 | exact d2 | exact f1 | exact f2 | exact t1 | exact t2 | exact t3 | exact t4 | exact t5 | exact k1 | exact k2 | exact s1 | exact s2)); (focus (first | rfl | simp [go_sem])); (focus (first | rfl | simp [go_sem]))) | (apply LOps.borrowFn; (focus (first | exact Goes.free | exact Goes.on rfl rfl (by with_reducible rfl) true (by decide))); (focus (exact rfl)); (focus (exact rfl)); (focus (simp only [go_sem, ↓reduceIte, Nat.reduceEqDiff]; exact rfl)); (focus (simp only [go_sem])); (focus (simp only [go_sem, ↓reduceIte, hm, hct]; exact rfl)); (focus (first | exact Own.at (hT) (by first | rfl | simp [go_sem]) (by first | (simp only [go_sem]; exact rfl) | (simp only [go_sem, ↓reduceIte, Nat.reduceEqDiff, reduceCtorEq, Nat.reduceLT, Nat.reduceAdd, Int.reduceBEq, Int.reduceBNe, Int.reduceEq, Int.reduceLE, Int.reduceLT, Int.reduceToNat, Nat.reduceLeDiff, Nat.reduceMul, Nat.reduceSub, hm, hmx, hct] <;> fail) | exact rfl) (by first | (simp only [go_sem, ↓reduceIte, Nat.reduceEqDiff, reduceCtorEq, Nat.reduceLT, Nat.reduceAdd, Int.reduceBEq, Int.reduceBNe, Int.reduceEq, Int.reduceLE, Int.reduceLT, Int.reduceToNat, Nat.reduceLeDiff, Nat.reduceMul, Nat.reduceSub, hm, hmx, hct]; exact rfl) | (simp only [go_sem, ↓reduceIte, Nat.reduceEqDiff, reduceCtorEq, Nat.reduceLT, Nat.reduceAdd, Int.reduceBEq, Int.reduceBNe, Int.reduceEq, Int.reduceLE, Int.reduceLT, Int.reduceToNat, Nat.reduceLeDiff, Nat.reduceMul, Nat.reduceSub, hm, hmx, hct] <;> fail) | exact rfl) (by first | (simp only [go_sem]; exact rfl) | (simp only [go_sem, ↓reduceIte, Nat.reduceEqDiff, reduceCtorEq, Nat.reduceLT, Nat.reduceAdd, Int.reduceBEq, Int.reduceBNe, Int.reduceEq, Int.reduceLE, Int.reduceLT, Int.reduceToNat, Nat.reduceLeDiff, Nat.reduceMul, Nat.reduceSub, hm, hmx, hct] <;> fail) | exact rfl) | exact hR | exact g1 | exact g2 | exact d1 | exact d2 | exact f1 | exact f2 | exact t1 | exact t2 | exact t3 | exact t4 | exact t5 | exact k1 | exact k2 | exact s1 | exact s2)); (focus (first | rfl | simp [go_sem])); (focus (exact rfl))) | ((apply LOps.inline; (focus (first | exact Goes.free | exact Goes.on rfl rfl (by with_reducible rfl) true (by decide))); (focus (exact rfl)); (focus (exact rfl)); (focus (simp only [go_sem, ↓reduceIte, Nat.reduceEqDiff]; exact rfl)); (focus (simp only [go_sem]))); (first | (refine LCalls.mono (by first | exact Own.at (hT) (by first | rfl | simp [go_sem]) (by first | (simp only [go_sem]; exact rfl) | (simp only [go_sem, ↓reduceIte, Nat.reduceEqDiff, reduceCtorEq, Nat.reduceLT, Nat.reduceAdd, Int.reduceBEq, Int.reduceBNe, Int.reduceEq, Int.reduceLE, Int.reduceLT, Int.reduceToNat, Nat.reduceLeDiff, Nat.reduceMul, Nat.reduceSub, hm, hmx, hct] <;> fail) | exact rfl) (by first | (simp only [go_sem, Nat.reduceAdd]; exact rfl) | (simp only [go_sem, ↓reduceIte, Nat.reduceEqDiff, reduceCtorEq, Nat.reduceLT, Nat.reduceAdd, Int.reduceBEq, Int.reduceBNe, Int.reduceEq, Int.reduceLE, Int.reduceLT, Int.reduceToNat, Nat.reduceLeDiff, Nat.reduceMul, Nat.reduceSub, hm, hmx, hct] <;> fail) | exact rfl) (by first | (simp only [go_sem]; exact rfl) | (simp only [go_sem, ↓reduceIte, Nat.reduceEqDiff, reduceCtorEq, Nat.reduceLT, Nat.reduceAdd, Int.reduceBEq, Int.reduceBNe, Int.reduceEq, Int.reduceLE, Int.reduceLT, Int.reduceToNat, Nat.reduceLeDiff, Nat.reduceMul, Nat.reduceSub, hm, hmx, hct] <;> fail) | exact rfl) | exact hR | exact g1 | exact g2 | exact d1 | exact d2 | exact f1 | exact f2 | exact t1 | exact t2 | exact t3 | exact t4 | exact t5 | exact k1 | exact k2 | exact s1 | exact s2) ?_; (rintro _ _ ⟨rfl, rfl⟩)) | fail)) | fail)
  refine LK.loop (fun k : Nat => m - k) (fun k => k ≤ m) (fun k => ⟨179, [(0, sJ l), (9, vb true), (10, .own 0 l.length 0 l.length), (11, .own 1 m 0 m), (29, vb true), (157, vi m), (158, vi k)]⟩) (fun k => [(0, .arr 2 (oF cJ l)), (1, .arr 2 (oF cJ (inc L k)))]) 0 (Nat.zero_le _) (by dsimp only; rw [inc_zero]; exact (Sub.by rfl rfl (by first | rfl | (simp only [subB, oF_all_under, LV.under, LO.under, List.all_cons, List.all_nil, decide_true, Nat.reduceLT, Bool.and_self]; done)))) ?_
  intro k hk J hJ
  have hil : (inc L k).length = m := by rw [inc_len, hm]
  rcases Nat.lt_or_ge k m with hlt | hge
  · obtain ⟨x, hx⟩ := idx_all (show k < L.length by omega)
    have i1 : ((k : Int) < (m : Int)) := by omega
    have hg := inc_get hx
    have hs : (oF cJ (inc L k)).set k [vi (IntKind.i64.wrap (x.1 + 1)), vi x.2] = oF cJ (inc L (k + 1)) := by
      have := oJ_set (inc L k) k (up1 x)
      rw [inc_set hx] at this
      exact this
    have hw := wrapn (n := k) (by omega)
    have hp0 : 0 < m := by omega
    (repeat' first | refine LOps.done ?_ | (apply LOps.mv; (focus (first | exact Goes.free | exact Goes.on rfl rfl (by with_reducible rfl) true (by decide))); (focus (exact rfl)); (focus (exact rfl))) | (apply LOps.asg; (focus (first | exact Goes.free | exact Goes.on rfl rfl (by with_reducible rfl) true (by decide))); (focus (exact rfl)); (focus (exact rfl))) | (apply LOps.loc; (focus (first | exact Goes.free | exact Goes.on rfl rfl (by with_reducible rfl) true (by decide))); (focus (exact rfl)); (focus (exact rfl)); (focus (simp only [go_sem, ↓reduceIte, Nat.reduceEqDiff, reduceCtorEq, Nat.reduceLT, i1, hil, hg, hw, hp0, cJ_eq]; with_reducible rfl))) | (apply LOps.loc0; (focus (first | exact Goes.free | exact Goes.on rfl rfl (by with_reducible rfl) true (by decide))); (focus (exact rfl)); (focus (simp only [go_sem, ↓reduceIte, Nat.reduceEqDiff, reduceCtorEq, Nat.reduceLT, Nat.reduceAdd, Nat.reduceLeDiff, hil, hg, hs, cJ_eq]; with_reducible rfl))) | refine LK.seq ?_ | refine LK.skip ?_ | refine LK.block ?_ | refine LK.blk ?_ | refine LK.fin ?_ | (apply LK.condT2; (focus (exact rfl)); (focus (with_reducible rfl)); (focus (first | with_reducible rfl | decide | (with_reducible exact Bool.true_or _) | (with_reducible exact congrArg (fun b => b || _) (Bool.true_or _))))) | refine LK.regc ?_ | fail)
    apply hJ
    exact ⟨k + 1, hlt, by omega, (Sub.by rfl rfl (by first | rfl | (simp only [subB, oF_all_under, LV.under, LO.under, List.all_cons, List.all_nil, decide_true, Nat.reduceLT, Bool.and_self]; done)))⟩
  · have i1 : ¬ ((k : Int) < (m : Int)) := by omega
    have ht : l.take l.length = l := List.take_of_length_le (Nat.le_refl _)
    (repeat' first | refine LOps.done ?_ | (apply LOps.mv; (focus (first | exact Goes.free | exact Goes.on rfl rfl (by with_reducible rfl) true (by decide))); (focus (exact rfl)); (focus (exact rfl))) | (apply LOps.asg; (focus (first | exact Goes.free | exact Goes.on rfl rfl (by with_reducible rfl) true (by decide))); (focus (exact rfl)); (focus (exact rfl))) | (apply LOps.loc; (focus (first | exact Goes.free | exact Goes.on rfl rfl (by with_reducible rfl) true (by decide))); (focus (exact rfl)); (focus (exact rfl)); (focus (simp only [go_sem, ↓reduceIte, Nat.reduceEqDiff, reduceCtorEq, i1]; with_reducible rfl))) | refine LK.seq ?_ | refine LK.ret' ?_ | refine LK.exit' rfl ?_ | (apply LK.condF2; (focus (exact rfl)); (focus (with_reducible rfl)); (focus (first | with_reducible rfl | decide | (with_reducible exact Bool.false_and _) | (with_reducible exact congrArg (fun b => b && _) (Bool.false_and _))))) | refine LK.regc ?_ | (apply retQ; (focus (first | exact lres_one rfl | exact lres_more rfl | (simp only [lres, lresv, Try.results7, go_sem, ↓reduceIte, Nat.reduceEqDiff, reduceCtorEq, Nat.reduceLT, Nat.reduceAdd, Int.reduceBEq, Int.reduceBNe, Int.reduceEq, Int.reduceLE, Int.reduceLT, Int.reduceToNat, Nat.reduceLeDiff, Nat.reduceMul, Nat.reduceSub, i1, ht]; exact rfl)))) | (apply LOps.borrowFn; (focus (first | exact Goes.free | exact Goes.on rfl rfl (by with_reducible rfl) true (by decide))); (focus (exact rfl)); (focus (exact rfl)); (focus (simp only [go_sem, ↓reduceIte, Nat.reduceEqDiff]; exact rfl)); (focus (simp only [go_sem])); (focus (simp only [go_sem, ↓reduceIte, ht]; exact rfl)); (focus (exact t6)); (focus (first | rfl | simp [go_sem])); (focus (exact rfl))) | fail)
    all_goals rfl
set_option maxHeartbeats 4000000 in
set_option maxRecDepth 20000 in
theorem does_bad (l o : List Jn) (on who : Int) (h1 : l.length ≤ 260) (h2 : o.length ≤ 260) (e : Int)
    (hT : Fun Try.prog 11 [sJ l, vi on, vi who] (.tup [sJ [], vi e]))
    (hR : Fun Try.prog 15 [sJ l, vi on, vi who] (.tup [sJ [], vi e])) : Fun Try.prog 7 [sJ l, sJ o, vi on, vi who] (vb true) := by
  have hc : (decide ((l.length : Int) > 260) || decide ((o.length : Int) > 260)) = false := by simp only [Bool.or_eq_false_iff, decide_eq_false_iff_not]; omega
  have hmx : l.length ≤ maxLen ∧ l.length * 16 ≤ 140737488355328 := by simp only [maxLen]; omega
  have g1 := done_fun l on (by omega)
  have g2 := rdone_fun l on
  have d1 := drop_fun l who (by omega)
  have d2 := rdrop_fun l who
  have f1 := for_fun l who (by omega)
  have f2 := rfor_fun l who
  have k1 := check_fun l (by omega)
  have k2 := rcheck_fun l
  have s1 := same_fun l o (by omega)
  have s2 := rsame_fun l o (by omega)
  have b1 : (dnW l on).length ≤ 100000 := by
    unfold dnW
    split
    · have := List.length_filter_le (isOn on) l; rw [List.length_map]; omega
    · simp
  have b2 : (dnL l on).length ≤ 100000 := by
    unfold dnL
    split
    · have := List.length_filter_le (fun x => !(isOn on x)) l; omega
    · simp
  have b3 : (drL l who).length ≤ 100000 := by
    unfold drL
    split
    · have := List.length_filter_le (fun x => !(isWho who x)) l; omega
    · simp
  have b4 : (frL l who).length ≤ 100000 := by
    unfold frL
    split
    · have := wayl_len l who; omega
    · simp
  have t1 := rsame_fun [] [] (by decide)
  have t2 := rsameI_fun (dnW l on) (dnW l on) b1
  have t3 := rsame_fun (dnL l on) (dnL l on) b2
  have t4 := rsame_fun (drL l who) (drL l who) b3
  have t5 := rsameI_fun (frL l who) (frL l who) b4
  have t6 := rsame_fun l l (by omega)
  rw [decide_eq_true rfl] at t1 t2 t3 t4 t5 t6
  have ht : l.take l.length = l := List.take_of_length_le (Nat.le_refl _)
  generalize dnW l on = a1 at *
  generalize dnL l on = a2 at *
  generalize drL l who = a3 at *
  generalize drE l who = a4 at *
  generalize frL l who = a5 at *
  generalize chkJ l = a6 at *
  generalize decide (l = o) = b0 at *
  (refine LCalls.enter Try.func7 rfl (by simp [Try.ntmps7]) (LK.start ?_); simp only [Try.ntmps7, enterA, Nat.zero_add])
  (repeat' first | refine LOps.done ?_ | (apply LOps.mv; (focus (first | exact Goes.free | exact Goes.on rfl rfl (by with_reducible rfl) true (by decide))); (focus (exact rfl)); (focus (exact rfl))) | (apply LOps.asg; (focus (first | exact Goes.free | exact Goes.on rfl rfl (by with_reducible rfl) true (by decide))); (focus (exact rfl)); (focus (exact rfl))) | (apply LOps.loc; (focus (first | exact Goes.free | exact Goes.on rfl rfl (by with_reducible rfl) true (by decide))); (focus (exact rfl)); (focus (exact rfl)); (focus (simp only [go_sem, ↓reduceIte, Nat.reduceEqDiff, reduceCtorEq]; with_reducible rfl))) | (apply LOps.pass; (focus (first | exact Goes.on rfl rfl (by with_reducible rfl) false (by decide) | exact Goes.undef rfl rfl (by with_reducible rfl))); (focus (exact rfl))) | (apply LOps.scEnd; (focus (exact rfl)); (focus (with_reducible rfl))) | refine LK.seq ?_ | refine LK.skip ?_ | (apply LK.condF2; (focus (exact rfl)); (focus (with_reducible rfl)); (focus (first | with_reducible rfl | decide | (with_reducible exact Bool.false_and _) | (with_reducible exact congrArg (fun b => b && _) (Bool.false_and _))))) | refine LK.regc ?_ | (apply LOps.locFn; (focus (first | exact Goes.free | exact Goes.on rfl rfl (by with_reducible rfl) true (by decide))); (focus (exact rfl)); (focus (exact rfl)); (focus (simp only [go_sem]; exact rfl)); (focus (simp only [go_sem])); (focus (exact live_fun)); (focus (first | rfl | simp [go_sem])); (focus (first | rfl | simp [go_sem]))) | (apply LOps.or2; exact rfl; exact rfl; exact rfl; exact rfl; exact rfl; (focus (with_reducible rfl)); (focus (first | kernel_rfl | rfl))) | refine Under.mk (fun hg => ?_) | fail)
  refine LK.condF2 rfl (by first | with_reducible rfl | rfl) (hc) ?_
  (repeat' first | refine LOps.done ?_ | (apply LOps.mv; (focus (first | exact Goes.free | exact Goes.on rfl rfl (by with_reducible rfl) true (by decide))); (focus (exact rfl)); (focus (exact rfl))) | (apply LOps.asg; (focus (first | exact Goes.free | exact Goes.on rfl rfl (by with_reducible rfl) true (by decide))); (focus (exact rfl)); (focus (exact rfl))) | (apply LOps.ext; (focus (first | exact Goes.free | exact Goes.on rfl rfl (by with_reducible rfl) true (by decide))); (focus (exact rfl)); (focus (exact rfl)); (focus (exact rfl))) | (apply LOps.loc; (focus (first | exact Goes.free | exact Goes.on rfl rfl (by with_reducible rfl) true (by decide))); (focus (exact rfl)); (focus (exact rfl)); (focus (simp only [go_sem, ↓reduceIte, Nat.reduceEqDiff, reduceCtorEq, Nat.reduceLT, Nat.reduceAdd, Int.reduceLT, hmx, Int.ofNat_zero, Int.reduceLT]; with_reducible rfl))) | refine LK.seq ?_ | refine LK.skip ?_ | refine LK.block ?_ | refine LK.ret' ?_ | refine LK.exit' rfl ?_ | (apply LK.condF2; (focus (exact rfl)); (focus (with_reducible rfl)); (focus (first | with_reducible rfl | decide | (with_reducible exact Bool.false_and _) | (with_reducible exact congrArg (fun b => b && _) (Bool.false_and _))))) | refine LK.regc ?_ | (apply retQ; (focus (first | exact lres_one rfl | exact lres_more rfl | (simp only [lres, lresv, Try.results7, go_sem, ↓reduceIte, Nat.reduceEqDiff, reduceCtorEq, Nat.reduceLT, Nat.reduceAdd, Int.reduceBEq, Int.reduceBNe, Int.reduceEq, Int.reduceLE, Int.reduceLT, Int.reduceToNat, Nat.reduceLeDiff, Nat.reduceMul, Nat.reduceSub, hmx, ht, Int.ofNat_zero, wrap_small, Int.reduceAdd, Int.reduceSub, Int.reduceMul, Int.reduceMod, Int.reduceNeg, Int.reduceToNat, Int.reduceLT, Int.reduceLE, Int.reduceGT, Int.reduceGE, Int.zero_add, Int.add_zero, List.replicate_succ, List.replicate_zero, Nat.reduceSub]; exact rfl)))) | (apply LOps.locFn; (focus (first | exact Goes.free | exact Goes.on rfl rfl (by with_reducible rfl) true (by decide))); (focus (exact rfl)); (focus (exact rfl)); (focus (simp only [go_sem, ↓reduceIte, Nat.reduceEqDiff]; exact rfl)); (focus (simp only [go_sem])); (focus (first | exact hT | exact hR | exact g1 | exact g2 | exact d1 | exact d2 | exact f1 | exact f2 | exact t1 | exact t2 | exact t3 | exact t4 | exact t5 | exact t6 | exact k1 | exact k2 | exact s1 | exact s2)); (focus (first | rfl | simp [go_sem])); (focus (first | rfl | simp [go_sem]))) | (apply LOps.borrowFn; (focus (first | exact Goes.free | exact Goes.on rfl rfl (by with_reducible rfl) true (by decide))); (focus (exact rfl)); (focus (exact rfl)); (focus (simp only [go_sem, ↓reduceIte, Nat.reduceEqDiff]; exact rfl)); (focus (simp only [go_sem])); (focus (simp only [go_sem, ↓reduceIte, ht]; exact rfl)); (focus (first | exact hT | exact hR | exact g1 | exact g2 | exact d1 | exact d2 | exact f1 | exact f2 | exact t1 | exact t2 | exact t3 | exact t4 | exact t5 | exact t6 | exact k1 | exact k2 | exact s1 | exact s2)); (focus (first | rfl | simp [go_sem])); (focus (exact rfl))) | refine LK.rounds 1 ?_ | fail)
  all_goals rfl
theorem does_fun (l o : List Jn) (on who : Int) : Fun Try.prog 7 [sJ l, sJ o, vi on, vi who] (vb true) := by
  by_cases h : 260 < l.length ∨ 260 < o.length
  · exact does_skip l o on who h
  · have hR := rwait_fun l on who
    by_cases he : wtE l on who = 0
    · rw [wtL, if_pos he, he] at hR
      obtain ⟨q1, q2, q3, q4, q5⟩ := wtE_ok he
      have hT := wait_own l on who l.length rfl q1 q2 q3 q4 q5
      exact does_ok l o on who (by omega) (by omega) _ (l.length + 1) (by simp) (by omega) hT hR
    · have hT := wait_fun l on who (by omega)
      rw [wtL, if_neg he] at hR hT
      exact does_bad l o on who (by omega) (by omega) _ hT hR
end Go.Proofs.Ytoppnepjemhckaa
