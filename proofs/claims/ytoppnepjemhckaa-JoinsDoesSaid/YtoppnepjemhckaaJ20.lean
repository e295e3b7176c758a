/- Chapter 11: the document's Wait, Done, Drop. -/
import Derived.Test.YtoppnepjemhckaaJ16
import Derived.Test.YtoppnepjemhckaaJ19
set_option linter.unusedSimpArgs false
set_option linter.unusedVariables false
namespace Go.Proofs.Ytoppnepjemhckaa
open Go.Lw
attribute [local irreducible] LK LOps LW
set_option maxHeartbeats 4000000 in
set_option maxRecDepth 10000 in
theorem rwait_1 (l : List Jn) (on who : Int) (g : ¬ okJ l) : Fun Try.prog 15 [sJ l, vi on, vi who] (.tup [nil0, vi 1]) := by
  have hck := rcheck_fun l
  rw [chkJ_no g] at hck
  (refine LCalls.enter Try.func15 rfl (by simp [Try.ntmps15]) (LK.start ?_); simp only [Try.ntmps15, enterA, Nat.zero_add])
  (repeat' first | refine LOps.done ?_ | (apply LOps.mv; (focus (first | exact Goes.free | exact Goes.on rfl rfl (by with_reducible rfl) true (by decide))); (focus (exact rfl)); (focus (exact rfl))) | (apply LOps.loc; (focus (first | exact Goes.free | exact Goes.on rfl rfl (by with_reducible rfl) true (by decide))); (focus (exact rfl)); (focus (exact rfl)); (focus (simp only [go_sem, ↓reduceIte, reduceCtorEq, Int.reduceBNe]; with_reducible rfl))) | (apply LOps.pass; (focus (first | exact Goes.on rfl rfl (by with_reducible rfl) false (by decide) | exact Goes.undef rfl rfl (by with_reducible rfl))); (focus (exact rfl))) | refine LK.seq ?_ | refine LK.ret' ?_ | (apply LK.condT2; (focus (exact rfl)); (focus (with_reducible rfl)); (focus (first | with_reducible rfl | decide | (with_reducible exact Bool.true_or _) | (with_reducible exact congrArg (fun b => b || _) (Bool.true_or _))))) | refine LK.regc ?_ | (apply retQ; (focus (first | exact lres_one rfl | exact lres_more rfl | (simp only [lres, lresv, Try.results15, go_sem, ↓reduceIte, Nat.reduceEqDiff, reduceCtorEq, Nat.reduceLT, Nat.reduceAdd, Int.reduceBEq, Int.reduceBNe, Int.reduceEq, Int.reduceLE, Int.reduceLT, Int.reduceToNat, Nat.reduceLeDiff, Nat.reduceMul, Nat.reduceSub]; exact rfl)))) | (apply LOps.locFn; (focus (first | exact Goes.free | exact Goes.on rfl rfl (by with_reducible rfl) true (by decide))); (focus (exact rfl)); (focus (exact rfl)); (focus (simp only [go_sem, ↓reduceIte]; exact rfl)); (focus (simp only [go_sem])); (focus (exact hck)); (focus (first | rfl | simp [go_sem])); (focus (first | rfl | simp [go_sem]))) | fail)
  all_goals rfl
set_option maxHeartbeats 4000000 in
set_option maxRecDepth 10000 in
theorem rwait_2 (l : List Jn) (on who : Int) (g : okJ l) (h : on < 0 ∨ who < 0) : Fun Try.prog 15 [sJ l, vi on, vi who] (.tup [nil0, vi 1]) := by
  have hck := rcheck_fun l
  rw [chkJ_ok g] at hck
  by_cases h1 : on < 0
  · (refine LCalls.enter Try.func15 rfl (by simp [Try.ntmps15]) (LK.start ?_); simp only [Try.ntmps15, enterA, Nat.zero_add])
    (repeat' first | refine LOps.done ?_ | (apply LOps.mv; (focus (first | exact Goes.free | exact Goes.on rfl rfl (by with_reducible rfl) true (by decide))); (focus (exact rfl)); (focus (exact rfl))) | (apply LOps.loc; (focus (first | exact Goes.free | exact Goes.on rfl rfl (by with_reducible rfl) true (by decide))); (focus (exact rfl)); (focus (exact rfl)); (focus (simp only [go_sem, ↓reduceIte, Nat.reduceEqDiff, reduceCtorEq, Int.reduceBNe, h1]; with_reducible rfl))) | (apply LOps.pass; (focus (first | exact Goes.on rfl rfl (by with_reducible rfl) false (by decide) | exact Goes.undef rfl rfl (by with_reducible rfl))); (focus (exact rfl))) | refine LK.seq ?_ | refine LK.ret' ?_ | (apply LK.condT2; (focus (exact rfl)); (focus (with_reducible rfl)); (focus (first | with_reducible rfl | decide | (with_reducible exact Bool.true_or _) | (with_reducible exact congrArg (fun b => b || _) (Bool.true_or _))))) | refine LK.regc ?_ | (apply retQ; (focus (first | exact lres_one rfl | exact lres_more rfl | (simp only [lres, lresv, Try.results15, go_sem, ↓reduceIte, Nat.reduceEqDiff, reduceCtorEq, Nat.reduceLT, Nat.reduceAdd, Int.reduceBEq, Int.reduceBNe, Int.reduceEq, Int.reduceLE, Int.reduceLT, Int.reduceToNat, Nat.reduceLeDiff, Nat.reduceMul, Nat.reduceSub, h1]; exact rfl)))) | (apply LOps.locFn; (focus (first | exact Goes.free | exact Goes.on rfl rfl (by with_reducible rfl) true (by decide))); (focus (exact rfl)); (focus (exact rfl)); (focus (simp only [go_sem, ↓reduceIte]; exact rfl)); (focus (simp only [go_sem])); (focus (exact hck)); (focus (first | rfl | simp [go_sem])); (focus (first | rfl | simp [go_sem]))) | fail)
    all_goals rfl
  · have h2 : who < 0 := by omega
    (refine LCalls.enter Try.func15 rfl (by simp [Try.ntmps15]) (LK.start ?_); simp only [Try.ntmps15, enterA, Nat.zero_add])
    (repeat' first | refine LOps.done ?_ | (apply LOps.mv; (focus (first | exact Goes.free | exact Goes.on rfl rfl (by with_reducible rfl) true (by decide))); (focus (exact rfl)); (focus (exact rfl))) | (apply LOps.loc; (focus (first | exact Goes.free | exact Goes.on rfl rfl (by with_reducible rfl) true (by decide))); (focus (exact rfl)); (focus (exact rfl)); (focus (simp only [go_sem, ↓reduceIte, Nat.reduceEqDiff, reduceCtorEq, Int.reduceBNe, h1, h2]; with_reducible rfl))) | refine LK.seq ?_ | refine LK.ret' ?_ | (apply LK.condT2; (focus (exact rfl)); (focus (with_reducible rfl)); (focus (first | with_reducible rfl | decide | (with_reducible exact Bool.true_or _) | (with_reducible exact congrArg (fun b => b || _) (Bool.true_or _))))) | refine LK.regc ?_ | (apply retQ; (focus (first | exact lres_one rfl | exact lres_more rfl | (simp only [lres, lresv, Try.results15, go_sem, ↓reduceIte, Nat.reduceEqDiff, reduceCtorEq, Nat.reduceLT, Nat.reduceAdd, Int.reduceBEq, Int.reduceBNe, Int.reduceEq, Int.reduceLE, Int.reduceLT, Int.reduceToNat, Nat.reduceLeDiff, Nat.reduceMul, Nat.reduceSub, h1, h2]; exact rfl)))) | (apply LOps.locFn; (focus (first | exact Goes.free | exact Goes.on rfl rfl (by with_reducible rfl) true (by decide))); (focus (exact rfl)); (focus (exact rfl)); (focus (simp only [go_sem, ↓reduceIte]; exact rfl)); (focus (simp only [go_sem])); (focus (exact hck)); (focus (first | rfl | simp [go_sem])); (focus (first | rfl | simp [go_sem]))) | fail)
    all_goals rfl
set_option maxHeartbeats 4000000 in
set_option maxRecDepth 10000 in
theorem rwait_3 (l : List Jn) (on who : Int) (g : okJ l) (h : ¬ (on < 0 ∨ who < 0)) (hs : (aget who (mOf l)).isSome = true) : Fun Try.prog 15 [sJ l, vi on, vi who] (.tup [nil0, vi 6]) := by
  have hck := rcheck_fun l
  rw [chkJ_ok g] at hck
  have h1 : ¬ on < 0 := by omega
  have h2 : ¬ who < 0 := by omega
  have hw := rway_ok l who g
  obtain ⟨v, t, _, w2⟩ := way_some hs
  have hp : ((way l who).length : Int) > 0 := by rw [w2, List.length_cons]; omega
  generalize way l who = W at *
  (refine LCalls.enter Try.func15 rfl (by simp [Try.ntmps15]) (LK.start ?_); simp only [Try.ntmps15, enterA, Nat.zero_add])
  (repeat' first | refine LOps.done ?_ | (apply LOps.mv; (focus (first | exact Goes.free | exact Goes.on rfl rfl (by with_reducible rfl) true (by decide))); (focus (exact rfl)); (focus (exact rfl))) | (apply LOps.loc; (focus (first | exact Goes.free | exact Goes.on rfl rfl (by with_reducible rfl) true (by decide))); (focus (exact rfl)); (focus (exact rfl)); (focus (simp only [go_sem, ↓reduceIte, Nat.reduceEqDiff, reduceCtorEq, Int.reduceBNe, h1, h2, hp]; with_reducible rfl))) | refine LK.seq ?_ | refine LK.skip ?_ | refine LK.ret' ?_ | (apply LK.condT2; (focus (exact rfl)); (focus (with_reducible rfl)); (focus (first | with_reducible rfl | decide | (with_reducible exact Bool.true_or _) | (with_reducible exact congrArg (fun b => b || _) (Bool.true_or _))))) | (apply LK.condF2; (focus (exact rfl)); (focus (with_reducible rfl)); (focus (first | with_reducible rfl | decide | (with_reducible exact Bool.false_and _) | (with_reducible exact congrArg (fun b => b && _) (Bool.false_and _))))) | refine LK.regc ?_ | (apply retQ; (focus (first | exact lres_one rfl | exact lres_more rfl | (simp only [lres, lresv, Try.results15, go_sem, ↓reduceIte, Nat.reduceEqDiff, reduceCtorEq, Nat.reduceLT, Nat.reduceAdd, Int.reduceBEq, Int.reduceBNe, Int.reduceEq, Int.reduceLE, Int.reduceLT, Int.reduceToNat, Nat.reduceLeDiff, Nat.reduceMul, Nat.reduceSub, h1, h2, hp]; exact rfl)))) | (apply LOps.locFn; (focus (first | exact Goes.free | exact Goes.on rfl rfl (by with_reducible rfl) true (by decide))); (focus (exact rfl)); (focus (exact rfl)); (focus (simp only [go_sem, ↓reduceIte, Nat.reduceEqDiff]; exact rfl)); (focus (simp only [go_sem])); (focus (first | exact hck | exact hw)); (focus (first | rfl | simp [go_sem])); (focus (first | rfl | simp [go_sem]))) | fail)
  all_goals rfl
set_option maxHeartbeats 4000000 in
set_option maxRecDepth 10000 in
theorem rwait_4 (l : List Jn) (on who : Int) (g : okJ l) (h : ¬ (on < 0 ∨ who < 0)) (hs : (aget who (mOf l)).isSome = false) (hr : on = who ∨ who ∈ way l on) : Fun Try.prog 15 [sJ l, vi on, vi who] (.tup [nil0, vi 9]) := by
  have hck := rcheck_fun l
  rw [chkJ_ok g] at hck
  have h1 : ¬ on < 0 := by omega
  have h2 : ¬ who < 0 := by omega
  have hw := rway_ok l who g
  rw [way_nil hs] at hw
  have n0 : ((0 : Nat) : Int) = 0 := rfl
  have hwo := rway_ok l on g
  have hhas := rhas_fun (way l on) who (by have := wayl_len l on; have := g.2.1; omega)
  by_cases e : on = who
  · have he : (on == who) = true := by simpa using e
    (refine LCalls.enter Try.func15 rfl (by simp [Try.ntmps15]) (LK.start ?_); simp only [Try.ntmps15, enterA, Nat.zero_add])
    (repeat' first | refine LOps.done ?_ | (apply LOps.mv; (focus (first | exact Goes.free | exact Goes.on rfl rfl (by with_reducible rfl) true (by decide))); (focus (exact rfl)); (focus (exact rfl))) | (apply LOps.loc; (focus (first | exact Goes.free | exact Goes.on rfl rfl (by with_reducible rfl) true (by decide))); (focus (exact rfl)); (focus (exact rfl)); (focus (simp only [go_sem, ↓reduceIte, Nat.reduceEqDiff, reduceCtorEq, Int.reduceBNe, h1, h2, n0, he]; with_reducible rfl))) | (apply LOps.pass; (focus (first | exact Goes.on rfl rfl (by with_reducible rfl) false (by decide) | exact Goes.undef rfl rfl (by with_reducible rfl))); (focus (exact rfl))) | refine LK.seq ?_ | refine LK.skip ?_ | refine LK.ret' ?_ | (apply LK.condT2; (focus (exact rfl)); (focus (with_reducible rfl)); (focus (first | with_reducible rfl | decide | (with_reducible exact Bool.true_or _) | (with_reducible exact congrArg (fun b => b || _) (Bool.true_or _))))) | (apply LK.condF2; (focus (exact rfl)); (focus (with_reducible rfl)); (focus (first | with_reducible rfl | decide | (with_reducible exact Bool.false_and _) | (with_reducible exact congrArg (fun b => b && _) (Bool.false_and _))))) | refine LK.regc ?_ | (apply retQ; (focus (first | exact lres_one rfl | exact lres_more rfl | (simp only [lres, lresv, Try.results15, go_sem, ↓reduceIte, Nat.reduceEqDiff, reduceCtorEq, Nat.reduceLT, Nat.reduceAdd, Int.reduceBEq, Int.reduceBNe, Int.reduceEq, Int.reduceLE, Int.reduceLT, Int.reduceToNat, Nat.reduceLeDiff, Nat.reduceMul, Nat.reduceSub, h1, h2, n0, he]; exact rfl)))) | (apply LOps.locFn; (focus (first | exact Goes.free | exact Goes.on rfl rfl (by with_reducible rfl) true (by decide))); (focus (exact rfl)); (focus (exact rfl)); (focus (simp only [go_sem, ↓reduceIte, Nat.reduceEqDiff]; exact rfl)); (focus (simp only [go_sem])); (focus (first | exact hck | exact hw)); (focus (first | rfl | simp [go_sem])); (focus (first | rfl | simp [go_sem]))) | fail)
    all_goals rfl
  · have he : (on == who) = false := by simpa using e
    rw [decide_eq_true (hr.resolve_left e)] at hhas
    (refine LCalls.enter Try.func15 rfl (by simp [Try.ntmps15]) (LK.start ?_); simp only [Try.ntmps15, enterA, Nat.zero_add])
    (repeat' first | refine LOps.done ?_ | (apply LOps.mv; (focus (first | exact Goes.free | exact Goes.on rfl rfl (by with_reducible rfl) true (by decide))); (focus (exact rfl)); (focus (exact rfl))) | (apply LOps.loc; (focus (first | exact Goes.free | exact Goes.on rfl rfl (by with_reducible rfl) true (by decide))); (focus (exact rfl)); (focus (exact rfl)); (focus (simp only [go_sem, ↓reduceIte, Nat.reduceEqDiff, reduceCtorEq, Int.reduceBNe, h1, h2, n0, he]; with_reducible rfl))) | refine LK.seq ?_ | refine LK.skip ?_ | refine LK.ret' ?_ | (apply LK.condT2; (focus (exact rfl)); (focus (with_reducible rfl)); (focus (first | with_reducible rfl | decide | (with_reducible exact Bool.true_or _) | (with_reducible exact congrArg (fun b => b || _) (Bool.true_or _))))) | (apply LK.condF2; (focus (exact rfl)); (focus (with_reducible rfl)); (focus (first | with_reducible rfl | decide | (with_reducible exact Bool.false_and _) | (with_reducible exact congrArg (fun b => b && _) (Bool.false_and _))))) | refine LK.regc ?_ | (apply retQ; (focus (first | exact lres_one rfl | exact lres_more rfl | (simp only [lres, lresv, Try.results15, go_sem, ↓reduceIte, Nat.reduceEqDiff, reduceCtorEq, Nat.reduceLT, Nat.reduceAdd, Int.reduceBEq, Int.reduceBNe, Int.reduceEq, Int.reduceLE, Int.reduceLT, Int.reduceToNat, Nat.reduceLeDiff, Nat.reduceMul, Nat.reduceSub, h1, h2, n0, he]; exact rfl)))) | (apply LOps.locFn; (focus (first | exact Goes.free | exact Goes.on rfl rfl (by with_reducible rfl) true (by decide))); (focus (exact rfl)); (focus (exact rfl)); (focus (simp only [go_sem, ↓reduceIte, Nat.reduceEqDiff]; exact rfl)); (focus (simp only [go_sem])); (focus (first | exact hck | exact hw | exact hwo | exact hhas)); (focus (first | rfl | simp [go_sem])); (focus (first | rfl | simp [go_sem]))) | fail)
    all_goals rfl
set_option maxHeartbeats 4000000 in
set_option maxRecDepth 10000 in
theorem rwait_5 (l : List Jn) (on who : Int) (g : okJ l) (h : ¬ (on < 0 ∨ who < 0)) (hs : (aget who (mOf l)).isSome = false) (hr : ¬ (on = who ∨ who ∈ way l on)) (hf : l.length = 256) : Fun Try.prog 15 [sJ l, vi on, vi who] (.tup [nil0, vi 7]) := by
  have hck := rcheck_fun l
  rw [chkJ_ok g] at hck
  have h1 : ¬ on < 0 := by omega
  have h2 : ¬ who < 0 := by omega
  have hw := rway_ok l who g
  rw [way_nil hs] at hw
  have n0 : ((0 : Nat) : Int) = 0 := rfl
  have hwo := rway_ok l on g
  have hhas := rhas_fun (way l on) who (by have := wayl_len l on; have := g.2.1; omega)
  have he : (on == who) = false := by simpa using fun e => hr (.inl e)
  rw [decide_eq_false fun e => hr (.inr e)] at hhas
  have hfl : ((l.length : Int) == 256) = true := by rw [hf]; rfl
  (refine LCalls.enter Try.func15 rfl (by simp [Try.ntmps15]) (LK.start ?_); simp only [Try.ntmps15, enterA, Nat.zero_add])
  (repeat' first | refine LOps.done ?_ | (apply LOps.mv; (focus (first | exact Goes.free | exact Goes.on rfl rfl (by with_reducible rfl) true (by decide))); (focus (exact rfl)); (focus (exact rfl))) | (apply LOps.loc; (focus (first | exact Goes.free | exact Goes.on rfl rfl (by with_reducible rfl) true (by decide))); (focus (exact rfl)); (focus (exact rfl)); (focus (simp only [go_sem, ↓reduceIte, Nat.reduceEqDiff, reduceCtorEq, Int.reduceBNe, h1, h2, n0, he, hfl]; with_reducible rfl))) | refine LK.seq ?_ | refine LK.skip ?_ | refine LK.ret' ?_ | (apply LK.condT2; (focus (exact rfl)); (focus (with_reducible rfl)); (focus (first | with_reducible rfl | decide | (with_reducible exact Bool.true_or _) | (with_reducible exact congrArg (fun b => b || _) (Bool.true_or _))))) | (apply LK.condF2; (focus (exact rfl)); (focus (with_reducible rfl)); (focus (first | with_reducible rfl | decide | (with_reducible exact Bool.false_and _) | (with_reducible exact congrArg (fun b => b && _) (Bool.false_and _))))) | refine LK.regc ?_ | (apply retQ; (focus (first | exact lres_one rfl | exact lres_more rfl | (simp only [lres, lresv, Try.results15, go_sem, ↓reduceIte, Nat.reduceEqDiff, reduceCtorEq, Nat.reduceLT, Nat.reduceAdd, Int.reduceBEq, Int.reduceBNe, Int.reduceEq, Int.reduceLE, Int.reduceLT, Int.reduceToNat, Nat.reduceLeDiff, Nat.reduceMul, Nat.reduceSub, h1, h2, n0, he, hfl]; exact rfl)))) | (apply LOps.locFn; (focus (first | exact Goes.free | exact Goes.on rfl rfl (by with_reducible rfl) true (by decide))); (focus (exact rfl)); (focus (exact rfl)); (focus (simp only [go_sem, ↓reduceIte, Nat.reduceEqDiff]; exact rfl)); (focus (simp only [go_sem])); (focus (first | exact hck | exact hw | exact hwo | exact hhas)); (focus (first | rfl | simp [go_sem])); (focus (first | rfl | simp [go_sem]))) | fail)
  all_goals rfl
set_option maxHeartbeats 4000000 in
set_option maxRecDepth 10000 in
theorem rwait_6 (l : List Jn) (on who : Int) (g : okJ l) (h : ¬ (on < 0 ∨ who < 0)) (hs : (aget who (mOf l)).isSome = false) (hr : ¬ (on = who ∨ who ∈ way l on)) (hf : ¬ l.length = 256) : Fun Try.prog 15 [sJ l, vi on, vi who] (.tup [sJ (l ++ [(on, who)]), vi 0]) := by
  have hck := rcheck_fun l
  rw [chkJ_ok g] at hck
  have h1 : ¬ on < 0 := by omega
  have h2 : ¬ who < 0 := by omega
  have hw := rway_ok l who g
  rw [way_nil hs] at hw
  have n0 : ((0 : Nat) : Int) = 0 := rfl
  have hwo := rway_ok l on g
  have hl2 := g.2.1
  have hhas := rhas_fun (way l on) who (by have := wayl_len l on; omega)
  have he : (on == who) = false := by simpa using fun e => hr (.inl e)
  rw [decide_eq_false fun e => hr (.inr e)] at hhas
  have hfl : ((l.length : Int) == 256) = false := by rw [beq_eq_false_iff_ne]; omega
  have hm1 : l.length ≤ maxLen ∧ l.length * 16 ≤ 140737488355328 := by simp only [maxLen]; omega
  have hm2 : l.length + 1 ≤ maxLen ∧ (l.length + 1) * 16 ≤ 140737488355328 := by simp only [maxLen]; omega
  have hap : oF cJ l ++ [[vi on, vi who]] = oF cJ (l ++ [(on, who)]) := by simp [oF, rF, cJ]
  have hln : (l ++ [(on, who)]).length = l.length + 1 := by simp
  have ht : (l ++ [(on, who)]).take (l.length + 1) = l ++ [(on, who)] := List.take_of_length_le (by omega)
  refine Fun.frozenLe ?_
  (refine LCalls.enter Try.func15 rfl (by simp [Try.ntmps15]) (LK.start ?_); simp only [Try.ntmps15, enterA, Nat.zero_add])
  (repeat' first | refine LOps.done ?_ | (apply LOps.mv; (focus (first | exact Goes.free | exact Goes.on rfl rfl (by with_reducible rfl) true (by decide))); (focus (exact rfl)); (focus (exact rfl))) | (apply LOps.asg; (focus (first | exact Goes.free | exact Goes.on rfl rfl (by with_reducible rfl) true (by decide))); (focus (exact rfl)); (focus (exact rfl))) | (apply LOps.loc; (focus (first | exact Goes.free | exact Goes.on rfl rfl (by with_reducible rfl) true (by decide))); (focus (exact rfl)); (focus (exact rfl)); (focus (simp only [go_sem, ↓reduceIte, Nat.reduceEqDiff, reduceCtorEq, Nat.reduceLT, Nat.reduceAdd, Int.reduceBNe, Nat.reduceLeDiff, h1, h2, n0, he, hfl, hm1, hm2, hap]; with_reducible rfl))) | refine LK.seq ?_ | refine LK.skip ?_ | refine LK.ret' ?_ | (apply LK.condF2; (focus (exact rfl)); (focus (with_reducible rfl)); (focus (first | with_reducible rfl | decide | (with_reducible exact Bool.false_and _) | (with_reducible exact congrArg (fun b => b && _) (Bool.false_and _))))) | refine LK.regc ?_ | (apply retQ; (focus (first | exact lres_one rfl | exact lres_more rfl | (simp only [lres, lresv, Try.results15, go_sem, ↓reduceIte, Nat.reduceEqDiff, reduceCtorEq, Nat.reduceLT, Nat.reduceAdd, Int.reduceBEq, Int.reduceBNe, Int.reduceEq, Int.reduceLE, Int.reduceLT, Int.reduceToNat, Nat.reduceLeDiff, Nat.reduceMul, Nat.reduceSub, h1, h2, n0, he, hfl, hm1, hm2, hap, cJ_eq]; exact rfl)))) | (apply LOps.locFn; (focus (first | exact Goes.free | exact Goes.on rfl rfl (by with_reducible rfl) true (by decide))); (focus (exact rfl)); (focus (exact rfl)); (focus (simp only [go_sem, ↓reduceIte, Nat.reduceEqDiff]; exact rfl)); (focus (simp only [go_sem])); (focus (first | exact hck | exact hw | exact hwo | exact hhas)); (focus (first | rfl | simp [go_sem])); (focus (first | rfl | simp [go_sem]))) | fail)
  (simp only [go_sem, ↓reduceIte, hln, ht]; repeat' first | exact LV.le_refl _ | exact LV.le_nil _ | exact le_nilF _ _ | exact LV.le_any _ _ _ | refine LV.le_tup ?_ | refine LV.le_agg ?_ | exact LV.les_nil | refine LV.les_cons ?_ ?_)
theorem rwait_fun (l : List Jn) (on who : Int) : Fun Try.prog 15 [sJ l, vi on, vi who] (.tup [sJ (wtL l on who), vi (wtE l on who)]) := by
  by_cases g : okJ l ∧ ¬ (on < 0 ∨ who < 0)
  · by_cases h1 : (aget who (mOf l)).isSome = true
    · have e : wtE l on who = 6 := by rw [wtE, if_pos g, if_pos h1]
      rw [wtL, e]; exact nil_up (rwait_3 l on who g.1 g.2 h1)
    · have h1' : (aget who (mOf l)).isSome = false := by simpa using h1
      by_cases h2 : on = who ∨ who ∈ way l on
      · have e : wtE l on who = 9 := by rw [wtE, if_pos g, if_neg h1, if_pos h2]
        rw [wtL, e]; exact nil_up (rwait_4 l on who g.1 g.2 h1' h2)
      · by_cases h3 : l.length = 256
        · have e : wtE l on who = 7 := by rw [wtE, if_pos g, if_neg h1, if_neg h2, if_pos h3]
          rw [wtL, e]; exact nil_up (rwait_5 l on who g.1 g.2 h1' h2 h3)
        · have e : wtE l on who = 0 := by rw [wtE, if_pos g, if_neg h1, if_neg h2, if_neg h3]
          rw [wtL, e, if_pos rfl]
          exact rwait_6 l on who g.1 g.2 h1' h2 h3
  · have e : wtE l on who = 1 := by rw [wtE, if_neg g]
    rw [wtL, e]
    by_cases g1 : okJ l
    · refine nil_up (rwait_2 l on who g1 ?_)
      by_cases g2 : on < 0 ∨ who < 0
      · exact g2
      · exact absurd ⟨g1, g2⟩ g
    · exact nil_up (rwait_1 l on who g1)
theorem ft_step {p : Jn → Bool} {l : List Jn} {k : Nat} {x : Jn} (hx : l[k]? = some x) : (l.take (k + 1)).filter p = (l.take k).filter p ++ (if p x = true then [x] else []) := by
  rw [List.take_add_one, hx, List.filter_append]
  by_cases e : p x = true <;> simp [e]
set_option maxHeartbeats 4000000 in
set_option maxRecDepth 10000 in
theorem rdrop_1 (l : List Jn) (who : Int) (g : ¬ okJ l) : Fun Try.prog 17 [sJ l, vi who] (.tup [nil0, vi 1]) := by
  have hck := rcheck_fun l
  rw [chkJ_no g] at hck
  (refine LCalls.enter Try.func17 rfl (by simp [Try.ntmps17]) (LK.start ?_); simp only [Try.ntmps17, enterA, Nat.zero_add])
  (repeat' first | refine LOps.done ?_ | (apply LOps.mv; (focus (first | exact Goes.free | exact Goes.on rfl rfl (by with_reducible rfl) true (by decide))); (focus (exact rfl)); (focus (exact rfl))) | (apply LOps.loc; (focus (first | exact Goes.free | exact Goes.on rfl rfl (by with_reducible rfl) true (by decide))); (focus (exact rfl)); (focus (exact rfl)); (focus (simp only [go_sem, ↓reduceIte, reduceCtorEq, Int.reduceBNe]; with_reducible rfl))) | refine LK.seq ?_ | refine LK.ret' ?_ | (apply LK.condT2; (focus (exact rfl)); (focus (with_reducible rfl)); (focus (first | with_reducible rfl | decide | (with_reducible exact Bool.true_or _) | (with_reducible exact congrArg (fun b => b || _) (Bool.true_or _))))) | refine LK.regc ?_ | (apply retQ; (focus (first | exact lres_one rfl | exact lres_more rfl | (simp only [lres, lresv, Try.results17, go_sem, ↓reduceIte, Nat.reduceEqDiff, reduceCtorEq, Nat.reduceLT, Nat.reduceAdd, Int.reduceBEq, Int.reduceBNe, Int.reduceEq, Int.reduceLE, Int.reduceLT, Int.reduceToNat, Nat.reduceLeDiff, Nat.reduceMul, Nat.reduceSub]; exact rfl)))) | (apply LOps.locFn; (focus (first | exact Goes.free | exact Goes.on rfl rfl (by with_reducible rfl) true (by decide))); (focus (exact rfl)); (focus (exact rfl)); (focus (simp only [go_sem, ↓reduceIte]; exact rfl)); (focus (simp only [go_sem])); (focus (exact hck)); (focus (first | rfl | simp [go_sem])); (focus (first | rfl | simp [go_sem]))) | fail)
  all_goals rfl
set_option maxHeartbeats 4000000 in
set_option maxRecDepth 10000 in
theorem rdrop_2 (l : List Jn) (who : Int) (g : okJ l) (hs : (aget who (mOf l)).isSome = false) : Fun Try.prog 17 [sJ l, vi who] (.tup [nil0, vi 5]) := by
  have hck := rcheck_fun l
  rw [chkJ_ok g] at hck
  have hw := rway_ok l who g
  rw [way_nil hs] at hw
  have n0 : ((0 : Nat) : Int) = 0 := rfl
  (refine LCalls.enter Try.func17 rfl (by simp [Try.ntmps17]) (LK.start ?_); simp only [Try.ntmps17, enterA, Nat.zero_add])
  (repeat' first | refine LOps.done ?_ | (apply LOps.mv; (focus (first | exact Goes.free | exact Goes.on rfl rfl (by with_reducible rfl) true (by decide))); (focus (exact rfl)); (focus (exact rfl))) | (apply LOps.loc; (focus (first | exact Goes.free | exact Goes.on rfl rfl (by with_reducible rfl) true (by decide))); (focus (exact rfl)); (focus (exact rfl)); (focus (simp only [go_sem, ↓reduceIte, reduceCtorEq, Int.reduceBNe, n0]; with_reducible rfl))) | refine LK.seq ?_ | refine LK.skip ?_ | refine LK.ret' ?_ | (apply LK.condT2; (focus (exact rfl)); (focus (with_reducible rfl)); (focus (first | with_reducible rfl | decide | (with_reducible exact Bool.true_or _) | (with_reducible exact congrArg (fun b => b || _) (Bool.true_or _))))) | (apply LK.condF2; (focus (exact rfl)); (focus (with_reducible rfl)); (focus (first | with_reducible rfl | decide | (with_reducible exact Bool.false_and _) | (with_reducible exact congrArg (fun b => b && _) (Bool.false_and _))))) | refine LK.regc ?_ | (apply retQ; (focus (first | exact lres_one rfl | exact lres_more rfl | (simp only [lres, lresv, Try.results17, go_sem, ↓reduceIte, Nat.reduceEqDiff, reduceCtorEq, Nat.reduceLT, Nat.reduceAdd, Int.reduceBEq, Int.reduceBNe, Int.reduceEq, Int.reduceLE, Int.reduceLT, Int.reduceToNat, Nat.reduceLeDiff, Nat.reduceMul, Nat.reduceSub, n0]; exact rfl)))) | (apply LOps.locFn; (focus (first | exact Goes.free | exact Goes.on rfl rfl (by with_reducible rfl) true (by decide))); (focus (exact rfl)); (focus (exact rfl)); (focus (simp only [go_sem, ↓reduceIte, Nat.reduceEqDiff]; exact rfl)); (focus (simp only [go_sem])); (focus (first | exact hck | exact hw)); (focus (first | rfl | simp [go_sem])); (focus (first | rfl | simp [go_sem]))) | fail)
  all_goals rfl
set_option maxHeartbeats 4000000 in
set_option maxRecDepth 10000 in
theorem rdrop_3 (l : List Jn) (who : Int) (g : okJ l) (hs : (aget who (mOf l)).isSome = true) : Fun Try.prog 17 [sJ l, vi who] (.tup [sJ (l.filter fun x => !(isWho who x)), vi 0]) := by
  have hck := rcheck_fun l
  rw [chkJ_ok g] at hck
  have hw := rway_ok l who g
  obtain ⟨v, t, _, w2⟩ := way_some hs
  have hp : (((way l who).length : Int) == 0) = false := by rw [beq_eq_false_iff_ne, w2, List.length_cons]; omega
  have hl2 := g.2.1
  generalize way l who = W at *
  obtain ⟨p, hpd⟩ : ∃ p : Jn → Bool, p = fun x => !(isWho who x) := ⟨_, rfl⟩
  have hpx : ∀ x : Jn, (x.2 != who) = p x := by rw [hpd]; exact fun _ => rfl
  rw [← hpd]
  clear hpd
  refine Fun.frozenLe ?_
  (refine LCalls.enter Try.func17 rfl (by simp [Try.ntmps17]) (LK.start ?_); simp only [Try.ntmps17, enterA, Nat.zero_add])
  (repeat' first | refine LOps.done ?_ | (apply LOps.mv; (focus (first | exact Goes.free | exact Goes.on rfl rfl (by with_reducible rfl) true (by decide))); (focus (exact rfl)); (focus (exact rfl))) | (apply LOps.loc; (focus (first | exact Goes.free | exact Goes.on rfl rfl (by with_reducible rfl) true (by decide))); (focus (exact rfl)); (focus (exact rfl)); (focus (simp only [go_sem, ↓reduceIte, reduceCtorEq, Int.reduceBNe, hp]; with_reducible rfl))) | refine LK.seq ?_ | refine LK.skip ?_ | refine LK.block ?_ | (apply LK.condF2; (focus (exact rfl)); (focus (with_reducible rfl)); (focus (first | with_reducible rfl | decide | (with_reducible exact Bool.false_and _) | (with_reducible exact congrArg (fun b => b && _) (Bool.false_and _))))) | refine LK.regc ?_ | (apply LOps.locFn; (focus (first | exact Goes.free | exact Goes.on rfl rfl (by with_reducible rfl) true (by decide))); (focus (exact rfl)); (focus (exact rfl)); (focus (simp only [go_sem, ↓reduceIte, Nat.reduceEqDiff]; exact rfl)); (focus (simp only [go_sem])); (focus (first | exact hck | exact hw)); (focus (first | rfl | simp [go_sem])); (focus (first | rfl | simp [go_sem]))) | fail)
  refine LK.own0 6 2 (by simp only [upd, go_sem]; rfl) rfl ?_
  refine LK.loop (fun k : Nat => l.length - k) (fun k => k ≤ l.length) (fun k => ⟨33, [(0, sJ l), (1, vi who), (6, .own 0 (cn p l k) 0 (cn p l k)), (17, sJ l), (18, vi l.length), (19, vi k)]⟩) (fun k => [(0, .arr 2 (oF cJ ((l.take k).filter p)))]) 0 (Nat.zero_le _) (by dsimp only [List.take_zero, cn, List.filter_nil, List.length_nil]; exact (Sub.by rfl rfl (by first | rfl | (simp only [subB, MB_all_under, MI_all_under, MB_all_idp, MI_all_idp, oF_under, oF_idp, oF_all_under, oF_all_idp, MB_under, MI_under, MB_idp, MI_idp, evOk, ovOk, nvOk, keepOf, vis, LV.under, LV.unders, LV.idp, LV.idps, LO.under, LO.idp, under_pv, idp_pv, List.all_cons, List.all_nil, List.any_cons, List.any_nil, Nat.reduceBEq, beq_self_eq_true, Bool.and_true, Bool.true_and, Bool.or_true, Bool.true_or, Bool.or_false, Bool.false_or, decide_true, decide_false, Nat.reduceLT, Nat.reduceLeDiff, Nat.le_refl, Nat.reduceAdd, Bool.and_self, Bool.or_self]; done)))) ?_
  intro k hk J hJ
  have hpl := cn_le p l k
  have hcn : ((l.take k).filter p).length = cn p l k := rfl
  rcases Nat.lt_or_ge k l.length with hlt | hge
  · obtain ⟨x, hx⟩ := idx_all hlt
    have h1 : ((k : Int) < (l.length : Int)) := by omega
    have hwr := wrapn (n := k) (by omega)
    have hs := ft_step (p := p) hx
    have hcs := cn_step (p := p) hx
    have hq := hpx x
    cases e : p x with
    | false =>
      rw [e] at hs hcs hq
      simp only [Bool.false_eq_true, if_false, List.append_nil, Nat.add_zero] at hs hcs
      (repeat' first | refine LOps.done ?_ | (apply LOps.mv; (focus (first | exact Goes.free | exact Goes.on rfl rfl (by with_reducible rfl) true (by decide))); (focus (exact rfl)); (focus (exact rfl))) | (apply LOps.loc; (focus (first | exact Goes.free | exact Goes.on rfl rfl (by with_reducible rfl) true (by decide))); (focus (exact rfl)); (focus (exact rfl)); (focus (simp only [go_sem, ↓reduceIte, Nat.reduceEqDiff, reduceCtorEq, Nat.reduceLT, Nat.reduceAdd, h1, hx, hq, hwr, cJ_eq]; with_reducible rfl))) | (apply LOps.loc0; (focus (first | exact Goes.free | exact Goes.on rfl rfl (by with_reducible rfl) true (by decide))); (focus (exact rfl)); (focus (simp only [go_sem, ↓reduceIte, Nat.reduceEqDiff, reduceCtorEq, Nat.reduceLT, Nat.reduceAdd]; with_reducible rfl))) | refine LK.seq ?_ | refine LK.skip ?_ | refine LK.block ?_ | refine LK.blk ?_ | refine LK.fin ?_ | (apply LK.condT2; (focus (exact rfl)); (focus (with_reducible rfl)); (focus (first | with_reducible rfl | decide | (with_reducible exact Bool.true_or _) | (with_reducible exact congrArg (fun b => b || _) (Bool.true_or _))))) | (apply LK.condF2; (focus (exact rfl)); (focus (with_reducible rfl)); (focus (first | with_reducible rfl | decide | (with_reducible exact Bool.false_and _) | (with_reducible exact congrArg (fun b => b && _) (Bool.false_and _))))) | refine LK.regc ?_ | fail)
      apply hJ
      refine ⟨k + 1, hlt, by omega, ?_⟩
      dsimp only
      rw [hs, hcs]
      exact (Sub.by rfl rfl (by first | rfl | (simp only [subB, oF_all_under, LV.under, LO.under, List.all_cons, List.all_nil, decide_true, Nat.reduceLT, Nat.reduceAdd, Bool.and_self]; done)))
    | true =>
      rw [e] at hs hcs hq
      simp only [if_true] at hs hcs
      have hm : cn p l k + 1 ≤ maxLen ∧ (cn p l k + 1) * 16 ≤ 140737488355328 := by simp only [maxLen]; omega
      have hap : oF cJ ((l.take k).filter p) ++ [[vi x.1, vi x.2]] = oF cJ ((l.take k).filter p ++ [x]) := by simp [oF, rF, cJ]
      (repeat' first | refine LOps.done ?_ | (apply LOps.mv; (focus (first | exact Goes.free | exact Goes.on rfl rfl (by with_reducible rfl) true (by decide))); (focus (exact rfl)); (focus (exact rfl))) | (apply LOps.asg; (focus (first | exact Goes.free | exact Goes.on rfl rfl (by with_reducible rfl) true (by decide))); (focus (exact rfl)); (focus (exact rfl))) | (apply LOps.loc; (focus (first | exact Goes.free | exact Goes.on rfl rfl (by with_reducible rfl) true (by decide))); (focus (exact rfl)); (focus (exact rfl)); (focus (simp only [go_sem, ↓reduceIte, Nat.reduceEqDiff, reduceCtorEq, Nat.reduceLT, Nat.reduceAdd, Nat.reduceLeDiff, h1, hx, hq, hwr, hm, hap, hcn, cJ_eq]; with_reducible rfl))) | (apply LOps.loc0; (focus (first | exact Goes.free | exact Goes.on rfl rfl (by with_reducible rfl) true (by decide))); (focus (exact rfl)); (focus (simp only [go_sem, ↓reduceIte, Nat.reduceEqDiff, reduceCtorEq, Nat.reduceLT, Nat.reduceAdd]; with_reducible rfl))) | refine LK.seq ?_ | refine LK.skip ?_ | refine LK.block ?_ | refine LK.blk ?_ | refine LK.fin ?_ | (apply LK.condT2; (focus (exact rfl)); (focus (with_reducible rfl)); (focus (first | with_reducible rfl | decide | (with_reducible exact Bool.true_or _) | (with_reducible exact congrArg (fun b => b || _) (Bool.true_or _))))) | refine LK.regc ?_ | fail)
      apply hJ
      refine ⟨k + 1, hlt, by omega, ?_⟩
      dsimp only
      rw [hs, hcs]
      exact (Sub.by rfl rfl (by first | rfl | (simp only [subB, oF_all_under, LV.under, LO.under, List.all_cons, List.all_nil, decide_true, Nat.reduceLT, Nat.reduceAdd, Bool.and_self]; done)))
  · have h1 : ¬ ((k : Int) < (l.length : Int)) := by omega
    obtain rfl : k = l.length := by omega
    rw [List.take_length] at hcn
    have ht : (l.filter p).take (cn p l l.length) = l.filter p := List.take_of_length_le (by omega)
    dsimp only
    rw [List.take_length]
    (repeat' first | refine LOps.done ?_ | (apply LOps.mv; (focus (first | exact Goes.free | exact Goes.on rfl rfl (by with_reducible rfl) true (by decide))); (focus (exact rfl)); (focus (exact rfl))) | (apply LOps.asg; (focus (first | exact Goes.free | exact Goes.on rfl rfl (by with_reducible rfl) true (by decide))); (focus (exact rfl)); (focus (exact rfl))) | (apply LOps.loc; (focus (first | exact Goes.free | exact Goes.on rfl rfl (by with_reducible rfl) true (by decide))); (focus (exact rfl)); (focus (exact rfl)); (focus (simp only [go_sem, ↓reduceIte, Nat.reduceEqDiff, h1]; with_reducible rfl))) | refine LK.seq ?_ | refine LK.ret' ?_ | refine LK.exit' rfl ?_ | (apply LK.condF2; (focus (exact rfl)); (focus (with_reducible rfl)); (focus (first | with_reducible rfl | decide | (with_reducible exact Bool.false_and _) | (with_reducible exact congrArg (fun b => b && _) (Bool.false_and _))))) | refine LK.regc ?_ | (apply retQ; (focus (first | exact lres_one rfl | exact lres_more rfl | (simp only [lres, lresv, Try.results17, go_sem, ↓reduceIte, Nat.reduceEqDiff, reduceCtorEq, Nat.reduceLT, Nat.reduceAdd, Int.reduceBEq, Int.reduceBNe, Int.reduceEq, Int.reduceLE, Int.reduceLT, Int.reduceToNat, Nat.reduceLeDiff, Nat.reduceMul, Nat.reduceSub, h1]; exact rfl)))) | fail)
    (simp only [go_sem, ↓reduceIte, ht, hcn]; repeat' first | exact LV.le_refl _ | exact LV.le_nil _ | exact le_nilF _ _ | exact LV.le_any _ _ _ | refine LV.le_tup ?_ | refine LV.le_agg ?_ | exact LV.les_nil | refine LV.les_cons ?_ ?_)
theorem rdrop_fun (l : List Jn) (who : Int) : Fun Try.prog 17 [sJ l, vi who] (.tup [sJ (drL l who), vi (drE l who)]) := by
  by_cases g : okJ l
  · by_cases h : (aget who (mOf l)).isSome = true
    · have e : drE l who = 0 := by rw [drE, if_pos g, if_pos h]
      rw [drL, e, if_pos rfl]; exact rdrop_3 l who g h
    · have e : drE l who = 5 := by rw [drE, if_pos g, if_neg h]
      rw [drL, e]; exact nil_up (rdrop_2 l who g (by simpa using h))
  · have e : drE l who = 1 := by rw [drE, if_neg g]
    rw [drL, e]; exact nil_up (rdrop_1 l who g)
set_option maxHeartbeats 4000000 in
set_option maxRecDepth 10000 in
theorem rdone_1 (l : List Jn) (on : Int) (g : ¬ okJ l) : Fun Try.prog 16 [sJ l, vi on] (.tup [nil0, nil0, vi 1]) := by
  have hck := rcheck_fun l
  rw [chkJ_no g] at hck
  (refine LCalls.enter Try.func16 rfl (by simp [Try.ntmps16]) (LK.start ?_); simp only [Try.ntmps16, enterA, Nat.zero_add])
  (repeat' first | refine LOps.done ?_ | (apply LOps.mv; (focus (first | exact Goes.free | exact Goes.on rfl rfl (by with_reducible rfl) true (by decide))); (focus (exact rfl)); (focus (exact rfl))) | (apply LOps.loc; (focus (first | exact Goes.free | exact Goes.on rfl rfl (by with_reducible rfl) true (by decide))); (focus (exact rfl)); (focus (exact rfl)); (focus (simp only [go_sem, ↓reduceIte, reduceCtorEq, Int.reduceBNe]; with_reducible rfl))) | refine LK.seq ?_ | refine LK.ret' ?_ | (apply LK.condT2; (focus (exact rfl)); (focus (with_reducible rfl)); (focus (first | with_reducible rfl | decide | (with_reducible exact Bool.true_or _) | (with_reducible exact congrArg (fun b => b || _) (Bool.true_or _))))) | refine LK.regc ?_ | (apply retQ; (focus (first | exact lres_one rfl | exact lres_more rfl | (simp only [lres, lresv, Try.results16, go_sem, ↓reduceIte, Nat.reduceEqDiff, reduceCtorEq, Nat.reduceLT, Nat.reduceAdd, Int.reduceBEq, Int.reduceBNe, Int.reduceEq, Int.reduceLE, Int.reduceLT, Int.reduceToNat, Nat.reduceLeDiff, Nat.reduceMul, Nat.reduceSub]; exact rfl)))) | (apply LOps.locFn; (focus (first | exact Goes.free | exact Goes.on rfl rfl (by with_reducible rfl) true (by decide))); (focus (exact rfl)); (focus (exact rfl)); (focus (simp only [go_sem, ↓reduceIte]; exact rfl)); (focus (simp only [go_sem])); (focus (exact hck)); (focus (first | rfl | simp [go_sem])); (focus (first | rfl | simp [go_sem]))) | fail)
  all_goals rfl
set_option maxHeartbeats 4000000 in
set_option maxRecDepth 10000 in
theorem rdone_2 (l : List Jn) (on : Int) (g : okJ l) : Fun Try.prog 16 [sJ l, vi on] (.tup [sI ((l.filter (isOn on)).map (·.2)), sJ (l.filter fun x => !(isOn on x)), vi 0]) := by
  have hck := rcheck_fun l
  rw [chkJ_ok g] at hck
  have hl2 := g.2.1
  obtain ⟨p, hpd⟩ : ∃ p : Jn → Bool, p = isOn on := ⟨_, rfl⟩
  have hpx : ∀ x : Jn, (x.1 == on) = p x := by rw [hpd]; exact fun _ => rfl
  obtain ⟨q, hqd⟩ : ∃ q : Jn → Bool, q = fun x => !(p x) := ⟨_, rfl⟩
  have hqx : ∀ x : Jn, q x = !(p x) := by rw [hqd]; exact fun _ => rfl
  rw [← hpd, ← hqd]
  clear hpd hqd
  refine Fun.frozenLe ?_
  (refine LCalls.enter Try.func16 rfl (by simp [Try.ntmps16]) (LK.start ?_); simp only [Try.ntmps16, enterA, Nat.zero_add])
  (repeat' first | refine LOps.done ?_ | (apply LOps.mv; (focus (first | exact Goes.free | exact Goes.on rfl rfl (by with_reducible rfl) true (by decide))); (focus (exact rfl)); (focus (exact rfl))) | (apply LOps.loc; (focus (first | exact Goes.free | exact Goes.on rfl rfl (by with_reducible rfl) true (by decide))); (focus (exact rfl)); (focus (exact rfl)); (focus (simp only [go_sem, ↓reduceIte, reduceCtorEq, Int.reduceBNe]; with_reducible rfl))) | refine LK.seq ?_ | refine LK.skip ?_ | refine LK.block ?_ | (apply LK.condF2; (focus (exact rfl)); (focus (with_reducible rfl)); (focus (first | with_reducible rfl | decide | (with_reducible exact Bool.false_and _) | (with_reducible exact congrArg (fun b => b && _) (Bool.false_and _))))) | refine LK.regc ?_ | (apply LOps.locFn; (focus (first | exact Goes.free | exact Goes.on rfl rfl (by with_reducible rfl) true (by decide))); (focus (exact rfl)); (focus (exact rfl)); (focus (simp only [go_sem, ↓reduceIte]; exact rfl)); (focus (simp only [go_sem])); (focus (first | exact hck)); (focus (first | rfl | simp [go_sem])); (focus (first | rfl | simp [go_sem]))) | fail)
  refine LK.own0 7 1 (by simp only [upd, go_sem]; rfl) rfl ?_
  refine LK.own0 8 2 (by simp only [upd, go_sem, ↓reduceIte, reduceCtorEq]; rfl) rfl ?_
  refine LK.loop (fun k : Nat => l.length - k) (fun k => k ≤ l.length) (fun k => ⟨36, [(0, sJ l), (1, vi on), (7, .own 0 (cn p l k) 0 (cn p l k)), (8, .own 1 (cn q l k) 0 (cn q l k)), (14, sJ l), (15, vi l.length), (16, vi k)]⟩) (fun k => [(0, .arr 1 (oF (cI .i64) (((l.take k).filter p).map (·.2)))), (1, .arr 2 (oF cJ ((l.take k).filter q)))]) 0 (Nat.zero_le _) (by dsimp only [List.take_zero, cn, List.filter_nil, List.length_nil, List.map_nil]; exact (Sub.by rfl rfl (by first | rfl | (simp only [subB, MB_all_under, MI_all_under, MB_all_idp, MI_all_idp, oF_under, oF_idp, oF_all_under, oF_all_idp, MB_under, MI_under, MB_idp, MI_idp, evOk, ovOk, nvOk, keepOf, vis, LV.under, LV.unders, LV.idp, LV.idps, LO.under, LO.idp, under_pv, idp_pv, List.all_cons, List.all_nil, List.any_cons, List.any_nil, Nat.reduceBEq, beq_self_eq_true, Bool.and_true, Bool.true_and, Bool.or_true, Bool.true_or, Bool.or_false, Bool.false_or, decide_true, decide_false, Nat.reduceLT, Nat.reduceLeDiff, Nat.le_refl, Nat.reduceAdd, Bool.and_self, Bool.or_self]; done)))) ?_
  intro k hk J hJ
  have hpl := cn_le p l k
  have hql := cn_le q l k
  have hcn : ((l.take k).filter q).length = cn q l k := rfl
  have hcn2 : (((l.take k).filter p).map (·.2)).length = cn p l k := by rw [List.length_map]; rfl
  rcases Nat.lt_or_ge k l.length with hlt | hge
  · obtain ⟨x, hx⟩ := idx_all hlt
    have h1 : ((k : Int) < (l.length : Int)) := by omega
    have hwr := wrapn (n := k) (by omega)
    have hs := ft_step (p := p) hx
    have hcs := cn_step (p := p) hx
    have hs2 := ft_step (p := q) hx
    have hcs2 := cn_step (p := q) hx
    have hq := hpx x
    have hq2 := hqx x
    have hm1 : cn p l k + 1 ≤ maxLen ∧ (cn p l k + 1) * 8 ≤ 140737488355328 := by simp only [maxLen]; omega
    have hm2 : cn q l k + 1 ≤ maxLen ∧ (cn q l k + 1) * 16 ≤ 140737488355328 := by simp only [maxLen]; omega
    have hap1 : oF (cI .i64) (((l.take k).filter p).map (·.2)) ++ [[vi x.2]] = oF (cI .i64) (((l.take k).filter p).map (·.2) ++ [x.2]) := by simp [oF, rF, cI]
    have hap2 : oF cJ ((l.take k).filter q) ++ [[vi x.1, vi x.2]] = oF cJ ((l.take k).filter q ++ [x]) := by simp [oF, rF, cJ]
    cases e : p x with
    | false =>
      rw [e] at hs hcs hq hq2
      rw [hq2] at hs2 hcs2
      simp only [Bool.not_false, Bool.false_eq_true, if_false, if_true, List.append_nil, Nat.add_zero] at hs hcs hs2 hcs2
      (repeat' first | refine LOps.done ?_ | (apply LOps.mv; (focus (first | exact Goes.free | exact Goes.on rfl rfl (by with_reducible rfl) true (by decide))); (focus (exact rfl)); (focus (exact rfl))) | (apply LOps.asg; (focus (first | exact Goes.free | exact Goes.on rfl rfl (by with_reducible rfl) true (by decide))); (focus (exact rfl)); (focus (exact rfl))) | (apply LOps.loc; (focus (first | exact Goes.free | exact Goes.on rfl rfl (by with_reducible rfl) true (by decide))); (focus (exact rfl)); (focus (exact rfl)); (focus (simp only [go_sem, ↓reduceIte, Nat.reduceEqDiff, reduceCtorEq, Nat.reduceLT, Nat.reduceAdd, Nat.reduceLeDiff, h1, hx, hq, hwr, hm2, hap2, hcn, cJ_eq]; with_reducible rfl))) | (apply LOps.loc0; (focus (first | exact Goes.free | exact Goes.on rfl rfl (by with_reducible rfl) true (by decide))); (focus (exact rfl)); (focus (simp only [go_sem, ↓reduceIte, Nat.reduceEqDiff, reduceCtorEq, Nat.reduceLT, Nat.reduceAdd]; with_reducible rfl))) | refine LK.seq ?_ | refine LK.skip ?_ | refine LK.block ?_ | refine LK.blk ?_ | refine LK.fin ?_ | (apply LK.condT2; (focus (exact rfl)); (focus (with_reducible rfl)); (focus (first | with_reducible rfl | decide | (with_reducible exact Bool.true_or _) | (with_reducible exact congrArg (fun b => b || _) (Bool.true_or _))))) | (apply LK.condF2; (focus (exact rfl)); (focus (with_reducible rfl)); (focus (first | with_reducible rfl | decide | (with_reducible exact Bool.false_and _) | (with_reducible exact congrArg (fun b => b && _) (Bool.false_and _))))) | refine LK.regc ?_ | fail)
      apply hJ
      refine ⟨k + 1, hlt, by omega, ?_⟩
      dsimp only
      rw [hs, hcs, hs2, hcs2]
      exact (Sub.by rfl rfl (by first | rfl | (simp only [subB, oF_all_under, LV.under, LO.under, List.all_cons, List.all_nil, decide_true, Nat.reduceLT, Nat.reduceAdd, Bool.and_self]; done)))
    | true =>
      rw [e] at hs hcs hq hq2
      rw [hq2] at hs2 hcs2
      simp only [Bool.not_true, Bool.false_eq_true, if_false, if_true, List.append_nil, Nat.add_zero] at hs hcs hs2 hcs2
      (repeat' first | refine LOps.done ?_ | (apply LOps.mv; (focus (first | exact Goes.free | exact Goes.on rfl rfl (by with_reducible rfl) true (by decide))); (focus (exact rfl)); (focus (exact rfl))) | (apply LOps.asg; (focus (first | exact Goes.free | exact Goes.on rfl rfl (by with_reducible rfl) true (by decide))); (focus (exact rfl)); (focus (exact rfl))) | (apply LOps.loc; (focus (first | exact Goes.free | exact Goes.on rfl rfl (by with_reducible rfl) true (by decide))); (focus (exact rfl)); (focus (exact rfl)); (focus (simp only [go_sem, ↓reduceIte, Nat.reduceEqDiff, reduceCtorEq, Nat.reduceLT, Nat.reduceAdd, Nat.reduceLeDiff, h1, hx, hq, hwr, hm1, hap1, hcn2, cJ_eq]; with_reducible rfl))) | (apply LOps.loc0; (focus (first | exact Goes.free | exact Goes.on rfl rfl (by with_reducible rfl) true (by decide))); (focus (exact rfl)); (focus (simp only [go_sem, ↓reduceIte, Nat.reduceEqDiff, reduceCtorEq, Nat.reduceLT, Nat.reduceAdd]; with_reducible rfl))) | refine LK.seq ?_ | refine LK.skip ?_ | refine LK.block ?_ | refine LK.blk ?_ | refine LK.fin ?_ | (apply LK.condT2; (focus (exact rfl)); (focus (with_reducible rfl)); (focus (first | with_reducible rfl | decide | (with_reducible exact Bool.true_or _) | (with_reducible exact congrArg (fun b => b || _) (Bool.true_or _))))) | refine LK.regc ?_ | fail)
      apply hJ
      refine ⟨k + 1, hlt, by omega, ?_⟩
      dsimp only
      rw [hs, hcs, hs2, hcs2, List.map_append, List.map_cons, List.map_nil]
      exact (Sub.by rfl rfl (by first | rfl | (simp only [subB, oF_all_under, LV.under, LO.under, List.all_cons, List.all_nil, decide_true, Nat.reduceLT, Nat.reduceAdd, Bool.and_self]; done)))
  · have h1 : ¬ ((k : Int) < (l.length : Int)) := by omega
    obtain rfl : k = l.length := by omega
    rw [List.take_length] at hcn hcn2
    have ht : (l.filter q).take (cn q l l.length) = l.filter q := List.take_of_length_le (by omega)
    have ht2 : ((l.filter p).map (·.2)).take (cn p l l.length) = (l.filter p).map (·.2) := List.take_of_length_le (by omega)
    dsimp only
    rw [List.take_length]
    generalize (l.filter p).map (·.2) = P at *
    generalize l.filter q = Q at *
    (repeat' first | refine LOps.done ?_ | (apply LOps.mv; (focus (first | exact Goes.free | exact Goes.on rfl rfl (by with_reducible rfl) true (by decide))); (focus (exact rfl)); (focus (exact rfl))) | (apply LOps.asg; (focus (first | exact Goes.free | exact Goes.on rfl rfl (by with_reducible rfl) true (by decide))); (focus (exact rfl)); (focus (exact rfl))) | (apply LOps.loc; (focus (first | exact Goes.free | exact Goes.on rfl rfl (by with_reducible rfl) true (by decide))); (focus (exact rfl)); (focus (exact rfl)); (focus (simp only [go_sem, ↓reduceIte, Nat.reduceEqDiff, Nat.reduceAdd, h1]; with_reducible rfl))) | refine LK.seq ?_ | refine LK.ret' ?_ | refine LK.exit' rfl ?_ | (apply LK.condF2; (focus (exact rfl)); (focus (with_reducible rfl)); (focus (first | with_reducible rfl | decide | (with_reducible exact Bool.false_and _) | (with_reducible exact congrArg (fun b => b && _) (Bool.false_and _))))) | refine LK.regc ?_ | (apply retQ; (focus (first | exact lres_one rfl | exact lres_more rfl | (simp only [lres, lresv, Try.results16, go_sem, ↓reduceIte, Nat.reduceEqDiff, reduceCtorEq, Nat.reduceLT, Nat.reduceAdd, Int.reduceBEq, Int.reduceBNe, Int.reduceEq, Int.reduceLE, Int.reduceLT, Int.reduceToNat, Nat.reduceLeDiff, Nat.reduceMul, Nat.reduceSub, h1]; exact rfl)))) | fail)
    (simp only [go_sem, ↓reduceIte, reduceCtorEq, ht, ht2, hcn, hcn2]; repeat' first | exact LV.le_refl _ | exact LV.le_nil _ | exact le_nilF _ _ | exact LV.le_any _ _ _ | refine LV.le_tup ?_ | refine LV.le_agg ?_ | exact LV.les_nil | refine LV.les_cons ?_ ?_)
theorem rdone_fun (l : List Jn) (on : Int) : Fun Try.prog 16 [sJ l, vi on] (.tup [sI (dnW l on), sJ (dnL l on), vi (chkJ l)]) := by
  by_cases g : okJ l
  · rw [dnW, dnL, chkJ, if_pos g, if_pos g, if_pos g]; exact rdone_2 l on g
  · rw [dnW, dnL, chkJ, if_neg g, if_neg g, if_neg g]; exact nil_up2 (rdone_1 l on g)
end Go.Proofs.Ytoppnepjemhckaa
