/- Chapter 11: the law JoinsOnce. -/
import Derived.Test.YtoppnepjemhckaaJ15
set_option linter.unusedSimpArgs false
set_option linter.unusedVariables false
namespace Go.Proofs.Ytoppnepjemhckaa
open Go.Lw
attribute [local irreducible] LK LOps LW
set_option maxHeartbeats 4000000 in
set_option maxRecDepth 10000 in
theorem once_len (l : List Jn) (a : Int) (h : 260 < l.length) : Fun Try.prog 4 [sJ l, vi a] (vb true) := by
  have hb : ((l.length : Int) > 260) := by omega
  (refine LCalls.enter Try.func4 rfl (by simp [Try.ntmps4]) (LK.start ?_); simp only [Try.ntmps4, enterA, Nat.zero_add])
  (repeat' first | refine LOps.done ?_ | (apply LOps.mv; (focus (first | exact Goes.free | exact Goes.on rfl rfl (by with_reducible rfl) true (by decide))); (focus (exact rfl)); (focus (exact rfl))) | (apply LOps.asg; (focus (first | exact Goes.free | exact Goes.on rfl rfl (by with_reducible rfl) true (by decide))); (focus (exact rfl)); (focus (exact rfl))) | (apply LOps.loc; (focus (first | exact Goes.free | exact Goes.on rfl rfl (by with_reducible rfl) true (by decide))); (focus (exact rfl)); (focus (exact rfl)); (focus (simp only [go_sem, ↓reduceIte, reduceCtorEq, hb]; with_reducible rfl))) | (apply LOps.pass; (focus (first | exact Goes.on rfl rfl (by with_reducible rfl) false (by decide) | exact Goes.undef rfl rfl (by with_reducible rfl))); (focus (exact rfl))) | refine LK.seq ?_ | refine LK.skip ?_ | refine LK.ret' ?_ | (apply LK.condT2; (focus (exact rfl)); (focus (with_reducible rfl)); (focus (first | with_reducible rfl | decide | (with_reducible exact Bool.true_or _) | (with_reducible exact congrArg (fun b => b || _) (Bool.true_or _))))) | (apply LK.condF2; (focus (exact rfl)); (focus (with_reducible rfl)); (focus (first | with_reducible rfl | decide | (with_reducible exact Bool.false_and _) | (with_reducible exact congrArg (fun b => b && _) (Bool.false_and _))))) | refine LK.regc ?_ | (apply retQ; (focus (first | exact lres_one rfl | exact lres_more rfl | (simp only [lres, lresv, Try.results4, go_sem, ↓reduceIte, Nat.reduceEqDiff, reduceCtorEq, Nat.reduceLT, Nat.reduceAdd, Int.reduceBEq, Int.reduceBNe, Int.reduceEq, Int.reduceLE, Int.reduceLT, Int.reduceToNat, Nat.reduceLeDiff, Nat.reduceMul, Nat.reduceSub, hb]; exact rfl)))) | (apply LOps.locFn; (focus (first | exact Goes.free | exact Goes.on rfl rfl (by with_reducible rfl) true (by decide))); (focus (exact rfl)); (focus (exact rfl)); (focus (simp only [go_sem]; exact rfl)); (focus (simp only [go_sem])); (focus (first | exact live_fun)); (focus (first | rfl | simp [go_sem])); (focus (first | rfl | simp [go_sem]))) | fail)
  all_goals rfl
set_option maxHeartbeats 4000000 in
set_option maxRecDepth 10000 in
theorem once_bad (l : List Jn) (a : Int) (h : l.length ≤ 260) (g : ¬ okJ l) : Fun Try.prog 4 [sJ l, vi a] (vb true) := by
  have hb : ¬ ((l.length : Int) > 260) := by omega
  have hck := check_fun l (by omega)
  rw [chkJ_no g] at hck
  (refine LCalls.enter Try.func4 rfl (by simp [Try.ntmps4]) (LK.start ?_); simp only [Try.ntmps4, enterA, Nat.zero_add])
  (repeat' first | refine LOps.done ?_ | (apply LOps.mv; (focus (first | exact Goes.free | exact Goes.on rfl rfl (by with_reducible rfl) true (by decide))); (focus (exact rfl)); (focus (exact rfl))) | (apply LOps.asg; (focus (first | exact Goes.free | exact Goes.on rfl rfl (by with_reducible rfl) true (by decide))); (focus (exact rfl)); (focus (exact rfl))) | (apply LOps.loc; (focus (first | exact Goes.free | exact Goes.on rfl rfl (by with_reducible rfl) true (by decide))); (focus (exact rfl)); (focus (exact rfl)); (focus (simp only [go_sem, ↓reduceIte, Nat.reduceEqDiff, reduceCtorEq, Int.reduceBNe, hb]; with_reducible rfl))) | refine LK.seq ?_ | refine LK.skip ?_ | refine LK.ret' ?_ | (apply LK.condT2; (focus (exact rfl)); (focus (with_reducible rfl)); (focus (first | with_reducible rfl | decide | (with_reducible exact Bool.true_or _) | (with_reducible exact congrArg (fun b => b || _) (Bool.true_or _))))) | (apply LK.condF2; (focus (exact rfl)); (focus (with_reducible rfl)); (focus (first | with_reducible rfl | decide | (with_reducible exact Bool.false_and _) | (with_reducible exact congrArg (fun b => b && _) (Bool.false_and _))))) | refine LK.regc ?_ | (apply retQ; (focus (first | exact lres_one rfl | exact lres_more rfl | (simp only [lres, lresv, Try.results4, go_sem, ↓reduceIte, Nat.reduceEqDiff, reduceCtorEq, Nat.reduceLT, Nat.reduceAdd, Int.reduceBEq, Int.reduceBNe, Int.reduceEq, Int.reduceLE, Int.reduceLT, Int.reduceToNat, Nat.reduceLeDiff, Nat.reduceMul, Nat.reduceSub, hb]; exact rfl)))) | (apply LOps.locFn; (focus (first | exact Goes.free | exact Goes.on rfl rfl (by with_reducible rfl) true (by decide))); (focus (exact rfl)); (focus (exact rfl)); (focus (simp only [go_sem, ↓reduceIte]; exact rfl)); (focus (simp only [go_sem])); (focus (first | exact live_fun | exact hck)); (focus (first | rfl | simp [go_sem])); (focus (first | rfl | simp [go_sem]))) | fail)
  all_goals rfl
/-- How many of the first ones are so. -/
def cn (p : Jn → Bool) (l : List Jn) (j : Nat) : Nat := ((l.take j).filter p).length
theorem cn_step {p : Jn → Bool} {l : List Jn} {j : Nat} {x : Jn} (hx : l[j]? = some x) : cn p l (j + 1) = cn p l j + if p x = true then 1 else 0 := by
  simp only [cn]
  rw [List.take_add_one, hx, List.filter_append, List.length_append]
  by_cases e : p x = true <;> simp [e]
theorem cn_at {p : Jn → Bool} {l : List Jn} {j : Nat} {x : Jn} (hx : l[j]? = some x) (e : p x = true) : (l.filter p)[cn p l j]? = some x := by
  have hlt := lt_of_get hx
  have hd : l = l.take j ++ (x :: l.drop (j + 1)) := by
    have h1 : l.drop j = x :: l.drop (j + 1) := by
      rw [List.drop_eq_getElem_cons hlt]
      rw [List.getElem?_eq_getElem hlt] at hx
      rw [Option.some.inj hx]
    rw [← h1, List.take_append_drop]
  have : l.filter p = (l.take j).filter p ++ (x :: (l.drop (j + 1)).filter p) := by
    conv => lhs; rw [hd]
    rw [List.filter_append, List.filter_cons]; simp [e]
  rw [this, cn, List.getElem?_append_right (Nat.le_refl _)]; simp
theorem cn_le (p : Jn → Bool) (l : List Jn) (j : Nat) : cn p l j ≤ l.length := by
  have h1 := List.length_filter_le p (l.take j)
  have h2 := List.length_take_le j l
  rw [cn]
  have : (l.take j).length ≤ l.length := by rw [List.length_take]; omega
  omega
theorem filter_both (p : Jn → Bool) : ∀ l : List Jn, (l.filter p).length + (l.filter fun x => !(p x)).length = l.length
  | [] => rfl
  | x :: l => by
    have := filter_both p l
    cases e : p x <;> simp [e] <;> omega
set_option maxHeartbeats 4000000 in
set_option maxRecDepth 10000 in
theorem once_ok (l : List Jn) (a : Int) (h : l.length ≤ 260) (g : okJ l) : Fun Try.prog 4 [sJ l, vi a] (vb true) := by
  have hb : ¬ ((l.length : Int) > 260) := by omega
  have hck := check_fun l (by omega)
  rw [chkJ_ok g] at hck
  have hd := done_fun l a (by omega)
  have g2 : okJ (l.filter fun x => !(isOn a x)) := okJ_sub g (List.filter_sublist ..)
  have hl2 : (l.filter fun x => !(isOn a x)).length ≤ l.length := List.length_filter_le _ _
  have hd2 := done_fun (l.filter fun x => !(isOn a x)) a (by omega)
  have hck2 := check_fun (l.filter fun x => !(isOn a x)) (by omega)
  have hn1 : ((l.filter fun x => !(isOn a x)).filter (isOn a)) = [] := List.filter_eq_nil_iff.2 fun x hx => by
    have := (List.mem_filter.1 hx).2
    simpa using this
  have hn2 : ((l.filter fun x => !(isOn a x)).filter fun x => !(isOn a x)) = l.filter fun x => !(isOn a x) := by simp
  rw [dnW, dnL, if_pos g2, if_pos g2, chkJ_ok g2, hn1, hn2, List.map_nil] at hd2
  rw [chkJ_ok g2] at hck2
  rw [dnW, dnL, if_pos g, if_pos g, chkJ_ok g] at hd
  have hsum := filter_both (isOn a) l
  have hsm := same_fun (l.filter fun x => !(isOn a x)) (l.filter fun x => !(isOn a x)) (by omega)
  rw [decide_eq_true rfl] at hsm
  have hat : ∀ j x, l[j]? = some x → isOn a x = true → ((l.filter (isOn a)).map (·.2))[cn (isOn a) l j]? = some x.2 := fun j x hx e => by
    rw [List.getElem?_map, cn_at hx e]; rfl
  have hat2 : ∀ j x, l[j]? = some x → isOn a x = false → (l.filter fun x => !(isOn a x))[cn (fun x => !(isOn a x)) l j]? = some x := fun j x hx e => cn_at (p := fun x => !(isOn a x)) hx (by simp [e])
  have hml : ((l.filter (isOn a)).map (·.2)).length = (l.filter (isOn a)).length := by simp
  generalize (l.filter (isOn a)).map (·.2) = W at *
  generalize (l.filter fun x => !(isOn a x)) = L at *
  have hne : (IntKind.i64.wrap ((W.length : Int) + (L.length : Int)) != (l.length : Int)) = false := by
    rw [IntKind.wrap_i64, bne_eq_false_iff_eq]; omega
  have n0 : ((0 : Nat) : Int) = 0 := rfl
  (refine LCalls.enter Try.func4 rfl (by simp [Try.ntmps4]) (LK.start ?_); simp only [Try.ntmps4, enterA, Nat.zero_add])
  (repeat' first | refine LOps.done ?_ | (apply LOps.mv; (focus (first | exact Goes.free | exact Goes.on rfl rfl (by with_reducible rfl) true (by decide))); (focus (exact rfl)); (focus (exact rfl))) | (apply LOps.asg; (focus (first | exact Goes.free | exact Goes.on rfl rfl (by with_reducible rfl) true (by decide))); (focus (exact rfl)); (focus (exact rfl))) | (apply LOps.ext; (focus (first | exact Goes.free | exact Goes.on rfl rfl (by with_reducible rfl) true (by decide))); (focus (exact rfl)); (focus (exact rfl)); (focus (exact rfl))) | (apply LOps.loc; (focus (first | exact Goes.free | exact Goes.on rfl rfl (by with_reducible rfl) true (by decide))); (focus (exact rfl)); (focus (exact rfl)); (focus (simp only [go_sem, ↓reduceIte, Nat.reduceEqDiff, reduceCtorEq, Int.reduceBNe, hb, hne, n0]; with_reducible rfl))) | refine LK.seq ?_ | refine LK.skip ?_ | refine LK.block ?_ | (apply LK.condF2; (focus (exact rfl)); (focus (with_reducible rfl)); (focus (first | with_reducible rfl | decide | (with_reducible exact Bool.false_and _) | (with_reducible exact congrArg (fun b => b && _) (Bool.false_and _))))) | refine LK.regc ?_ | (apply LOps.locFn; (focus (first | exact Goes.free | exact Goes.on rfl rfl (by with_reducible rfl) true (by decide))); (focus (exact rfl)); (focus (exact rfl)); (focus (simp only [go_sem, ↓reduceIte, Nat.reduceEqDiff]; exact rfl)); (focus (simp only [go_sem])); (focus (first | exact live_fun | exact hck | exact hd | exact hd2 | exact hsm)); (focus (first | rfl | simp [go_sem])); (focus (first | rfl | simp [go_sem]))) | fail)
  refine LK.loop (fun j : Nat => l.length - j) (fun j => j ≤ l.length) (fun j => ⟨115, [(1, vi a), (5, vb true), (6, sI W), (7, sJ L), (12, vi (cn (isOn a) l j)), (13, vi (cn (fun x => !(isOn a x)) l j)), (69, sJ l), (70, vi l.length), (71, vi j)]⟩) (fun _ => []) 0 (Nat.zero_le _) (Sub.by rfl rfl (by first | rfl | (simp only [subB, MB_all_under, MI_all_under, MB_all_idp, MI_all_idp, oF_under, oF_idp, oF_all_under, oF_all_idp, MB_under, MI_under, MB_idp, MI_idp, evOk, ovOk, nvOk, keepOf, vis, LV.under, LV.unders, LV.idp, LV.idps, LO.under, LO.idp, under_pv, idp_pv, List.all_cons, List.all_nil, List.any_cons, List.any_nil, Nat.reduceBEq, beq_self_eq_true, Bool.and_true, Bool.true_and, Bool.or_true, Bool.true_or, Bool.or_false, Bool.false_or, decide_true, decide_false, Nat.reduceLT, Nat.reduceLeDiff, Nat.le_refl, Nat.reduceAdd, Bool.and_self, Bool.or_self]; done))) ?_
  intro j hj J hJ
  rcases Nat.lt_or_ge j l.length with hlt | hge
  · obtain ⟨x, hx⟩ := idx_all hlt
    have i1 : ((j : Int) < (l.length : Int)) := by omega
    have hw := wrapn (n := j) (by omega)
    have c1 := cn_le (isOn a) l j
    have c2 := cn_le (fun x => !(isOn a x)) l j
    have hw1 := wrapn (n := cn (isOn a) l j) (by omega)
    have hw2 := wrapn (n := cn (fun x => !(isOn a x)) l j) (by omega)
    cases e : isOn a x with
    | true =>
      have e1 : (x.1 == a) = true := e
      have h1 := hat j x hx e
      have h2 := lt_of_get h1
      have h3 : ¬ (((cn (isOn a) l j : Nat) : Int) ≥ (W.length : Int)) := by omega
      have h4 : (((cn (isOn a) l j : Nat) : Int) < (W.length : Int)) := by omega
      have hs1 : cn (isOn a) l (j + 1) = cn (isOn a) l j + 1 := by rw [cn_step hx, e]; rfl
      have hs2 : cn (fun x => !(isOn a x)) l (j + 1) = cn (fun x => !(isOn a x)) l j := by rw [cn_step hx, e]; rfl
      have hxx : (x.2 != x.2) = false := by simp
      (repeat' first | refine LOps.done ?_ | (apply LOps.mv; (focus (first | exact Goes.free | exact Goes.on rfl rfl (by with_reducible rfl) true (by decide))); (focus (exact rfl)); (focus (exact rfl))) | (apply LOps.asg; (focus (first | exact Goes.free | exact Goes.on rfl rfl (by with_reducible rfl) true (by decide))); (focus (exact rfl)); (focus (exact rfl))) | (apply LOps.loc; (focus (first | exact Goes.free | exact Goes.on rfl rfl (by with_reducible rfl) true (by decide))); (focus (exact rfl)); (focus (exact rfl)); (focus (simp only [go_sem, ↓reduceIte, Nat.reduceEqDiff, Nat.reduceLT, Nat.reduceAdd, i1, hx, hw, hw1, e1, cJ_eq]; with_reducible rfl))) | (apply LOps.loc0; (focus (first | exact Goes.free | exact Goes.on rfl rfl (by with_reducible rfl) true (by decide))); (focus (exact rfl)); (focus (simp only [go_sem, ↓reduceIte, Nat.reduceEqDiff, Nat.reduceLT, Nat.reduceAdd]; with_reducible rfl))) | refine LK.seq ?_ | refine LK.skip ?_ | refine LK.block ?_ | refine LK.fin ?_ | refine LK.exit' rfl ?_ | (apply LK.condT2; (focus (exact rfl)); (focus (with_reducible rfl)); (focus (first | with_reducible rfl | decide | (with_reducible exact Bool.true_or _) | (with_reducible exact congrArg (fun b => b || _) (Bool.true_or _))))) | (apply LK.condF2; (focus (exact rfl)); (focus (with_reducible rfl)); (focus (first | with_reducible rfl | decide | (with_reducible exact Bool.false_and _) | (with_reducible exact congrArg (fun b => b && _) (Bool.false_and _))))) | refine LK.regc ?_ | (apply LK.drawn3; (focus (exact Ty.mixed)); (focus ((repeat' first | exact DRun.nil _ _ _ | (apply DRun.aopS; (focus (exact rfl)); (focus (first | exact rfl | (simp only [oF_idss, oF_ids, idss_MB, idss_MI, objsOf, idsOf, LV.ids, LV.idss, LO.ids, idss_pv, lookB_eq, List.any_nil, List.any_cons, cond_true, cond_false, List.flatten_cons, List.flatten_nil, Nat.reduceBEq, Bool.or_false, Bool.false_or, Bool.or_true, go_sem, ↓reduceIte, Nat.reduceEqDiff, reduceCtorEq, Nat.reduceLT, Nat.reduceAdd, Int.reduceBEq, Int.reduceBNe, Int.reduceEq, Int.reduceLE, Int.reduceLT, Int.reduceToNat, Nat.reduceLeDiff, Nat.reduceMul, Nat.reduceSub, i1, hx, hw, hw1, e1, h1, h3, h4, hxx, cJ_eq]; exact rfl))); (focus (first | exact Goes.free | exact Goes.on rfl rfl (by with_reducible rfl) true (by decide))); (focus (simp only [go_sem, ↓reduceIte, Nat.reduceEqDiff, Nat.reduceLT, h1, h3, h4, hxx]; exact rfl)); (focus (exact rfl)); (focus (first | decide +kernel | (simp only [evOk, ovOk, nvOk, keepOf, vis, LV.under, LV.idp, LO.under, LO.idp, List.all_cons, List.all_nil, List.any_cons, List.any_nil, beq_self_eq_true, Bool.and_true, Bool.or_false, Bool.false_or, decide_true, decide_false, Nat.reduceLT, Nat.reduceLeDiff, Bool.and_self]; done) | (simp [evOk, ovOk, nvOk, keepOf, vis, LV.under, LV.idp, LO.under, LO.idp]; done)))) | fail); done)); (focus kernel_rfl); (focus (first | exact puOk_none rfl | (simp [puOk, evShape, nvShape, look, oF_len, go_sem, ↓reduceIte, Nat.reduceEqDiff, reduceCtorEq, Nat.reduceLT, Nat.reduceAdd, Int.reduceBEq, Int.reduceBNe, Int.reduceEq, Int.reduceLE, Int.reduceLT, Int.reduceToNat, Nat.reduceLeDiff, Nat.reduceMul, Nat.reduceSub, i1, hx, hw, hw1, e1, h1, h3, h4, hxx, cJ_eq]; done))); (focus (first | (simp only [go_sem, ↓reduceIte, Nat.reduceEqDiff, reduceCtorEq, Nat.reduceLT, Nat.reduceAdd, Int.reduceBEq, Int.reduceBNe, Int.reduceEq, Int.reduceLE, Int.reduceLT, Int.reduceToNat, Nat.reduceLeDiff, Nat.reduceMul, Nat.reduceSub, i1, hx, hw, hw1, e1, h1, h3, h4, hxx, cJ_eq]; exact rfl) | exact rfl)); (focus (first | (simp only [go_sem, ↓reduceIte, Nat.reduceEqDiff, reduceCtorEq, Nat.reduceLT, Nat.reduceAdd, Int.reduceBEq, Int.reduceBNe, Int.reduceEq, Int.reduceLE, Int.reduceLT, Int.reduceToNat, Nat.reduceLeDiff, Nat.reduceMul, Nat.reduceSub, i1, hx, hw, hw1, e1, h1, h3, h4, hxx, cJ_eq]; exact rfl) | exact rfl)); (focus (first | (simp only [go_sem, ↓reduceIte, Nat.reduceEqDiff, reduceCtorEq, Nat.reduceLT, Nat.reduceAdd, Int.reduceBEq, Int.reduceBNe, Int.reduceEq, Int.reduceLE, Int.reduceLT, Int.reduceToNat, Nat.reduceLeDiff, Nat.reduceMul, Nat.reduceSub, i1, hx, hw, hw1, e1, h1, h3, h4, hxx, cJ_eq]; exact rfl) | exact rfl))) | fail)
      apply hJ
      refine ⟨j + 1, hlt, by omega, ?_⟩
      rw [hs1, hs2]
      exact (Sub.by rfl rfl (by first | rfl | (simp only [subB, MB_all_under, MI_all_under, MB_all_idp, MI_all_idp, oF_under, oF_idp, oF_all_under, oF_all_idp, MB_under, MI_under, MB_idp, MI_idp, evOk, ovOk, nvOk, keepOf, vis, LV.under, LV.unders, LV.idp, LV.idps, LO.under, LO.idp, under_pv, idp_pv, List.all_cons, List.all_nil, List.any_cons, List.any_nil, Nat.reduceBEq, beq_self_eq_true, Bool.and_true, Bool.true_and, Bool.or_true, Bool.true_or, Bool.or_false, Bool.false_or, decide_true, decide_false, Nat.reduceLT, Nat.reduceLeDiff, Nat.le_refl, Nat.reduceAdd, Bool.and_self, Bool.or_self]; done)))
    | false =>
      have e1 : (x.1 == a) = false := e
      have h1 := hat2 j x hx e
      have h2 := lt_of_get h1
      have h3 : ¬ (((cn (fun x => !(isOn a x)) l j : Nat) : Int) ≥ (L.length : Int)) := by omega
      have h4 : (((cn (fun x => !(isOn a x)) l j : Nat) : Int) < (L.length : Int)) := by omega
      have hs1 : cn (isOn a) l (j + 1) = cn (isOn a) l j := by rw [cn_step hx, e]; rfl
      have hs2 : cn (fun x => !(isOn a x)) l (j + 1) = cn (fun x => !(isOn a x)) l j + 1 := by rw [cn_step hx, e]; rfl
      have hx1 : (x.1 == x.1) = true := by simp
      have hx2 : (x.2 == x.2) = true := by simp
      (repeat' first | refine LOps.done ?_ | (apply LOps.mv; (focus (first | exact Goes.free | exact Goes.on rfl rfl (by with_reducible rfl) true (by decide))); (focus (exact rfl)); (focus (exact rfl))) | (apply LOps.asg; (focus (first | exact Goes.free | exact Goes.on rfl rfl (by with_reducible rfl) true (by decide))); (focus (exact rfl)); (focus (exact rfl))) | (apply LOps.loc; (focus (first | exact Goes.free | exact Goes.on rfl rfl (by with_reducible rfl) true (by decide))); (focus (exact rfl)); (focus (exact rfl)); (focus (simp only [go_sem, ↓reduceIte, Nat.reduceEqDiff, Nat.reduceLT, Nat.reduceAdd, i1, hx, hw, hw2, e1, cJ_eq]; with_reducible rfl))) | (apply LOps.loc0; (focus (first | exact Goes.free | exact Goes.on rfl rfl (by with_reducible rfl) true (by decide))); (focus (exact rfl)); (focus (simp only [go_sem, ↓reduceIte, Nat.reduceEqDiff, Nat.reduceLT, Nat.reduceAdd]; with_reducible rfl))) | refine LK.seq ?_ | refine LK.skip ?_ | refine LK.block ?_ | refine LK.blk ?_ | refine LK.fin ?_ | (apply LK.condT2; (focus (exact rfl)); (focus (with_reducible rfl)); (focus (first | with_reducible rfl | decide | (with_reducible exact Bool.true_or _) | (with_reducible exact congrArg (fun b => b || _) (Bool.true_or _))))) | (apply LK.condF2; (focus (exact rfl)); (focus (with_reducible rfl)); (focus (first | with_reducible rfl | decide | (with_reducible exact Bool.false_and _) | (with_reducible exact congrArg (fun b => b && _) (Bool.false_and _))))) | refine LK.regc ?_ | (apply LK.drawn3; (focus (exact Ty.mixed)); (focus ((repeat' first | exact DRun.nil _ _ _ | (apply DRun.aopS; (focus (exact rfl)); (focus (first | exact rfl | (simp only [oF_idss, oF_ids, idss_MB, idss_MI, objsOf, idsOf, LV.ids, LV.idss, LO.ids, idss_pv, lookB_eq, List.any_nil, List.any_cons, cond_true, cond_false, List.flatten_cons, List.flatten_nil, Nat.reduceBEq, Bool.or_false, Bool.false_or, Bool.or_true, go_sem, ↓reduceIte, Nat.reduceEqDiff, reduceCtorEq, Nat.reduceLT, Nat.reduceAdd, Int.reduceBEq, Int.reduceBNe, Int.reduceEq, Int.reduceLE, Int.reduceLT, Int.reduceToNat, Nat.reduceLeDiff, Nat.reduceMul, Nat.reduceSub, i1, hx, hw, hw2, e1, h1, h3, h4, hx1, hx2, cJ_eq]; exact rfl))); (focus (first | exact Goes.free | exact Goes.on rfl rfl (by with_reducible rfl) true (by decide))); (focus (simp only [go_sem, ↓reduceIte, Nat.reduceEqDiff, Nat.reduceLT, Nat.reduceAdd, h1, h3, h4, hx1, hx2, cJ_eq]; exact rfl)); (focus (exact rfl)); (focus (first | decide +kernel | (simp only [evOk, ovOk, nvOk, keepOf, vis, LV.under, LV.unders, LV.idp, LV.idps, LO.under, LO.idp, List.all_cons, List.all_nil, List.any_cons, List.any_nil, Bool.and_true, Bool.or_false, Bool.false_or, decide_true, Nat.reduceLT, Bool.and_self]; done) | (simp [evOk, ovOk, nvOk, keepOf, vis, LV.under, LV.unders, LV.idp, LV.idps, LO.under, LO.idp]; done)))) | fail); done)); (focus kernel_rfl); (focus (first | exact puOk_none rfl | (simp [puOk, evShape, nvShape, look, oF_len, go_sem, ↓reduceIte, Nat.reduceEqDiff, reduceCtorEq, Nat.reduceLT, Nat.reduceAdd, Int.reduceBEq, Int.reduceBNe, Int.reduceEq, Int.reduceLE, Int.reduceLT, Int.reduceToNat, Nat.reduceLeDiff, Nat.reduceMul, Nat.reduceSub, i1, hx, hw, hw2, e1, h1, h3, h4, hx1, hx2, cJ_eq]; done))); (focus (first | (simp only [go_sem, ↓reduceIte, Nat.reduceEqDiff, reduceCtorEq, Nat.reduceLT, Nat.reduceAdd, Int.reduceBEq, Int.reduceBNe, Int.reduceEq, Int.reduceLE, Int.reduceLT, Int.reduceToNat, Nat.reduceLeDiff, Nat.reduceMul, Nat.reduceSub, i1, hx, hw, hw2, e1, h1, h3, h4, hx1, hx2, cJ_eq]; exact rfl) | exact rfl)); (focus (first | (simp only [go_sem, ↓reduceIte, Nat.reduceEqDiff, reduceCtorEq, Nat.reduceLT, Nat.reduceAdd, Int.reduceBEq, Int.reduceBNe, Int.reduceEq, Int.reduceLE, Int.reduceLT, Int.reduceToNat, Nat.reduceLeDiff, Nat.reduceMul, Nat.reduceSub, i1, hx, hw, hw2, e1, h1, h3, h4, hx1, hx2, cJ_eq]; exact rfl) | exact rfl)); (focus (first | (simp only [go_sem, ↓reduceIte, Nat.reduceEqDiff, reduceCtorEq, Nat.reduceLT, Nat.reduceAdd, Int.reduceBEq, Int.reduceBNe, Int.reduceEq, Int.reduceLE, Int.reduceLT, Int.reduceToNat, Nat.reduceLeDiff, Nat.reduceMul, Nat.reduceSub, i1, hx, hw, hw2, e1, h1, h3, h4, hx1, hx2, cJ_eq]; exact rfl) | exact rfl))) | fail)
      apply hJ
      refine ⟨j + 1, hlt, by omega, ?_⟩
      rw [hs1, hs2]
      exact (Sub.by rfl rfl (by first | rfl | (simp only [subB, MB_all_under, MI_all_under, MB_all_idp, MI_all_idp, oF_under, oF_idp, oF_all_under, oF_all_idp, MB_under, MI_under, MB_idp, MI_idp, evOk, ovOk, nvOk, keepOf, vis, LV.under, LV.unders, LV.idp, LV.idps, LO.under, LO.idp, under_pv, idp_pv, List.all_cons, List.all_nil, List.any_cons, List.any_nil, Nat.reduceBEq, beq_self_eq_true, Bool.and_true, Bool.true_and, Bool.or_true, Bool.true_or, Bool.or_false, Bool.false_or, decide_true, decide_false, Nat.reduceLT, Nat.reduceLeDiff, Nat.le_refl, Nat.reduceAdd, Bool.and_self, Bool.or_self]; done)))
  · have i1 : ¬ ((j : Int) < (l.length : Int)) := by omega
    (repeat' first | refine LOps.done ?_ | (apply LOps.mv; (focus (first | exact Goes.free | exact Goes.on rfl rfl (by with_reducible rfl) true (by decide))); (focus (exact rfl)); (focus (exact rfl))) | (apply LOps.asg; (focus (first | exact Goes.free | exact Goes.on rfl rfl (by with_reducible rfl) true (by decide))); (focus (exact rfl)); (focus (exact rfl))) | (apply LOps.loc; (focus (first | exact Goes.free | exact Goes.on rfl rfl (by with_reducible rfl) true (by decide))); (focus (exact rfl)); (focus (exact rfl)); (focus (simp only [go_sem, ↓reduceIte, Nat.reduceEqDiff, reduceCtorEq, i1]; with_reducible rfl))) | refine LK.seq ?_ | refine LK.ret' ?_ | refine LK.exit' rfl ?_ | (apply LK.condF2; (focus (exact rfl)); (focus (with_reducible rfl)); (focus (first | with_reducible rfl | decide | (with_reducible exact Bool.false_and _) | (with_reducible exact congrArg (fun b => b && _) (Bool.false_and _))))) | refine LK.regc ?_ | (apply retQ; (focus (first | exact lres_one rfl | exact lres_more rfl | (simp only [lres, lresv, Try.results4, go_sem, ↓reduceIte, Nat.reduceEqDiff, reduceCtorEq, Nat.reduceLT, Nat.reduceAdd, Int.reduceBEq, Int.reduceBNe, Int.reduceEq, Int.reduceLE, Int.reduceLT, Int.reduceToNat, Nat.reduceLeDiff, Nat.reduceMul, Nat.reduceSub, i1]; exact rfl)))) | (apply LOps.locFn; (focus (first | exact Goes.free | exact Goes.on rfl rfl (by with_reducible rfl) true (by decide))); (focus (exact rfl)); (focus (exact rfl)); (focus (simp only [go_sem, ↓reduceIte]; exact rfl)); (focus (simp only [go_sem])); (focus (exact hck2)); (focus (first | rfl | simp [go_sem])); (focus (first | rfl | simp [go_sem]))) | fail)
    all_goals rfl
theorem once_fun (l : List Jn) (a : Int) : Fun Try.prog 4 [sJ l, vi a] (vb true) := by
  rcases Nat.lt_or_ge 260 l.length with h | h
  · exact once_len l a h
  · by_cases g : okJ l
    · exact once_ok l a h g
    · exact once_bad l a h g
end Go.Proofs.Ytoppnepjemhckaa
