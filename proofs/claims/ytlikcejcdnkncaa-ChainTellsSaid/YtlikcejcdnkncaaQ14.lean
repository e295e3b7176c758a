/- Chapter 06: ChainBack. -/
import Derived.Test.YtlikcejcdnkncaaQ13
set_option linter.unusedSimpArgs false
set_option linter.unusedVariables false
namespace Go.Proofs.Ytlikcejcdnkncaa
open Go.Lw
attribute [local irreducible] LK LOps LW
set_option maxHeartbeats 4000000 in
set_option maxRecDepth 20000 in
theorem back_skip (n h t : List Int) (i x j : Int) (g : ¬ (fewC n h t = true ∧ okC n h t)) : Fun Try.prog 8 [cv n h t, vi i, vi x, vi j] (vb true) := by
  have hv := live_fun
  have hw := few_fun n h t
  have hk := check_fun n h t
  have hcc := few_or g
  (refine LCalls.enter Try.func8 rfl (by simp [Try.ntmps8]) (LK.start ?_); simp only [Try.ntmps8, enterA, Nat.zero_add])
  (repeat' first | refine LOps.done ?_ | (apply LOps.mv; (focus (first | exact Goes.free | exact Goes.on rfl rfl (by with_reducible rfl) true (by decide))); (focus (exact rfl)); (focus (exact rfl))) | (apply LOps.asg; (focus (first | exact Goes.free | exact Goes.on rfl rfl (by with_reducible rfl) true (by decide))); (focus (exact rfl)); (focus (exact rfl))) | (apply LOps.loc; (focus (first | exact Goes.free | exact Goes.on rfl rfl (by with_reducible rfl) true (by decide))); (focus (exact rfl)); (focus (exact rfl)); (focus (simp only [go_sem, ↓reduceIte, Nat.reduceEqDiff, reduceCtorEq, Nat.reduceLT, Nat.reduceAdd]; with_reducible rfl))) | (apply LOps.pass; (focus (first | exact Goes.on rfl rfl (by with_reducible rfl) false (by decide) | exact Goes.undef rfl rfl (by with_reducible rfl))); (focus (exact rfl))) | (apply LOps.scEnd; (focus (exact rfl)); (focus (with_reducible rfl))) | refine LK.seq ?_ | refine LK.regc ?_ | (apply LOps.locFn; (focus (first | exact Goes.free | exact Goes.on rfl rfl (by with_reducible rfl) true (by decide))); (focus (exact rfl)); (focus (exact rfl)); (focus (simp only [go_sem, ↓reduceIte]; exact rfl)); (focus (simp only [go_sem])); (focus (first | exact hv | exact hw | exact hk)); (focus (first | rfl | simp [go_sem])); (focus (first | rfl | simp [go_sem]))) | (apply LOps.or2; exact rfl; exact rfl; exact rfl; exact rfl; exact rfl; (focus (with_reducible rfl)); (focus (first | kernel_rfl | rfl))) | refine Under.mk (fun hg => ?_) | fail)
  refine LK.condT2 rfl (by first | with_reducible rfl | rfl) (hcc) ?_
  (repeat' first | refine LOps.done ?_ | (apply LOps.mv; (focus (first | exact Goes.free | exact Goes.on rfl rfl (by with_reducible rfl) true (by decide))); (focus (exact rfl)); (focus (exact rfl))) | (apply LOps.asg; (focus (first | exact Goes.free | exact Goes.on rfl rfl (by with_reducible rfl) true (by decide))); (focus (exact rfl)); (focus (exact rfl))) | refine LK.seq ?_ | refine LK.ret' ?_ | refine LK.regc ?_ | (apply retQ; (focus (first | exact lres_one rfl | exact lres_more rfl | (simp only [lres, lresv, Try.results8, go_sem, ↓reduceIte, Nat.reduceEqDiff, reduceCtorEq, Nat.reduceLT, Nat.reduceAdd, Int.reduceBEq, Int.reduceBNe, Int.reduceEq, Int.reduceLE, Int.reduceLT, Int.reduceToNat, Nat.reduceLeDiff, Nat.reduceMul, Nat.reduceSub]; exact rfl)))) | fail)
  all_goals rfl
set_option maxHeartbeats 4000000 in
set_option maxRecDepth 20000 in
theorem back_main (n h t n1 h1 t1 n2 h2 t2 : List Int) (i x j e f g : Int) (l1 l2 : List Int) (hf : fewC n h t = true) (ok : okC n h t)
    (hO : Fun Try.prog 17 [cv n h t, vi i, vi x] (.tup [cv n1 h1 t1, vi e])) (hS : (e == 0) = true → Fun Try.prog 20 [cv n1 h1 t1, vi x] (.tup [cv n h t, vi 0]))
    (hA : Fun Try.prog 11 [cv n h t, vi j] (.tup [sI l1, vi f])) (hB : Fun Try.prog 11 [cv n h t, vi i] (.tup [sI l2, vi g])) (hl2 : l2.length ≤ 100000)
    (hJ : ((f != 0) || (g != 0) || decide ((l1.length : Int) > 0) || (i == j)) = false → Fun Try.prog 22 [cv n h t, vi i, vi j] (.tup [cv n2 h2 t2, vi 0]) ∧ Fun Try.prog 11 [cv n2 h2 t2, vi j] (.tup [sI l2, vi 0]) ∧ Fun Try.prog 22 [cv n2 h2 t2, vi j, vi i] (.tup [cv n h t, vi 0])) : Fun Try.prog 8 [cv n h t, vi i, vi x, vi j] (vb true) := by
  have hv := live_fun
  have hw := few_fun n h t
  have hk := check_fun n h t
  rw [chk_ok ok] at hk
  rw [hf] at hw
  have hbd := few_cases ⟨hf, ok⟩
  have hsm := same_fun n h t n h t (by omega) (by omega) (by omega)
  rw [show (decide (n = n) && decide (h = h) && decide (t = t)) = true by simp] at hsm
  have hri := req_fun l2 l2 hl2
  rw [show decide (l2 = l2) = true by simp] at hri
  (refine LCalls.enter Try.func8 rfl (by simp [Try.ntmps8]) (LK.start ?_); simp only [Try.ntmps8, enterA, Nat.zero_add])
  (repeat' first | refine LOps.done ?_ | (apply LOps.mv; (focus (first | exact Goes.free | exact Goes.on rfl rfl (by with_reducible rfl) true (by decide))); (focus (exact rfl)); (focus (exact rfl))) | (apply LOps.asg; (focus (first | exact Goes.free | exact Goes.on rfl rfl (by with_reducible rfl) true (by decide))); (focus (exact rfl)); (focus (exact rfl))) | (apply LOps.ext; (focus (first | exact Goes.free | exact Goes.on rfl rfl (by with_reducible rfl) true (by decide))); (focus (exact rfl)); (focus (exact rfl)); (focus (exact rfl))) | (apply LOps.loc; (focus (first | exact Goes.free | exact Goes.on rfl rfl (by with_reducible rfl) true (by decide))); (focus (exact rfl)); (focus (exact rfl)); (focus (simp only [go_sem, ↓reduceIte, Nat.reduceEqDiff, reduceCtorEq, Nat.reduceLT, Nat.reduceAdd, Int.reduceBNe]; with_reducible rfl))) | (apply LOps.loc0; (focus (first | exact Goes.free | exact Goes.on rfl rfl (by with_reducible rfl) true (by decide))); (focus (exact rfl)); (focus (simp only [go_sem, ↓reduceIte, Nat.reduceEqDiff, reduceCtorEq, Nat.reduceLT, Nat.reduceAdd]; with_reducible rfl))) | refine LK.seq ?_ | refine LK.skip ?_ | (apply LK.condF2; (focus (exact rfl)); (focus (with_reducible rfl)); (focus (first | with_reducible rfl | decide | (with_reducible exact Bool.false_and _) | (with_reducible exact congrArg (fun b => b && _) (Bool.false_and _))))) | refine LK.regc ?_ | (apply LOps.locFn; (focus (first | exact Goes.free | exact Goes.on rfl rfl (by with_reducible rfl) true (by decide))); (focus (exact rfl)); (focus (exact rfl)); (focus (simp only [go_sem, ↓reduceIte, Nat.reduceEqDiff]; exact rfl)); (focus (simp only [go_sem])); (focus (first | exact hv | exact hw | exact hk | exact hO)); (focus (first | rfl | simp [go_sem])); (focus (first | rfl | simp [go_sem]))) | fail)
  refine LK.mergeB True [1, 2, 3, 4, 8, 9] rfl ?_ (fun _ => ?_)
  · cases he : (e == 0) with
    | true =>
      have hs := hS he
      (repeat' first | refine LOps.done ?_ | (apply LOps.mv; (focus (first | exact Goes.free | exact Goes.on rfl rfl (by with_reducible rfl) true (by decide))); (focus (exact rfl)); (focus (exact rfl))) | (apply LOps.asg; (focus (first | exact Goes.free | exact Goes.on rfl rfl (by with_reducible rfl) true (by decide))); (focus (exact rfl)); (focus (exact rfl))) | (apply LOps.ext; (focus (first | exact Goes.free | exact Goes.on rfl rfl (by with_reducible rfl) true (by decide))); (focus (exact rfl)); (focus (exact rfl)); (focus (exact rfl))) | (apply LOps.loc; (focus (first | exact Goes.free | exact Goes.on rfl rfl (by with_reducible rfl) true (by decide))); (focus (exact rfl)); (focus (exact rfl)); (focus (simp only [go_sem, ↓reduceIte, Nat.reduceEqDiff, reduceCtorEq, Nat.reduceLT, Nat.reduceAdd, Int.reduceBNe]; with_reducible rfl))) | (apply LOps.loc0; (focus (first | exact Goes.free | exact Goes.on rfl rfl (by with_reducible rfl) true (by decide))); (focus (exact rfl)); (focus (simp only [go_sem, ↓reduceIte, Nat.reduceEqDiff, reduceCtorEq, Nat.reduceLT, Nat.reduceAdd]; with_reducible rfl))) | refine LK.seq ?_ | refine LK.skip ?_ | refine LK.fin ?_ | (apply LK.condT2; (focus (exact rfl)); (focus (with_reducible rfl)); (focus (first | with_reducible rfl | decide | (with_reducible exact Bool.true_or _) | (with_reducible exact congrArg (fun b => b || _) (Bool.true_or _))))) | (apply LK.condF2; (focus (exact rfl)); (focus (with_reducible rfl)); (focus (first | with_reducible rfl | decide | (with_reducible exact Bool.false_and _) | (with_reducible exact congrArg (fun b => b && _) (Bool.false_and _))))) | refine LK.regc ?_ | (apply LOps.locFn; (focus (first | exact Goes.free | exact Goes.on rfl rfl (by with_reducible rfl) true (by decide))); (focus (exact rfl)); (focus (exact rfl)); (focus (simp only [go_sem, ↓reduceIte, Nat.reduceEqDiff]; exact rfl)); (focus (simp only [go_sem])); (focus (first | exact hs | exact hsm)); (focus (first | rfl | simp [go_sem])); (focus (first | rfl | simp [go_sem]))) | fail)
      exact ⟨trivial, (Sub.by rfl rfl (by first | rfl | (simp only [subB, MB_all_under, MI_all_under, MB_all_idp, MI_all_idp, oF_under, oF_idp, oF_all_under, oF_all_idp, MB_under, MI_under, MB_idp, MI_idp, evOk, ovOk, nvOk, keepOf, vis, LV.under, LV.unders, LV.idp, LV.idps, LO.under, LO.idp, under_pv, idp_pv, List.all_cons, List.all_nil, List.any_cons, List.any_nil, Nat.reduceBEq, beq_self_eq_true, Bool.and_true, Bool.true_and, Bool.or_true, Bool.true_or, Bool.or_false, Bool.false_or, decide_true, decide_false, Nat.reduceLT, Nat.reduceLeDiff, Nat.le_refl, Nat.reduceAdd, Bool.and_self, Bool.or_self]; done)))⟩
    | false =>
      (repeat' first | refine LK.skip ?_ | refine LK.fin ?_ | (apply LK.condF2; (focus (exact rfl)); (focus (with_reducible rfl)); (focus (first | with_reducible rfl | decide | (with_reducible exact Bool.false_and _) | (with_reducible exact congrArg (fun b => b && _) (Bool.false_and _))))) | fail)
      exact ⟨trivial, (Sub.by rfl rfl (by first | rfl | (simp only [subB, MB_all_under, MI_all_under, MB_all_idp, MI_all_idp, oF_under, oF_idp, oF_all_under, oF_all_idp, MB_under, MI_under, MB_idp, MI_idp, evOk, ovOk, nvOk, keepOf, vis, LV.under, LV.unders, LV.idp, LV.idps, LO.under, LO.idp, under_pv, idp_pv, List.all_cons, List.all_nil, List.any_cons, List.any_nil, Nat.reduceBEq, beq_self_eq_true, Bool.and_true, Bool.true_and, Bool.or_true, Bool.true_or, Bool.or_false, Bool.false_or, decide_true, decide_false, Nat.reduceLT, Nat.reduceLeDiff, Nat.le_refl, Nat.reduceAdd, Bool.and_self, Bool.or_self]; done)))⟩
  (repeat' first | refine LOps.done ?_ | (apply LOps.mv; (focus (first | exact Goes.free | exact Goes.on rfl rfl (by with_reducible rfl) true (by decide))); (focus (exact rfl)); (focus (exact rfl))) | (apply LOps.asg; (focus (first | exact Goes.free | exact Goes.on rfl rfl (by with_reducible rfl) true (by decide))); (focus (exact rfl)); (focus (exact rfl))) | (apply LOps.ext; (focus (first | exact Goes.free | exact Goes.on rfl rfl (by with_reducible rfl) true (by decide))); (focus (exact rfl)); (focus (exact rfl)); (focus (exact rfl))) | (apply LOps.loc; (focus (first | exact Goes.free | exact Goes.on rfl rfl (by with_reducible rfl) true (by decide))); (focus (exact rfl)); (focus (exact rfl)); (focus (simp only [go_sem, ↓reduceIte, Nat.reduceEqDiff, reduceCtorEq, Nat.reduceAdd]; with_reducible rfl))) | (apply LOps.pass; (focus (first | exact Goes.on rfl rfl (by with_reducible rfl) false (by decide) | exact Goes.undef rfl rfl (by with_reducible rfl))); (focus (exact rfl))) | (apply LOps.scEnd; (focus (exact rfl)); (focus (with_reducible rfl))) | refine LK.seq ?_ | refine LK.regc ?_ | (apply LOps.locFn; (focus (first | exact Goes.free | exact Goes.on rfl rfl (by with_reducible rfl) true (by decide))); (focus (exact rfl)); (focus (exact rfl)); (focus (simp only [go_sem, ↓reduceIte, Nat.reduceEqDiff]; exact rfl)); (focus (simp only [go_sem])); (focus (first | exact hA | exact hB)); (focus (first | rfl | simp [go_sem])); (focus (first | rfl | simp [go_sem]))) | (apply LOps.or2; exact rfl; exact rfl; exact rfl; exact rfl; exact rfl; (focus (with_reducible rfl)); (focus (first | kernel_rfl | rfl))) | refine Under.mk (fun hg => ?_) | fail)
  cases hc : ((f != 0) || (g != 0) || decide ((l1.length : Int) > 0) || (i == j)) with
  | true =>
    (repeat' first | refine LOps.done ?_ | (apply LOps.mv; (focus (first | exact Goes.free | exact Goes.on rfl rfl (by with_reducible rfl) true (by decide))); (focus (exact rfl)); (focus (exact rfl))) | (apply LOps.asg; (focus (first | exact Goes.free | exact Goes.on rfl rfl (by with_reducible rfl) true (by decide))); (focus (exact rfl)); (focus (exact rfl))) | refine LK.seq ?_ | refine LK.ret' ?_ | (apply LK.condT2; (focus (exact rfl)); (focus (with_reducible rfl)); (focus (first | with_reducible rfl | decide | (with_reducible exact Bool.true_or _) | (with_reducible exact congrArg (fun b => b || _) (Bool.true_or _))))) | refine LK.regc ?_ | (apply retQ; (focus (first | exact lres_one rfl | exact lres_more rfl | (simp only [lres, lresv, Try.results8, go_sem, ↓reduceIte, Nat.reduceEqDiff, reduceCtorEq, Nat.reduceLT, Nat.reduceAdd, Int.reduceBEq, Int.reduceBNe, Int.reduceEq, Int.reduceLE, Int.reduceLT, Int.reduceToNat, Nat.reduceLeDiff, Nat.reduceMul, Nat.reduceSub]; exact rfl)))) | fail)
    all_goals rfl
  | false =>
    obtain ⟨j1, j2, j3⟩ := hJ hc
    (repeat' first | refine LOps.done ?_ | (apply LOps.mv; (focus (first | exact Goes.free | exact Goes.on rfl rfl (by with_reducible rfl) true (by decide))); (focus (exact rfl)); (focus (exact rfl))) | (apply LOps.asg; (focus (first | exact Goes.free | exact Goes.on rfl rfl (by with_reducible rfl) true (by decide))); (focus (exact rfl)); (focus (exact rfl))) | (apply LOps.ext; (focus (first | exact Goes.free | exact Goes.on rfl rfl (by with_reducible rfl) true (by decide))); (focus (exact rfl)); (focus (exact rfl)); (focus (exact rfl))) | (apply LOps.loc; (focus (first | exact Goes.free | exact Goes.on rfl rfl (by with_reducible rfl) true (by decide))); (focus (exact rfl)); (focus (exact rfl)); (focus (simp only [go_sem, ↓reduceIte, Nat.reduceEqDiff, reduceCtorEq, Nat.reduceLT, Nat.reduceAdd]; with_reducible rfl))) | (apply LOps.loc0; (focus (first | exact Goes.free | exact Goes.on rfl rfl (by with_reducible rfl) true (by decide))); (focus (exact rfl)); (focus (simp only [go_sem, ↓reduceIte, Nat.reduceEqDiff, reduceCtorEq, Nat.reduceLT, Nat.reduceAdd]; with_reducible rfl))) | refine LK.seq ?_ | refine LK.skip ?_ | refine LK.ret' ?_ | (apply LK.condF2; (focus (exact rfl)); (focus (with_reducible rfl)); (focus (first | with_reducible rfl | decide | (with_reducible exact Bool.false_and _) | (with_reducible exact congrArg (fun b => b && _) (Bool.false_and _))))) | refine LK.regc ?_ | (apply retQ; (focus (first | exact lres_one rfl | exact lres_more rfl | (simp only [lres, lresv, Try.results8, go_sem, ↓reduceIte, Nat.reduceEqDiff, reduceCtorEq, Nat.reduceLT, Nat.reduceAdd, Int.reduceBEq, Int.reduceBNe, Int.reduceEq, Int.reduceLE, Int.reduceLT, Int.reduceToNat, Nat.reduceLeDiff, Nat.reduceMul, Nat.reduceSub]; exact rfl)))) | (apply LOps.locFn; (focus (first | exact Goes.free | exact Goes.on rfl rfl (by with_reducible rfl) true (by decide))); (focus (exact rfl)); (focus (exact rfl)); (focus (simp only [go_sem, ↓reduceIte, Nat.reduceEqDiff]; exact rfl)); (focus (simp only [go_sem])); (focus (first | exact j1 | exact j2 | exact j3 | exact hri | exact hsm)); (focus (first | rfl | simp [go_sem])); (focus (first | rfl | simp [go_sem]))) | fail)
    all_goals rfl
theorem push_kinds (n h t : List Int) (i x : Int) : (∃ e : Int, (e == 0) = false ∧ Fun Try.prog 17 [cv n h t, vi i, vi x] (.tup [cv [] [] [], vi e])) ∨
    ∃ (Q : List (List Nat)) (a b : Nat) (q : List Nat), i = a ∧ x = b ∧ Ch n h t Q ∧ Q[a]? = some q ∧ b ∉ Q.flatten ∧ b < n.length := by
  by_cases g : okC n h t ∧ (0 ≤ i ∧ i < h.length) ∧ (0 ≤ x ∧ x < n.length)
  · obtain ⟨⟨b, Q, r⟩, ⟨g1, g2⟩, g3, g4⟩ := g
    obtain ⟨a, rfl⟩ := Int.eq_ofNat_of_zero_le g1
    obtain ⟨y, rfl⟩ := Int.eq_ofNat_of_zero_le g3
    obtain ⟨q, hq⟩ := idx_all (show a < Q.length by rw [← r.lh]; omega)
    by_cases hm : y ∈ Q.flatten
    · exact .inl ⟨6, rfl, push_no ⟨b, r⟩ (by omega) hm (by omega)⟩
    · exact .inr ⟨Q, a, y, q, rfl, rfl, ⟨b, r⟩, hq, hm, by omega⟩
  · exact .inl ⟨1, rfl, push_bad n h t i x g⟩
theorem Ch.same {n h t n' h' t' : List Int} {Q : List (List Nat)} (c : Ch n h t Q) (d : Ch n' h' t' Q) (e : n'.length = n.length) : cv n' h' t' = cv n h t := by
  obtain ⟨rfl, rfl, rfl⟩ := rep_eq c.r d.r e; rfl
theorem push_cut (n h t : List Int) (i x : Int) : ∃ (n1 h1 t1 : List Int) (e : Int), Fun Try.prog 17 [cv n h t, vi i, vi x] (.tup [cv n1 h1 t1, vi e]) ∧ ((e == 0) = true → Fun Try.prog 20 [cv n1 h1 t1, vi x] (.tup [cv n h t, vi 0])) := by
  rcases push_kinds n h t i x with ⟨e, he, hp⟩ | ⟨Q, a, b, q, rfl, rfl, c, hq, hm, hb⟩
  · exact ⟨_, _, _, e, hp, fun h => by rw [he] at h; cases h⟩
  · obtain ⟨n1, h1, t1, f1, c1, e1, e2, _⟩ := push_yes c hq hm hb
    refine ⟨n1, h1, t1, 0, f1, fun _ => ?_⟩
    obtain ⟨n2, h2, t2, f2, c2, e3, e4, _⟩ := cut_yes c1 (i := a) (x := b) (p := q) (s := []) (List.getElem?_set_self (lt_of_get hq))
    have e5 : (Q.set a (q ++ [b])).set a (q ++ []) = Q := by rw [List.set_set, List.append_nil, set_same hq]
    rw [e5] at c2
    rw [c.same c2 (e3.trans e1)] at f2
    exact f2
theorem walk_kinds (n h t : List Int) (i : Int) : Fun Try.prog 11 [cv n h t, vi i] (.tup [sI [], vi 1]) ∨
    ∃ (Q : List (List Nat)) (a : Nat) (q : List Nat), i = a ∧ Ch n h t Q ∧ Q[a]? = some q := by
  by_cases g : okC n h t ∧ (0 ≤ i ∧ i < h.length)
  · obtain ⟨⟨b, Q, r⟩, g1, g2⟩ := g
    obtain ⟨a, rfl⟩ := Int.eq_ofNat_of_zero_le g1
    obtain ⟨q, hq⟩ := idx_all (show a < Q.length by rw [← r.lh]; omega)
    exact .inr ⟨Q, a, q, rfl, ⟨b, r⟩, hq⟩
  · exact .inl (walk_bad n h t i g)
theorem Ch.unique {n h t : List Int} {Q R : List (List Nat)} (c : Ch n h t Q) (d : Ch n h t R) : Q = R := by
  apply List.ext_getElem?
  intro i
  rcases Nat.lt_or_ge i Q.length with hi | hi
  · obtain ⟨q, hq⟩ := idx_all hi
    obtain ⟨p, hp⟩ := idx_all (show i < R.length by rw [← d.r.lh, c.r.lh]; exact hi)
    obtain ⟨a, b, ha, hb, pa, _⟩ := rep_head c.r hq
    rw [hq, hp, pathTo_unique pa (d.r.path i p a hp ha)]
  · rw [List.getElem?_eq_none hi, List.getElem?_eq_none (by rw [← d.r.lh, c.r.lh]; exact hi)]
theorem back_fun (n h t : List Int) (i x j : Int) : Fun Try.prog 8 [cv n h t, vi i, vi x, vi j] (vb true) := by
  by_cases g : fewC n h t = true ∧ okC n h t
  case neg => exact back_skip n h t i x j g
  obtain ⟨hf, ok⟩ := g
  obtain ⟨n1, h1, t1, e, hO, hS⟩ := push_cut n h t i x
  rcases walk_kinds n h t j with hA | ⟨Q, b, q, rfl, c, hq⟩
  · rcases walk_kinds n h t i with hB | ⟨Q, a, p, rfl, c, hp⟩
    · exact back_main n h t n1 h1 t1 [] [] [] i x j e 1 1 [] [] hf ok hO hS hA hB (by simp) (fun h => by simp at h)
    · exact back_main n h t n1 h1 t1 [] [] [] a x j e 1 0 [] (castL p) hf ok hO hS hA (walk_ok n h t Q a p c.b c.r hp) (by rw [castL_len]; have := (c.r.le hp).1; have := c.b.1; omega) (fun h => by simp at h)
  · have hA := walk_ok n h t Q b q c.b c.r hq
    rcases walk_kinds n h t i with hB | ⟨Q', a, p, rfl, c', hp⟩
    · exact back_main n h t n1 h1 t1 [] [] [] i x b e 0 1 (castL q) [] hf ok hO hS hA hB (by simp) (fun h => by simp at h)
    · obtain rfl := c.unique c'
      have hB := walk_ok n h t Q a p c.b c.r hp
      have hl : (castL p).length ≤ 100000 := by rw [castL_len]; have := (c.r.le hp).1; have := c.b.1; omega
      by_cases hab : a = b
      · exact back_main n h t n1 h1 t1 [] [] [] a x b e 0 0 (castL q) (castL p) hf ok hO hS hA hB hl (fun h => by subst hab; simp at h)
      · obtain ⟨n2, h2, t2, f2, c2, l2, m2⟩ := join_yes c hab hp hq
        refine back_main n h t n1 h1 t1 n2 h2 t2 a x b e 0 0 (castL q) (castL p) hf ok hO hS hA hB hl (fun h => ?_)
        have hq0 : q = [] := by
          simp only [Bool.or_eq_false_iff, decide_eq_false_iff_not] at h
          have h3 := h.1.2
          rw [castL_len] at h3
          exact List.length_eq_zero_iff.1 (by omega)
        subst hq0
        have q1 := joinQ_to (p := p) (q := []) hab (lt_of_get hq)
        have q2 := joinQ_from (j := b) (p := p) (q := []) (lt_of_get hp)
        obtain ⟨n3, h3, t3, f3, c3, l3, m3⟩ := join_yes c2 (Ne.symm hab) q1 q2
        have e5 : joinQ (joinQ Q a b p []) b a ([] ++ p) [] = Q := by
          apply List.ext_getElem?
          intro k
          by_cases k1 : k = a
          · subst k1; rw [joinQ_to (Ne.symm hab) (by rw [joinQ_len]; exact lt_of_get hp), hp]; rfl
          · by_cases k2 : k = b
            · subst k2; rw [joinQ_from (by rw [joinQ_len]; exact lt_of_get hq), hq]
            · rw [joinQ_other k2 k1, joinQ_other k1 k2]
        rw [e5] at c3
        rw [c.same c3 (l3.trans l2)] at f3
        exact ⟨f2, walk_ok n2 h2 t2 _ b p c2.b c2.r q1, f3⟩
end Go.Proofs.Ytlikcejcdnkncaa
