/- Chapter 06: ChainTells. -/
import Derived.Test.YtlikcejcdnkncaaQ18
set_option linter.unusedSimpArgs false
set_option linter.unusedVariables false
namespace Go.Proofs.Ytlikcejcdnkncaa
open Go.Lw
attribute [local irreducible] LK LOps LW
set_option maxHeartbeats 4000000 in
set_option maxRecDepth 20000 in
theorem tells_skip1 (a b : Int) (n h t n2 h2 t2 : List Int) (i x : Int) (g : fewC n h t = false) : Fun Try.prog 6 [vi a, vi b, cv n h t, cv n2 h2 t2, vi i, vi x] (vb true) := by
  have hv := live_fun
  have hw := few_fun n h t
  rw [g] at hw
  (refine LCalls.enter Try.func6 rfl (by simp [Try.ntmps6]) (LK.start ?_); simp only [Try.ntmps6, enterA, Nat.zero_add])
  (repeat' first | refine LOps.done ?_ | (apply LOps.mv; (focus (first | exact Goes.free | exact Goes.on rfl rfl (by with_reducible rfl) true (by decide))); (focus (exact rfl)); (focus (exact rfl))) | (apply LOps.asg; (focus (first | exact Goes.free | exact Goes.on rfl rfl (by with_reducible rfl) true (by decide))); (focus (exact rfl)); (focus (exact rfl))) | (apply LOps.loc; (focus (first | exact Goes.free | exact Goes.on rfl rfl (by with_reducible rfl) true (by decide))); (focus (exact rfl)); (focus (exact rfl)); (focus (simp only [go_sem, ↓reduceIte, reduceCtorEq, Nat.reduceLT, Nat.reduceAdd]; with_reducible rfl))) | (apply LOps.pass; (focus (first | exact Goes.on rfl rfl (by with_reducible rfl) false (by decide) | exact Goes.undef rfl rfl (by with_reducible rfl))); (focus (exact rfl))) | refine LK.seq ?_ | refine LK.ret' ?_ | (apply LK.condT2; (focus (exact rfl)); (focus (with_reducible rfl)); (focus (first | with_reducible rfl | decide | (with_reducible exact Bool.true_or _) | (with_reducible exact congrArg (fun b => b || _) (Bool.true_or _))))) | refine LK.regc ?_ | (apply retQ; (focus (first | exact lres_one rfl | exact lres_more rfl | (simp only [lres, lresv, Try.results6, go_sem, ↓reduceIte, Nat.reduceEqDiff, reduceCtorEq, Nat.reduceLT, Nat.reduceAdd, Int.reduceBEq, Int.reduceBNe, Int.reduceEq, Int.reduceLE, Int.reduceLT, Int.reduceToNat, Nat.reduceLeDiff, Nat.reduceMul, Nat.reduceSub]; exact rfl)))) | (apply LOps.locFn; (focus (first | exact Goes.free | exact Goes.on rfl rfl (by with_reducible rfl) true (by decide))); (focus (exact rfl)); (focus (exact rfl)); (focus (simp only [go_sem, ↓reduceIte]; exact rfl)); (focus (simp only [go_sem])); (focus (first | exact hv | exact hw)); (focus (first | rfl | simp [go_sem])); (focus (first | rfl | simp [go_sem]))) | fail)
  all_goals rfl
set_option maxHeartbeats 4000000 in
set_option maxRecDepth 20000 in
theorem tells_skip2 (a b : Int) (n h t n2 h2 t2 : List Int) (i x : Int) (g : fewC n h t = true) (g2 : fewC n2 h2 t2 = false) : Fun Try.prog 6 [vi a, vi b, cv n h t, cv n2 h2 t2, vi i, vi x] (vb true) := by
  have hv := live_fun
  have hw := few_fun n h t
  have hw2 := few_fun n2 h2 t2
  rw [g] at hw
  rw [g2] at hw2
  (refine LCalls.enter Try.func6 rfl (by simp [Try.ntmps6]) (LK.start ?_); simp only [Try.ntmps6, enterA, Nat.zero_add])
  (repeat' first | refine LOps.done ?_ | (apply LOps.mv; (focus (first | exact Goes.free | exact Goes.on rfl rfl (by with_reducible rfl) true (by decide))); (focus (exact rfl)); (focus (exact rfl))) | (apply LOps.asg; (focus (first | exact Goes.free | exact Goes.on rfl rfl (by with_reducible rfl) true (by decide))); (focus (exact rfl)); (focus (exact rfl))) | (apply LOps.loc; (focus (first | exact Goes.free | exact Goes.on rfl rfl (by with_reducible rfl) true (by decide))); (focus (exact rfl)); (focus (exact rfl)); (focus (simp only [go_sem, ↓reduceIte, Nat.reduceEqDiff, reduceCtorEq, Nat.reduceLT, Nat.reduceAdd]; with_reducible rfl))) | (apply LOps.pass; (focus (first | exact Goes.on rfl rfl (by with_reducible rfl) false (by decide) | exact Goes.undef rfl rfl (by with_reducible rfl))); (focus (exact rfl))) | refine LK.seq ?_ | refine LK.ret' ?_ | (apply LK.condT2; (focus (exact rfl)); (focus (with_reducible rfl)); (focus (first | with_reducible rfl | decide | (with_reducible exact Bool.true_or _) | (with_reducible exact congrArg (fun b => b || _) (Bool.true_or _))))) | refine LK.regc ?_ | (apply retQ; (focus (first | exact lres_one rfl | exact lres_more rfl | (simp only [lres, lresv, Try.results6, go_sem, ↓reduceIte, Nat.reduceEqDiff, reduceCtorEq, Nat.reduceLT, Nat.reduceAdd, Int.reduceBEq, Int.reduceBNe, Int.reduceEq, Int.reduceLE, Int.reduceLT, Int.reduceToNat, Nat.reduceLeDiff, Nat.reduceMul, Nat.reduceSub]; exact rfl)))) | (apply LOps.locFn; (focus (first | exact Goes.free | exact Goes.on rfl rfl (by with_reducible rfl) true (by decide))); (focus (exact rfl)); (focus (exact rfl)); (focus (simp only [go_sem, ↓reduceIte]; exact rfl)); (focus (simp only [go_sem])); (focus (first | exact hv | exact hw | exact hw2)); (focus (first | rfl | simp [go_sem])); (focus (first | rfl | simp [go_sem]))) | fail)
  all_goals rfl
set_option maxHeartbeats 4000000 in
set_option maxRecDepth 20000 in
theorem tells_skip3 (a b : Int) (n h t n2 h2 t2 : List Int) (i x : Int) (g : fewC n h t = true) (g2 : fewC n2 h2 t2 = true) (ha : a > 300) (hb : a ≤ 1024) : Fun Try.prog 6 [vi a, vi b, cv n h t, cv n2 h2 t2, vi i, vi x] (vb true) := by
  have hv := live_fun
  have hw := few_fun n h t
  have hw2 := few_fun n2 h2 t2
  rw [g] at hw
  rw [g2] at hw2
  (refine LCalls.enter Try.func6 rfl (by simp [Try.ntmps6]) (LK.start ?_); simp only [Try.ntmps6, enterA, Nat.zero_add])
  (repeat' first | refine LOps.done ?_ | (apply LOps.mv; (focus (first | exact Goes.free | exact Goes.on rfl rfl (by with_reducible rfl) true (by decide))); (focus (exact rfl)); (focus (exact rfl))) | (apply LOps.asg; (focus (first | exact Goes.free | exact Goes.on rfl rfl (by with_reducible rfl) true (by decide))); (focus (exact rfl)); (focus (exact rfl))) | (apply LOps.loc; (focus (first | exact Goes.free | exact Goes.on rfl rfl (by with_reducible rfl) true (by decide))); (focus (exact rfl)); (focus (exact rfl)); (focus (simp only [go_sem, ↓reduceIte, Nat.reduceEqDiff, reduceCtorEq, Nat.reduceLT, Nat.reduceAdd, ha, hb]; with_reducible rfl))) | refine LK.seq ?_ | refine LK.ret' ?_ | (apply LK.condT2; (focus (exact rfl)); (focus (with_reducible rfl)); (focus (first | with_reducible rfl | decide | (with_reducible exact Bool.true_or _) | (with_reducible exact congrArg (fun b => b || _) (Bool.true_or _))))) | refine LK.regc ?_ | (apply retQ; (focus (first | exact lres_one rfl | exact lres_more rfl | (simp only [lres, lresv, Try.results6, go_sem, ↓reduceIte, Nat.reduceEqDiff, reduceCtorEq, Nat.reduceLT, Nat.reduceAdd, Int.reduceBEq, Int.reduceBNe, Int.reduceEq, Int.reduceLE, Int.reduceLT, Int.reduceToNat, Nat.reduceLeDiff, Nat.reduceMul, Nat.reduceSub, ha, hb]; exact rfl)))) | (apply LOps.locFn; (focus (first | exact Goes.free | exact Goes.on rfl rfl (by with_reducible rfl) true (by decide))); (focus (exact rfl)); (focus (exact rfl)); (focus (simp only [go_sem, ↓reduceIte]; exact rfl)); (focus (simp only [go_sem])); (focus (first | exact hv | exact hw | exact hw2)); (focus (first | rfl | simp [go_sem])); (focus (first | rfl | simp [go_sem]))) | fail)
  all_goals rfl
set_option maxHeartbeats 4000000 in
set_option maxRecDepth 20000 in
theorem tells_go (a b : Int) (n h t n2 h2 t2 n1 h1 t1 : List Int) (i x e f g A : Int) (p1 p2 p3 : PV) (ok S : Bool) (q : fewC n h t = true) (q2 : fewC n2 h2 t2 = true) (hab : (decide (a > 300) && decide (a ≤ 1024)) = false)
    (hN : Fun Try.prog 25 [vi a, vi b] (.tup [cv n1 h1 t1, vi e])) (hN2 : Fun Try.prog 26 [vi a, vi b] (.tup [cv n1 h1 t1, vi e])) (hNs : Fun Try.prog 24 [cv n1 h1 t1, cv n1 h1 t1] (vb true))
    (hW : Fun Try.prog 11 [cv n h t, vi i] (.tup [.pv p1, vi f])) (hW2 : Fun Try.prog 27 [cv n h t, vi i] (.tup [.pv p2, vi f])) (hWs : Fun Try.prog 13 [.pv p1, .pv p2] (vb true))
    (hX : Fun Try.prog 15 [cv n h t, vi x] (.tup [vi A, vi g])) (hX2 : Fun Try.prog 28 [cv n h t, vi x] (.tup [vi A, vi g])) (hL : Fun Try.prog 29 [cv n h t] (.tup [.pv p3, vb ok]))
    (hok : ((chk n h t == 0) == ok) = true) (hS : Fun Try.prog 30 [cv n h t, cv n2 h2 t2] (vb S)) (hS2 : Fun Try.prog 24 [cv n h t, cv n2 h2 t2] (vb S)) : Fun Try.prog 6 [vi a, vi b, cv n h t, cv n2 h2 t2, vi i, vi x] (vb true) := by
  have hv := live_fun
  have hw := few_fun n h t
  have hw2 := few_fun n2 h2 t2
  have hk := check_fun n h t
  rw [q] at hw
  rw [q2] at hw2
  have r1 : (e == e) = true := by simp
  have r2 : (f == f) = true := by simp
  have r3 : (g == g) = true := by simp
  have r4 : (A == A) = true := by simp
  have r5 : (S == S) = true := by simp
  (refine LCalls.enter Try.func6 rfl (by simp [Try.ntmps6]) (LK.start ?_); simp only [Try.ntmps6, enterA, Nat.zero_add])
  (repeat' first | refine LOps.done ?_ | (apply LOps.mv; (focus (first | exact Goes.free | exact Goes.on rfl rfl (by with_reducible rfl) true (by decide))); (focus (exact rfl)); (focus (exact rfl))) | (apply LOps.asg; (focus (first | exact Goes.free | exact Goes.on rfl rfl (by with_reducible rfl) true (by decide))); (focus (exact rfl)); (focus (exact rfl))) | (apply LOps.ext; (focus (first | exact Goes.free | exact Goes.on rfl rfl (by with_reducible rfl) true (by decide))); (focus (exact rfl)); (focus (exact rfl)); (focus (exact rfl))) | (apply LOps.loc; (focus (first | exact Goes.free | exact Goes.on rfl rfl (by with_reducible rfl) true (by decide))); (focus (exact rfl)); (focus (exact rfl)); (focus (simp only [go_sem, ↓reduceIte, Nat.reduceEqDiff, reduceCtorEq, Nat.reduceLT, Nat.reduceAdd, hab]; with_reducible rfl))) | (apply LOps.loc0; (focus (first | exact Goes.free | exact Goes.on rfl rfl (by with_reducible rfl) true (by decide))); (focus (exact rfl)); (focus (simp only [go_sem, ↓reduceIte, Nat.reduceEqDiff, reduceCtorEq, Nat.reduceLT, Nat.reduceAdd]; with_reducible rfl))) | (apply LOps.pass; (focus (first | exact Goes.on rfl rfl (by with_reducible rfl) false (by decide) | exact Goes.undef rfl rfl (by with_reducible rfl))); (focus (exact rfl))) | (apply LOps.scEnd; (focus (exact rfl)); (focus (with_reducible rfl))) | refine LK.seq ?_ | refine LK.skip ?_ | refine LK.ret' ?_ | (apply LK.condF2; (focus (exact rfl)); (focus (with_reducible rfl)); (focus (first | with_reducible rfl | decide | (with_reducible exact Bool.false_and _) | (with_reducible exact congrArg (fun b => b && _) (Bool.false_and _))))) | refine LK.regc ?_ | (apply retQ; (focus (first | exact lres_one rfl | exact lres_more rfl | (simp only [lres, lresv, Try.results6, go_sem, ↓reduceIte, Nat.reduceEqDiff, reduceCtorEq, Nat.reduceLT, Nat.reduceAdd, Int.reduceBEq, Int.reduceBNe, Int.reduceEq, Int.reduceLE, Int.reduceLT, Int.reduceToNat, Nat.reduceLeDiff, Nat.reduceMul, Nat.reduceSub, hab, hok, r1, r2, r3, r4, r5]; exact rfl)))) | (apply LOps.locFn; (focus (first | exact Goes.free | exact Goes.on rfl rfl (by with_reducible rfl) true (by decide))); (focus (exact rfl)); (focus (exact rfl)); (focus (simp only [go_sem, ↓reduceIte, Nat.reduceEqDiff]; exact rfl)); (focus (simp only [go_sem])); (focus (first | exact hv | exact hw | exact hw2 | exact hN | exact hN2 | exact hNs | exact hW | exact hW2 | exact hWs | exact hX | exact hX2 | exact hL | exact hk | exact hS | exact hS2)); (focus (first | rfl | simp [go_sem])); (focus (first | rfl | simp [go_sem]))) | (apply LK.drawn3; (focus (exact Ty.mixed)); (focus ((repeat' first | exact DRun.nil _ _ _ | (apply DRun.aopS; (focus (exact rfl)); (focus (first | exact rfl | (simp only [oF_idss, oF_ids, idss_MB, idss_MI, objsOf, idsOf, LV.ids, LV.idss, LO.ids, idss_pv, lookB_eq, List.any_nil, List.any_cons, cond_true, cond_false, List.flatten_cons, List.flatten_nil, Nat.reduceBEq, Bool.or_false, Bool.false_or, Bool.or_true, go_sem, ↓reduceIte, Nat.reduceEqDiff, reduceCtorEq, Nat.reduceLT, Nat.reduceAdd, Int.reduceBEq, Int.reduceBNe, Int.reduceEq, Int.reduceLE, Int.reduceLT, Int.reduceToNat, Nat.reduceLeDiff, Nat.reduceMul, Nat.reduceSub, hab, hok, r1, r2, r3, r4, r5]; exact rfl))); (focus (first | exact Goes.free | exact Goes.on rfl rfl (by with_reducible rfl) true (by decide))); (focus (simp only [go_sem, ↓reduceIte, Nat.reduceEqDiff, reduceCtorEq, Nat.reduceAdd, hok, r1, r2, r3, r4, r5]; exact rfl)); (focus (exact rfl)); (focus (first | decide +kernel | (simp only [evOk, ovOk, nvOk, keepOf, vis, LV.under, LV.idp, LV.idps, LO.under, LO.idp, List.all_cons, List.all_nil, List.any_cons, List.any_nil, Bool.and_true, Bool.or_false, Bool.false_or, decide_true, Nat.reduceLT, Bool.and_self]; done) | (simp [evOk, ovOk, nvOk, keepOf, vis, LV.under, LV.idp, LV.idps, LO.under, LO.idp]; done)))) | (apply DRun.afnS; (focus (exact rfl)); (focus (first | exact Goes.free | exact Goes.on rfl rfl (by with_reducible rfl) true (by decide))); (focus (simp only [go_sem, ↓reduceIte, Nat.reduceEqDiff]; exact rfl)); (focus (simp only [go_sem])); (focus (first | exact hv | exact hw | exact hw2 | exact hN | exact hN2 | exact hNs | exact hW | exact hW2 | exact hWs | exact hX | exact hX2 | exact hL | exact hk | exact hS | exact hS2)); (focus (first | rfl | simp [go_sem])); (focus (first | rfl | simp [go_sem])); (focus (exact rfl)); (focus (first | decide +kernel | (simp only [evOk, ovOk, nvOk, keepOf, vis, LV.under, LV.unders, LV.idp, LO.under, LO.idp, List.all_cons, List.all_nil, List.any_nil, Bool.and_true, Bool.false_or, Bool.and_self]; done) | (simp [evOk, ovOk, nvOk, keepOf, vis, LV.under, LV.unders, LV.idp, LO.under, LO.idp]; done)))) | fail); done)); (focus kernel_rfl); (focus (first | exact puOk_none rfl | (simp [puOk, evShape, nvShape, look, oF_len, go_sem, ↓reduceIte, Nat.reduceEqDiff, reduceCtorEq, Nat.reduceLT, Nat.reduceAdd, Int.reduceBEq, Int.reduceBNe, Int.reduceEq, Int.reduceLE, Int.reduceLT, Int.reduceToNat, Nat.reduceLeDiff, Nat.reduceMul, Nat.reduceSub, hab, hok, r1, r2, r3, r4, r5]; done))); (focus (first | (simp only [go_sem, Nat.reduceAdd, hab]; exact rfl) | exact rfl)); (focus (first | (simp only [go_sem, ↓reduceIte, Nat.reduceEqDiff, reduceCtorEq, Nat.reduceLT, Nat.reduceAdd, Int.reduceBEq, Int.reduceBNe, Int.reduceEq, Int.reduceLE, Int.reduceLT, Int.reduceToNat, Nat.reduceLeDiff, Nat.reduceMul, Nat.reduceSub, hab, hok, r1, r2, r3, r4, r5]; exact rfl) | exact rfl)); (focus (first | (simp only [go_sem, ↓reduceIte, Nat.reduceEqDiff, reduceCtorEq, Nat.reduceLT, Nat.reduceAdd, Int.reduceBEq, Int.reduceBNe, Int.reduceEq, Int.reduceLE, Int.reduceLT, Int.reduceToNat, Nat.reduceLeDiff, Nat.reduceMul, Nat.reduceSub, hab, hok, r1, r2, r3, r4, r5]; exact rfl) | exact rfl))) | (apply LOps.and2; exact rfl; exact rfl; exact rfl; exact rfl; exact rfl; (focus (with_reducible rfl)); (focus (first | kernel_rfl | rfl))) | refine Under.mk (fun hg => ?_) | fail)
  all_goals rfl
theorem req_nil : Fun Try.prog 13 [sI [], nil0] (vb true) := by
  refine Fun.argsLe ?_ (req_fun [] [] (by simp))
  repeat' first | exact LV.le_refl _ | exact le_nilF _ _ | exact LV.les_nil | refine LV.les_cons ?_ ?_
theorem walk_both {n h t : List Int} (hl : n.length ≤ 1100) (i : Int) : ∃ (p1 p2 : PV) (f : Int), Fun Try.prog 11 [cv n h t, vi i] (.tup [.pv p1, vi f]) ∧ Fun Try.prog 27 [cv n h t, vi i] (.tup [.pv p2, vi f]) ∧ Fun Try.prog 13 [.pv p1, .pv p2] (vb true) := by
  by_cases g : okC n h t
  · obtain ⟨b, Q, r⟩ := g
    have c : Ch n h t Q := ⟨b, r⟩
    by_cases gi : 0 ≤ i ∧ i < h.length
    · obtain ⟨k, rfl⟩ := Int.eq_ofNat_of_zero_le gi.1
      obtain ⟨q, hq⟩ := idx_all (show k < Q.length by rw [← r.lh]; omega)
      have hs := req_fun (castL q) (castL q) (by rw [castL_len]; have := (r.le hq).1; omega)
      rw [show decide (castL q = castL q) = true by simp] at hs
      exact ⟨_, _, _, walk_ok n h t Q k q b r hq, rWalk_yes c hq, hs⟩
    · refine ⟨_, _, _, walk_bad n h t i fun hh => gi hh.2, rWalk_out c i ?_, req_nil⟩
      have := r.lh
      simp only [Bool.and_eq_false_iff, decide_eq_false_iff_not]; omega
  · exact ⟨_, _, _, walk_bad n h t i fun hh => g hh.1, rWalk_no i g, req_nil⟩
theorem where_both {n h t : List Int} (x : Int) : ∃ (A g : Int), Fun Try.prog 15 [cv n h t, vi x] (.tup [vi A, vi g]) ∧ Fun Try.prog 28 [cv n h t, vi x] (.tup [vi A, vi g]) := by
  by_cases g : okC n h t
  · obtain ⟨b, Q, r⟩ := g
    have c : Ch n h t Q := ⟨b, r⟩
    by_cases gi : 0 ≤ x ∧ x < n.length
    · obtain ⟨k, rfl⟩ := Int.eq_ofNat_of_zero_le gi.1
      have hk : k < n.length := by omega
      by_cases hm : k ∈ Q.flatten
      · obtain ⟨j, p, hj⟩ := mem_at hm
        exact ⟨_, _, where_gen n h t k j (lastI p) c.ok hk (find_at b r hj), rWhere_yes c hk (rwhere_at c hj)⟩
      · exact ⟨_, _, where_gen n h t k (-1) (-1) c.ok hk (find_no b r hm), rWhere_yes c hk (rwhere_no c hm)⟩
    · refine ⟨_, _, where_bad n h t x fun hh => gi hh.2, rWhere_out c x ?_⟩
      simp only [Bool.and_eq_false_iff, decide_eq_false_iff_not]; omega
  · exact ⟨_, _, where_bad n h t x fun hh => g hh.1, rWhere_no x g⟩
theorem new_both (a b : Int) : ∃ (n h t : List Int) (e : Int), Fun Try.prog 25 [vi a, vi b] (.tup [cv n h t, vi e]) ∧ Fun Try.prog 26 [vi a, vi b] (.tup [cv n h t, vi e]) ∧ Fun Try.prog 24 [cv n h t, cv n h t] (vb true) := by
  have hs : ∀ n h t : List Int, n.length ≤ 100000 → h.length ≤ 100000 → t.length ≤ 100000 → Fun Try.prog 24 [cv n h t, cv n h t] (vb true) := fun n h t q1 q2 q3 => by
    have := rsame_fun n h t n h t q1 q2 q3
    rw [show (decide (n = n) && decide (h = h) && decide (t = t)) = true by simp] at this; exact this
  by_cases g : neB a b
  · obtain ⟨g1, g2, g3, g4⟩ := g
    obtain ⟨k, rfl⟩ := Int.eq_ofNat_of_zero_le g1
    obtain ⟨l, rfl⟩ := Int.eq_ofNat_of_zero_le (show 0 ≤ b by omega)
    exact ⟨_, _, _, _, new_yes k l (by omega) (by omega) (by omega), rnew_yes k l (by omega) (by omega) (by omega), hs _ _ _ (by simp; omega) (by simp; omega) (by simp; omega)⟩
  · exact ⟨_, _, _, _, new_no a b g, rnew_no a b g, hs _ _ _ (by simp) (by simp) (by simp)⟩
theorem lists_both (n h t : List Int) : ∃ (p : PV) (ok : Bool), Fun Try.prog 29 [cv n h t] (.tup [.pv p, vb ok]) ∧ ((chk n h t == 0) == ok) = true := by
  by_cases g : okC n h t
  · obtain ⟨b, Q, r⟩ := g
    exact ⟨_, _, rlists_yes (Q := Q) ⟨b, r⟩, by rw [chk_ok ⟨b, Q, r⟩]; rfl⟩
  · exact ⟨_, _, rlists_no g, by rw [chk_no g]; rfl⟩
theorem few_len {n h t : List Int} (g : fewC n h t = true) : n.length ≤ 1100 ∧ h.length ≤ 300 ∧ t.length ≤ 300 := by
  unfold fewC at g
  simp only [Bool.and_eq_true, Bool.or_eq_true, decide_eq_true_eq] at g
  omega
theorem tells_fun (a b : Int) (n h t n2 h2 t2 : List Int) (i x : Int) : Fun Try.prog 6 [vi a, vi b, cv n h t, cv n2 h2 t2, vi i, vi x] (vb true) := by
  cases q : fewC n h t with
  | false => exact tells_skip1 a b n h t n2 h2 t2 i x q
  | true =>
    cases q2 : fewC n2 h2 t2 with
    | false => exact tells_skip2 a b n h t n2 h2 t2 i x q q2
    | true =>
      by_cases hab : a > 300 ∧ a ≤ 1024
      · exact tells_skip3 a b n h t n2 h2 t2 i x q q2 hab.1 hab.2
      · obtain ⟨l1, l2, l3⟩ := few_len q
        obtain ⟨n1, h1, t1, e, hN, hN2, hNs⟩ := new_both a b
        obtain ⟨p1, p2, f, hW, hW2, hWs⟩ := walk_both (h := h) (t := t) l1 i
        obtain ⟨A, g, hX, hX2⟩ := where_both (n := n) (h := h) (t := t) x
        obtain ⟨p3, ok, hL, hok⟩ := lists_both n h t
        exact tells_go a b n h t n2 h2 t2 n1 h1 t1 i x e f g A p1 p2 p3 ok _ q q2 (by simp only [Bool.and_eq_false_iff, decide_eq_false_iff_not]; omega) hN hN2 hNs hW hW2 hWs hX hX2 hL hok
          (same_fun n h t n2 h2 t2 (by omega) (by omega) (by omega)) (rsame_fun n h t n2 h2 t2 (by omega) (by omega) (by omega))
end Go.Proofs.Ytlikcejcdnkncaa
