/- Chapter 06: ChainWhere. -/
import Derived.Test.YtlikcejcdnkncaaQ10
set_option linter.unusedSimpArgs false
set_option linter.unusedVariables false
namespace Go.Proofs.Ytlikcejcdnkncaa
open Go.Lw
attribute [local irreducible] LK LOps LW
theorem few_cases {n h t : List Int} (g : fewC n h t = true ∧ okC n h t) : n.length ≤ 200 ∧ h.length ≤ 256 ∧ t.length = h.length ∧ 1 ≤ h.length := by
  obtain ⟨g1, g2, _⟩ := g
  unfold fewC at g1
  simp only [Bool.and_eq_true, Bool.or_eq_true, decide_eq_true_eq] at g1
  unfold okB at g2
  omega
theorem few_or {n h t : List Int} (g : ¬ (fewC n h t = true ∧ okC n h t)) : (!fewC n h t || (chk n h t != 0)) = true := by
  cases hf : fewC n h t with
  | false => rfl
  | true =>
    have : ¬ okC n h t := fun h => g ⟨hf, h⟩
    rw [chk_no this]; rfl
set_option maxHeartbeats 4000000 in
set_option maxRecDepth 20000 in
theorem where_skip (n h t : List Int) (g : ¬ (fewC n h t = true ∧ okC n h t)) : Fun Try.prog 4 [cv n h t] (vb true) := by
  have hv := live_fun
  have hw := few_fun n h t
  have hk := check_fun n h t
  have hcc := few_or g
  (refine LCalls.enter Try.func4 rfl (by simp [Try.ntmps4]) (LK.start ?_); simp only [Try.ntmps4, enterA])
  (repeat' first | refine LOps.done ?_ | (apply LOps.mv; (focus (first | exact Goes.free | exact Goes.on rfl rfl (by with_reducible rfl) true (by decide))); (focus (exact rfl)); (focus (exact rfl))) | (apply LOps.asg; (focus (first | exact Goes.free | exact Goes.on rfl rfl (by with_reducible rfl) true (by decide))); (focus (exact rfl)); (focus (exact rfl))) | (apply LOps.loc; (focus (first | exact Goes.free | exact Goes.on rfl rfl (by with_reducible rfl) true (by decide))); (focus (exact rfl)); (focus (exact rfl)); (focus (simp only [go_sem, ↓reduceIte, Nat.reduceEqDiff, reduceCtorEq, Nat.reduceLT, Nat.reduceAdd]; with_reducible rfl))) | (apply LOps.pass; (focus (first | exact Goes.on rfl rfl (by with_reducible rfl) false (by decide) | exact Goes.undef rfl rfl (by with_reducible rfl))); (focus (exact rfl))) | (apply LOps.scEnd; (focus (exact rfl)); (focus (with_reducible rfl))) | refine LK.seq ?_ | refine LK.regc ?_ | (apply LOps.locFn; (focus (first | exact Goes.free | exact Goes.on rfl rfl (by with_reducible rfl) true (by decide))); (focus (exact rfl)); (focus (exact rfl)); (focus (simp only [go_sem, ↓reduceIte]; exact rfl)); (focus (simp only [go_sem])); (focus (first | exact hv | exact hw | exact hk)); (focus (first | rfl | simp [go_sem])); (focus (first | rfl | simp [go_sem]))) | (apply LOps.or2; exact rfl; exact rfl; exact rfl; exact rfl; exact rfl; (focus (with_reducible rfl)); (focus (first | kernel_rfl | rfl))) | refine Under.mk (fun hg => ?_) | fail)
  refine LK.condT2 rfl (by first | with_reducible rfl | rfl) (hcc) ?_
  (repeat' first | refine LOps.done ?_ | (apply LOps.mv; (focus (first | exact Goes.free | exact Goes.on rfl rfl (by with_reducible rfl) true (by decide))); (focus (exact rfl)); (focus (exact rfl))) | (apply LOps.asg; (focus (first | exact Goes.free | exact Goes.on rfl rfl (by with_reducible rfl) true (by decide))); (focus (exact rfl)); (focus (exact rfl))) | refine LK.seq ?_ | refine LK.ret' ?_ | refine LK.regc ?_ | (apply retQ; (focus (first | exact lres_one rfl | exact lres_more rfl | (simp only [lres, lresv, Try.results4, go_sem, ↓reduceIte, Nat.reduceEqDiff, reduceCtorEq, Nat.reduceLT, Nat.reduceAdd, Int.reduceBEq, Int.reduceBNe, Int.reduceEq, Int.reduceLE, Int.reduceLT, Int.reduceToNat, Nat.reduceLeDiff, Nat.reduceMul, Nat.reduceSub]; exact rfl)))) | fail)
  all_goals rfl
theorem Ch.fl_len {n h t : List Int} {Q : List (List Nat)} (c : Ch n h t Q) : Q.flatten.length ≤ n.length :=
  pigeon c.r.nodup fun x hx => by
    obtain ⟨i, q, hq, hm⟩ := mem_fl.1 hx
    exact (c.r.le hq).2 x hm
/-- How many of the first nodes are in some list. -/
def cnt (Q : List (List Nat)) (k : Nat) : Nat := ((List.range k).filter fun x => decide (x ∈ Q.flatten)).length
theorem cnt_zero (Q : List (List Nat)) : cnt Q 0 = 0 := rfl
theorem cnt_succ (Q : List (List Nat)) (k : Nat) : cnt Q (k + 1) = if k ∈ Q.flatten then cnt Q k + 1 else cnt Q k := by
  unfold cnt
  rw [List.range_succ, List.filter_append, List.length_append]
  by_cases h : k ∈ Q.flatten
  · rw [if_pos h, List.filter_cons, if_pos (by simpa using h)]; rfl
  · rw [if_neg h, List.filter_cons, if_neg (by simpa using h)]; rfl
theorem cnt_le (Q : List (List Nat)) (k : Nat) : cnt Q k ≤ k := by
  unfold cnt
  have := List.length_filter_le (fun x => decide (x ∈ Q.flatten)) (List.range k)
  rw [List.length_range] at this; exact this
theorem cnt_all {n h t : List Int} {Q : List (List Nat)} (c : Ch n h t Q) {k : Nat} (hk : n.length ≤ k) : cnt Q k = Q.flatten.length := by
  refine List.Perm.length_eq ((List.perm_ext_iff_of_nodup (List.Nodup.sublist List.filter_sublist List.nodup_range) c.r.nodup).2 fun x => ?_)
  simp only [List.mem_filter, List.mem_range, decide_eq_true_eq]
  refine ⟨fun h => h.2, fun h => ⟨?_, h⟩⟩
  obtain ⟨i, q, hq, hm⟩ := mem_fl.1 h
  have := (c.r.le hq).2 x hm
  omega
set_option maxHeartbeats 4000000 in
set_option maxRecDepth 20000 in
theorem where_main (n h t : List Int) (Q : List (List Nat)) (hf : fewC n h t = true) (c : Ch n h t Q) : Fun Try.prog 4 [cv n h t] (vb true) := by
  have hv := live_fun
  have hw := few_fun n h t
  have hk := check_fun n h t
  rw [chk_ok c.ok] at hk
  rw [hf] at hw
  (refine LCalls.enter Try.func4 rfl (by simp [Try.ntmps4]) (LK.start ?_); simp only [Try.ntmps4, enterA])
  have hbd := few_cases ⟨hf, c.ok⟩
  have hfl : Q.flatten.length ≤ n.length := c.fl_len
  (repeat' first | refine LOps.done ?_ | (apply LOps.mv; (focus (first | exact Goes.free | exact Goes.on rfl rfl (by with_reducible rfl) true (by decide))); (focus (exact rfl)); (focus (exact rfl))) | (apply LOps.asg; (focus (first | exact Goes.free | exact Goes.on rfl rfl (by with_reducible rfl) true (by decide))); (focus (exact rfl)); (focus (exact rfl))) | (apply LOps.loc; (focus (first | exact Goes.free | exact Goes.on rfl rfl (by with_reducible rfl) true (by decide))); (focus (exact rfl)); (focus (exact rfl)); (focus (simp only [go_sem, ↓reduceIte, Nat.reduceEqDiff, reduceCtorEq, Nat.reduceLT, Nat.reduceAdd, Int.reduceBNe]; with_reducible rfl))) | refine LK.seq ?_ | refine LK.skip ?_ | refine LK.block ?_ | (apply LK.condF2; (focus (exact rfl)); (focus (with_reducible rfl)); (focus (first | with_reducible rfl | decide | (with_reducible exact Bool.false_and _) | (with_reducible exact congrArg (fun b => b && _) (Bool.false_and _))))) | refine LK.regc ?_ | (apply LOps.locFn; (focus (first | exact Goes.free | exact Goes.on rfl rfl (by with_reducible rfl) true (by decide))); (focus (exact rfl)); (focus (exact rfl)); (focus (simp only [go_sem, ↓reduceIte]; exact rfl)); (focus (simp only [go_sem])); (focus (first | exact hv | exact hw | exact hk)); (focus (first | rfl | simp [go_sem])); (focus (first | rfl | simp [go_sem]))) | fail)
  refine LK.loop (fun i : Nat => h.length - i) (fun i => i ≤ h.length) (fun i => ⟨101, [(1, .ptr 0 1 0 0), (2, vb false), (3, vb true), (4, vi (Q.take i).flatten.length), (28, vi h.length), (29, vi i)]⟩) (fun _ => [(0, .arr 3 [[sI n, sI h, sI t]])]) 0 (Nat.zero_le _) (Sub.by rfl rfl (by first | rfl | (simp only [subB, MB_all_under, MI_all_under, MB_all_idp, MI_all_idp, oF_under, oF_idp, oF_all_under, oF_all_idp, MB_under, MI_under, MB_idp, MI_idp, evOk, ovOk, nvOk, keepOf, vis, LV.under, LV.unders, LV.idp, LV.idps, LO.under, LO.idp, under_pv, idp_pv, List.all_cons, List.all_nil, List.any_cons, List.any_nil, Nat.reduceBEq, beq_self_eq_true, Bool.and_true, Bool.true_and, Bool.or_true, Bool.true_or, Bool.or_false, Bool.false_or, decide_true, decide_false, Nat.reduceLT, Nat.reduceLeDiff, Nat.le_refl, Nat.reduceAdd, Bool.and_self, Bool.or_self]; done))) ?_
  rintro i hi J hJ
  rcases Nat.lt_or_ge i h.length with hlt | hge
  · obtain ⟨q, hq⟩ := idx_all (show i < Q.length by rw [← c.r.lh]; exact hlt)
    have h1 : ((i : Int) < (h.length : Int)) := by omega
    have hwk := walk_ok n h t Q i q c.b c.r hq
    obtain ⟨hql, hqn⟩ := c.r.le hq
    have htk : (Q.take (i + 1)).flatten.length = (Q.take i).flatten.length + q.length := by
      rw [List.take_add_one, hq]; simp
    have htl : (Q.take (i + 1)).flatten.length ≤ Q.flatten.length := by
      have e := List.take_append_drop (i + 1) Q
      have := congrArg (fun l => (List.flatten l).length) e
      simp only [List.flatten_append, List.length_append] at this
      omega
    have hw1 := wrapn (n := i) (by omega)
    have hw2 : IntKind.i64.wrap (((Q.take i).flatten.length : Int) + (q.length : Int)) = (((Q.take (i + 1)).flatten.length : Nat) : Int) := by
      rw [htk, IntKind.wrap_i64]; omega
    have hcl := castL_len q
    (repeat' first | refine LOps.done ?_ | (apply LOps.mv; (focus (first | exact Goes.free | exact Goes.on rfl rfl (by with_reducible rfl) true (by decide))); (focus (exact rfl)); (focus (exact rfl))) | (apply LOps.asg; (focus (first | exact Goes.free | exact Goes.on rfl rfl (by with_reducible rfl) true (by decide))); (focus (exact rfl)); (focus (exact rfl))) | (apply LOps.ext; (focus (first | exact Goes.free | exact Goes.on rfl rfl (by with_reducible rfl) true (by decide))); (focus (exact rfl)); (focus (exact rfl)); (focus (exact rfl))) | (apply LOps.loc; (focus (first | exact Goes.free | exact Goes.on rfl rfl (by with_reducible rfl) true (by decide))); (focus (exact rfl)); (focus (exact rfl)); (focus (simp only [go_sem, ↓reduceIte, Nat.reduceEqDiff, reduceCtorEq, Nat.reduceAdd, Int.reduceBNe, h1, hcl, hw2]; with_reducible rfl))) | refine LK.seq ?_ | refine LK.skip ?_ | refine LK.block ?_ | (apply LK.condT2; (focus (exact rfl)); (focus (with_reducible rfl)); (focus (first | with_reducible rfl | decide | (with_reducible exact Bool.true_or _) | (with_reducible exact congrArg (fun b => b || _) (Bool.true_or _))))) | (apply LK.condF2; (focus (exact rfl)); (focus (with_reducible rfl)); (focus (first | with_reducible rfl | decide | (with_reducible exact Bool.false_and _) | (with_reducible exact congrArg (fun b => b && _) (Bool.false_and _))))) | refine LK.regc ?_ | (apply LOps.locFn; (focus (first | exact Goes.free | exact Goes.on rfl rfl (by with_reducible rfl) true (by decide))); (focus (exact rfl)); (focus (exact rfl)); (focus (simp only [go_sem, ↓reduceIte, Nat.reduceEqDiff]; exact rfl)); (focus (simp only [go_sem])); (focus (exact hwk)); (focus (first | rfl | simp [go_sem])); (focus (first | rfl | simp [go_sem]))) | fail)
    refine LK.loop (fun k : Nat => q.length - k) (fun k => k ≤ q.length) (fun k => ⟨101, [(1, .ptr 0 1 0 0), (2, vb false), (3, vb true), (4, vi (Q.take (i + 1)).flatten.length), (5, vi i), (28, vi h.length), (29, vi i), (44, sI (castL q)), (45, vi q.length), (46, vi k)]⟩) (fun _ => [(0, .arr 3 [[sI n, sI h, sI t]])]) 0 (Nat.zero_le _) (Sub.by rfl rfl (by first | rfl | (simp only [subB, MB_all_under, MI_all_under, MB_all_idp, MI_all_idp, oF_under, oF_idp, oF_all_under, oF_all_idp, MB_under, MI_under, MB_idp, MI_idp, evOk, ovOk, nvOk, keepOf, vis, LV.under, LV.unders, LV.idp, LV.idps, LO.under, LO.idp, under_pv, idp_pv, List.all_cons, List.all_nil, List.any_cons, List.any_nil, Nat.reduceBEq, beq_self_eq_true, Bool.and_true, Bool.true_and, Bool.or_true, Bool.true_or, Bool.or_false, Bool.false_or, decide_true, decide_false, Nat.reduceLT, Nat.reduceLeDiff, Nat.le_refl, Nat.reduceAdd, Bool.and_self, Bool.or_self]; done))) ?_
    rintro k hk J2 hJ2
    rcases Nat.lt_or_ge k q.length with klt | kge
    · obtain ⟨x, hx⟩ := idx_all klt
      have h2 : ((k : Int) < (q.length : Int)) := by omega
      have hcx : (castL q)[k]? = some (x : Int) := by rw [castL, List.getElem?_map, hx]; rfl
      have hxl := hqn x (List.mem_of_getElem? hx)
      obtain ⟨p, s, hps⟩ := List.append_of_mem (List.mem_of_getElem? hx)
      have hwh := where_gen n h t x i (lastI p) c.ok hxl (find_at c.b c.r ⟨s, by rw [hq, hps]⟩)
      have hw3 := wrapn (n := k) (by omega)
      have h5 : ((i : Int) != (i : Int)) = false := by simp
      (repeat' first | refine LOps.done ?_ | (apply LOps.mv; (focus (first | exact Goes.free | exact Goes.on rfl rfl (by with_reducible rfl) true (by decide))); (focus (exact rfl)); (focus (exact rfl))) | (apply LOps.asg; (focus (first | exact Goes.free | exact Goes.on rfl rfl (by with_reducible rfl) true (by decide))); (focus (exact rfl)); (focus (exact rfl))) | (apply LOps.ext; (focus (first | exact Goes.free | exact Goes.on rfl rfl (by with_reducible rfl) true (by decide))); (focus (exact rfl)); (focus (exact rfl)); (focus (exact rfl))) | (apply LOps.loc; (focus (first | exact Goes.free | exact Goes.on rfl rfl (by with_reducible rfl) true (by decide))); (focus (exact rfl)); (focus (exact rfl)); (focus (simp only [go_sem, ↓reduceIte, Nat.reduceEqDiff, reduceCtorEq, Nat.reduceLT, Nat.reduceAdd, Int.reduceBNe, h2, hcx, hcl, hw3, h5]; with_reducible rfl))) | refine LK.seq ?_ | refine LK.skip ?_ | refine LK.block ?_ | refine LK.blk ?_ | refine LK.fin ?_ | (apply LK.condT2; (focus (exact rfl)); (focus (with_reducible rfl)); (focus (first | with_reducible rfl | decide | (with_reducible exact Bool.true_or _) | (with_reducible exact congrArg (fun b => b || _) (Bool.true_or _))))) | (apply LK.condF2; (focus (exact rfl)); (focus (with_reducible rfl)); (focus (first | with_reducible rfl | decide | (with_reducible exact Bool.false_and _) | (with_reducible exact congrArg (fun b => b && _) (Bool.false_and _))))) | refine LK.regc ?_ | (apply LOps.locFn; (focus (first | exact Goes.free | exact Goes.on rfl rfl (by with_reducible rfl) true (by decide))); (focus (exact rfl)); (focus (exact rfl)); (focus (simp only [go_sem, ↓reduceIte, Nat.reduceEqDiff]; exact rfl)); (focus (simp only [go_sem])); (focus (exact hwh)); (focus (first | rfl | simp [go_sem])); (focus (first | rfl | simp [go_sem]))) | fail)
      apply hJ2
      exact ⟨k + 1, klt, by omega, (Sub.by rfl rfl (by first | rfl | (simp only [subB, MB_all_under, MI_all_under, MB_all_idp, MI_all_idp, oF_under, oF_idp, oF_all_under, oF_all_idp, MB_under, MI_under, MB_idp, MI_idp, evOk, ovOk, nvOk, keepOf, vis, LV.under, LV.unders, LV.idp, LV.idps, LO.under, LO.idp, under_pv, idp_pv, List.all_cons, List.all_nil, List.any_cons, List.any_nil, Nat.reduceBEq, beq_self_eq_true, Bool.and_true, Bool.true_and, Bool.or_true, Bool.true_or, Bool.or_false, Bool.false_or, decide_true, decide_false, Nat.reduceLT, Nat.reduceLeDiff, Nat.le_refl, Nat.reduceAdd, Bool.and_self, Bool.or_self]; done)))⟩
    · have h2 : ¬ ((k : Int) < (q.length : Int)) := by omega
      (repeat' first | refine LOps.done ?_ | (apply LOps.mv; (focus (first | exact Goes.free | exact Goes.on rfl rfl (by with_reducible rfl) true (by decide))); (focus (exact rfl)); (focus (exact rfl))) | (apply LOps.loc; (focus (first | exact Goes.free | exact Goes.on rfl rfl (by with_reducible rfl) true (by decide))); (focus (exact rfl)); (focus (exact rfl)); (focus (simp only [go_sem, ↓reduceIte, Nat.reduceEqDiff, h2, hw1]; with_reducible rfl))) | refine LK.seq ?_ | refine LK.blk ?_ | refine LK.fin ?_ | refine LK.exit' rfl ?_ | (apply LK.condF2; (focus (exact rfl)); (focus (with_reducible rfl)); (focus (first | with_reducible rfl | decide | (with_reducible exact Bool.false_and _) | (with_reducible exact congrArg (fun b => b && _) (Bool.false_and _))))) | refine LK.regc ?_ | fail)
      apply hJ
      exact ⟨i + 1, hlt, by omega, (Sub.by rfl rfl (by first | rfl | (simp only [subB, MB_all_under, MI_all_under, MB_all_idp, MI_all_idp, oF_under, oF_idp, oF_all_under, oF_all_idp, MB_under, MI_under, MB_idp, MI_idp, evOk, ovOk, nvOk, keepOf, vis, LV.under, LV.unders, LV.idp, LV.idps, LO.under, LO.idp, under_pv, idp_pv, List.all_cons, List.all_nil, List.any_cons, List.any_nil, Nat.reduceBEq, beq_self_eq_true, Bool.and_true, Bool.true_and, Bool.or_true, Bool.true_or, Bool.or_false, Bool.false_or, decide_true, decide_false, Nat.reduceLT, Nat.reduceLeDiff, Nat.le_refl, Nat.reduceAdd, Bool.and_self, Bool.or_self]; done)))⟩
  · have h1 : ¬ ((i : Int) < (h.length : Int)) := by omega
    have hT : Q.take i = Q := List.take_of_length_le (by rw [← c.r.lh]; exact hge)
    rw [hT]
    (repeat' first | refine LOps.done ?_ | (apply LOps.loc; (focus (first | exact Goes.free | exact Goes.on rfl rfl (by with_reducible rfl) true (by decide))); (focus (exact rfl)); (focus (exact rfl)); (focus (simp only [go_sem, ↓reduceIte, Nat.reduceEqDiff, Nat.reduceLT, h1]; with_reducible rfl))) | refine LK.seq ?_ | refine LK.block ?_ | refine LK.exit' rfl ?_ | (apply LK.condF2; (focus (exact rfl)); (focus (with_reducible rfl)); (focus (first | with_reducible rfl | decide | (with_reducible exact Bool.false_and _) | (with_reducible exact congrArg (fun b => b && _) (Bool.false_and _))))) | refine LK.regc ?_ | fail)
    refine LK.loop (fun k : Nat => n.length - k) (fun k => k ≤ n.length) (fun k => ⟨101, [(1, .ptr 0 1 0 0), (2, vb false), (3, vb true), (4, vi Q.flatten.length), (12, vi (cnt Q k)), (67, vi n.length), (68, vi k)]⟩) (fun _ => [(0, .arr 3 [[sI n, sI h, sI t]])]) 0 (Nat.zero_le _) (Sub.by rfl rfl (by first | rfl | (simp only [subB, MB_all_under, MI_all_under, MB_all_idp, MI_all_idp, oF_under, oF_idp, oF_all_under, oF_all_idp, MB_under, MI_under, MB_idp, MI_idp, evOk, ovOk, nvOk, keepOf, vis, LV.under, LV.unders, LV.idp, LV.idps, LO.under, LO.idp, under_pv, idp_pv, List.all_cons, List.all_nil, List.any_cons, List.any_nil, Nat.reduceBEq, beq_self_eq_true, Bool.and_true, Bool.true_and, Bool.or_true, Bool.true_or, Bool.or_false, Bool.false_or, decide_true, decide_false, Nat.reduceLT, Nat.reduceLeDiff, Nat.le_refl, Nat.reduceAdd, Bool.and_self, Bool.or_self]; done))) ?_
    rintro k hk J hJ
    rcases Nat.lt_or_ge k n.length with klt | kge
    · obtain ⟨y, hy⟩ := idx_all klt
      have h2 : ((k : Int) < (n.length : Int)) := by omega
      have hw3 := wrapn (n := k) (by omega)
      have hcs := cnt_succ Q k
      have hce := cnt_le Q k
      have hw4 : IntKind.i64.wrap ((cnt Q k : Int) + 1) = ((cnt Q k + 1 : Nat) : Int) := wrapn (by omega)
      by_cases hm : k ∈ Q.flatten
      · obtain ⟨j, p, hj⟩ := mem_at hm
        have hwh := where_gen n h t k j (lastI p) c.ok klt (find_at c.b c.r hj)
        have h5 : ((j : Int) == -1) = false := by rw [beq_eq_false_iff_ne]; omega
        have h6 : (y == -2) = false := by have := ne_out c.r hm hy; simpa using this
        have h7 : ((j : Int) != -1) = true := by simp only [bne, h5]; rfl
        rw [if_pos hm] at hcs
        (repeat' first | refine LOps.done ?_ | (apply LOps.mv; (focus (first | exact Goes.free | exact Goes.on rfl rfl (by with_reducible rfl) true (by decide))); (focus (exact rfl)); (focus (exact rfl))) | (apply LOps.asg; (focus (first | exact Goes.free | exact Goes.on rfl rfl (by with_reducible rfl) true (by decide))); (focus (exact rfl)); (focus (exact rfl))) | (apply LOps.ext; (focus (first | exact Goes.free | exact Goes.on rfl rfl (by with_reducible rfl) true (by decide))); (focus (exact rfl)); (focus (exact rfl)); (focus (exact rfl))) | (apply LOps.loc; (focus (first | exact Goes.free | exact Goes.on rfl rfl (by with_reducible rfl) true (by decide))); (focus (exact rfl)); (focus (exact rfl)); (focus (simp only [go_sem, ↓reduceIte, Nat.reduceEqDiff, reduceCtorEq, Nat.reduceLT, Nat.reduceAdd, Int.reduceBNe, h2, hy, hw3, hw4, h5, h6, h7]; with_reducible rfl))) | refine LK.seq ?_ | refine LK.skip ?_ | refine LK.block ?_ | refine LK.blk ?_ | refine LK.fin ?_ | (apply LK.condT2; (focus (exact rfl)); (focus (with_reducible rfl)); (focus (first | with_reducible rfl | decide | (with_reducible exact Bool.true_or _) | (with_reducible exact congrArg (fun b => b || _) (Bool.true_or _))))) | (apply LK.condF2; (focus (exact rfl)); (focus (with_reducible rfl)); (focus (first | with_reducible rfl | decide | (with_reducible exact Bool.false_and _) | (with_reducible exact congrArg (fun b => b && _) (Bool.false_and _))))) | refine LK.regc ?_ | (apply LOps.locFn; (focus (first | exact Goes.free | exact Goes.on rfl rfl (by with_reducible rfl) true (by decide))); (focus (exact rfl)); (focus (exact rfl)); (focus (simp only [go_sem, ↓reduceIte, Nat.reduceEqDiff]; exact rfl)); (focus (simp only [go_sem])); (focus (exact hwh)); (focus (first | rfl | simp [go_sem])); (focus (first | rfl | simp [go_sem]))) | fail)
        apply hJ
        refine ⟨k + 1, klt, by omega, ?_⟩
        simp only [hcs]
        exact (Sub.by rfl rfl (by first | rfl | (simp only [subB, MB_all_under, MI_all_under, MB_all_idp, MI_all_idp, oF_under, oF_idp, oF_all_under, oF_all_idp, MB_under, MI_under, MB_idp, MI_idp, evOk, ovOk, nvOk, keepOf, vis, LV.under, LV.unders, LV.idp, LV.idps, LO.under, LO.idp, under_pv, idp_pv, List.all_cons, List.all_nil, List.any_cons, List.any_nil, Nat.reduceBEq, beq_self_eq_true, Bool.and_true, Bool.true_and, Bool.or_true, Bool.true_or, Bool.or_false, Bool.false_or, decide_true, decide_false, Nat.reduceLT, Nat.reduceLeDiff, Nat.le_refl, Nat.reduceAdd, Bool.and_self, Bool.or_self]; done)))
      · obtain rfl := c.r.out k y hy hm
        have hwh := where_gen n h t k (-1) (-1) c.ok klt (find_no c.b c.r hm)
        rw [if_neg hm] at hcs
        (repeat' first | refine LOps.done ?_ | (apply LOps.mv; (focus (first | exact Goes.free | exact Goes.on rfl rfl (by with_reducible rfl) true (by decide))); (focus (exact rfl)); (focus (exact rfl))) | (apply LOps.asg; (focus (first | exact Goes.free | exact Goes.on rfl rfl (by with_reducible rfl) true (by decide))); (focus (exact rfl)); (focus (exact rfl))) | (apply LOps.ext; (focus (first | exact Goes.free | exact Goes.on rfl rfl (by with_reducible rfl) true (by decide))); (focus (exact rfl)); (focus (exact rfl)); (focus (exact rfl))) | (apply LOps.loc; (focus (first | exact Goes.free | exact Goes.on rfl rfl (by with_reducible rfl) true (by decide))); (focus (exact rfl)); (focus (exact rfl)); (focus (simp only [go_sem, ↓reduceIte, Nat.reduceEqDiff, reduceCtorEq, Nat.reduceLT, Nat.reduceAdd, Int.reduceBNe, h2, hy, hw3]; with_reducible rfl))) | refine LK.seq ?_ | refine LK.skip ?_ | refine LK.block ?_ | refine LK.blk ?_ | refine LK.fin ?_ | (apply LK.condT2; (focus (exact rfl)); (focus (with_reducible rfl)); (focus (first | with_reducible rfl | decide | (with_reducible exact Bool.true_or _) | (with_reducible exact congrArg (fun b => b || _) (Bool.true_or _))))) | (apply LK.condF2; (focus (exact rfl)); (focus (with_reducible rfl)); (focus (first | with_reducible rfl | decide | (with_reducible exact Bool.false_and _) | (with_reducible exact congrArg (fun b => b && _) (Bool.false_and _))))) | refine LK.regc ?_ | (apply LOps.locFn; (focus (first | exact Goes.free | exact Goes.on rfl rfl (by with_reducible rfl) true (by decide))); (focus (exact rfl)); (focus (exact rfl)); (focus (simp only [go_sem, ↓reduceIte, Nat.reduceEqDiff]; exact rfl)); (focus (simp only [go_sem])); (focus (exact hwh)); (focus (first | rfl | simp [go_sem])); (focus (first | rfl | simp [go_sem]))) | fail)
        apply hJ
        refine ⟨k + 1, klt, by omega, ?_⟩
        simp only [hcs]
        exact (Sub.by rfl rfl (by first | rfl | (simp only [subB, MB_all_under, MI_all_under, MB_all_idp, MI_all_idp, oF_under, oF_idp, oF_all_under, oF_all_idp, MB_under, MI_under, MB_idp, MI_idp, evOk, ovOk, nvOk, keepOf, vis, LV.under, LV.unders, LV.idp, LV.idps, LO.under, LO.idp, under_pv, idp_pv, List.all_cons, List.all_nil, List.any_cons, List.any_nil, Nat.reduceBEq, beq_self_eq_true, Bool.and_true, Bool.true_and, Bool.or_true, Bool.true_or, Bool.or_false, Bool.false_or, decide_true, decide_false, Nat.reduceLT, Nat.reduceLeDiff, Nat.le_refl, Nat.reduceAdd, Bool.and_self, Bool.or_self]; done)))
    · have h2 : ¬ ((k : Int) < (n.length : Int)) := by omega
      have hfin : cnt Q k = Q.flatten.length := cnt_all c (by omega)
      have h3 : ((Q.flatten.length : Int) == (Q.flatten.length : Int)) = true := by simp
      rw [hfin]
      (repeat' first | refine LOps.done ?_ | (apply LOps.mv; (focus (first | exact Goes.free | exact Goes.on rfl rfl (by with_reducible rfl) true (by decide))); (focus (exact rfl)); (focus (exact rfl))) | (apply LOps.asg; (focus (first | exact Goes.free | exact Goes.on rfl rfl (by with_reducible rfl) true (by decide))); (focus (exact rfl)); (focus (exact rfl))) | (apply LOps.loc; (focus (first | exact Goes.free | exact Goes.on rfl rfl (by with_reducible rfl) true (by decide))); (focus (exact rfl)); (focus (exact rfl)); (focus (simp only [go_sem, ↓reduceIte, Nat.reduceEqDiff, h2, h3]; with_reducible rfl))) | refine LK.seq ?_ | refine LK.ret' ?_ | refine LK.exit' rfl ?_ | (apply LK.condF2; (focus (exact rfl)); (focus (with_reducible rfl)); (focus (first | with_reducible rfl | decide | (with_reducible exact Bool.false_and _) | (with_reducible exact congrArg (fun b => b && _) (Bool.false_and _))))) | refine LK.regc ?_ | (apply retQ; (focus (first | exact lres_one rfl | exact lres_more rfl | (simp only [lres, lresv, Try.results4, go_sem, ↓reduceIte, Nat.reduceEqDiff, reduceCtorEq, Nat.reduceLT, Nat.reduceAdd, Int.reduceBEq, Int.reduceBNe, Int.reduceEq, Int.reduceLE, Int.reduceLT, Int.reduceToNat, Nat.reduceLeDiff, Nat.reduceMul, Nat.reduceSub, h2, h3]; exact rfl)))) | fail)
      all_goals rfl
theorem where_fun (n h t : List Int) : Fun Try.prog 4 [cv n h t] (vb true) := by
  by_cases g : fewC n h t = true ∧ okC n h t
  · obtain ⟨g1, b, Q, r⟩ := g
    exact where_main n h t Q g1 ⟨b, r⟩
  · exact where_skip n h t g
end Go.Proofs.Ytlikcejcdnkncaa
