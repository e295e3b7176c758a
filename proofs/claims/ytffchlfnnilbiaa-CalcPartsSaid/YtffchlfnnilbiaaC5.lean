/- Chapter 02: the document's numbers: Add. -/
import Derived.Test.YtffchlfnnilbiaaC4
set_option linter.unusedSimpArgs false
set_option linter.unusedVariables false
namespace Go.Proofs.Ytffchlfnnilbiaa
open Go.Lw
attribute [local irreducible] LK LOps LW
def sm (a b : Nat → Int) : Nat → Int := fun j => a j + b j
def ov (a b : Int) (k : Nat) : Int := pre (sm (dg a) (dg b)) k / 65536 ^ k
theorem ov_zero (a b : Int) : ov a b 0 = 0 := by simp [ov, pre]
theorem sm_bd (a b : Int) (j : Nat) : 0 ≤ sm (dg a) (dg b) j ∧ sm (dg a) (dg b) j ≤ 34359738368 := by
  have h1 := dg_bd a j
  have h2 := dg_bd b j
  unfold sm; omega
theorem sum_facts {A B : Int} (a0 : 0 ≤ A) (a1 : A < 65536 ^ 16) (b0 : 0 ≤ B) (b1 : B < 65536 ^ 16) {k : Nat} (hk : k < 16) :
    IntKind.u64.wrap (dg A k + dg B k) = dg A k + dg B k ∧ IntKind.u64.wrap (ov A B k + (dg A k + dg B k)) = ov A B k + (dg A k + dg B k) ∧ (ov A B k + (dg A k + dg B k)).tmod 65536 = dg (A + B) k ∧ IntKind.u64.wrap ((ov A B k + (dg A k + dg B k)).tdiv 65536) = ov A B (k + 1) := by
  have hS : pre (sm (dg A) (dg B)) 16 = A + B := by
    unfold sm; rw [pre_add, pre_dg_all a0 a1, pre_dg_all b0 b1]
  obtain ⟨f1, f2, f3⟩ := carry_facts hS (sm_bd A B) hk
  have h1 := dg_bd A k
  have h2 := dg_bd B k
  exact ⟨by rw [IntKind.wrap_u64]; omega, f1, f2, f3⟩
def un (a b : Int) (k : Nat) : Int := -(pre (fun j => dg a j - dg b j) k / 65536 ^ k)
theorem un_zero (a b : Int) : un a b 0 = 0 := by simp [un, pre]
theorem un_step (a b : Int) (k : Nat) : un a b (k + 1) = -((dg a k - dg b k - un a b k) / 65536) := by
  have := carry_next (fun j => dg a j - dg b j) k
  unfold un
  rw [← this]
  congr 2; omega
theorem un_bd (a b : Int) : ∀ k, 0 ≤ un a b k ∧ un a b k ≤ 1
  | 0 => by rw [un_zero]; omega
  | k + 1 => by
    have := un_bd a b k
    have h1 := dg_bd a k
    have h2 := dg_bd b k
    rw [un_step]; omega
theorem diff_facts {P Q : Int} (p0 : 0 ≤ P) (p1 : P < 65536 ^ 16) (q0 : 0 ≤ Q) (q1 : Q < 65536 ^ 16) {k : Nat} (hk : k < 16) :
    IntKind.u64.wrap (65536 + dg P k) = 65536 + dg P k ∧ IntKind.u64.wrap (65536 + dg P k - dg Q k) = 65536 + dg P k - dg Q k ∧ IntKind.u64.wrap (65536 + dg P k - dg Q k - un P Q k) = 65536 + dg P k - dg Q k - un P Q k
      ∧ (65536 + dg P k - dg Q k - un P Q k).tmod 65536 = dg (P - Q) k ∧ IntKind.u64.wrap ((65536 + dg P k - dg Q k - un P Q k).tdiv 65536) = 1 - un P Q (k + 1) ∧ IntKind.u64.wrap (1 - (1 - un P Q (k + 1))) = un P Q (k + 1) := by
  have hS : pre (fun j => dg P j - dg Q j) 16 = P - Q := by
    rw [pre_sub, pre_dg_all p0 p1, pre_dg_all q0 q1]
  have h3 := carry_dg (fun j => dg P j - dg Q j) k 16 hk
  rw [hS] at h3
  have e3 : pre (fun j => dg P j - dg Q j) k / 65536 ^ k + (dg P k - dg Q k) = dg P k - dg Q k - un P Q k := by unfold un; omega
  have h3' : (dg P k - dg Q k - un P Q k) % 65536 = dg (P - Q) k := by rw [← e3]; exact h3
  have h4 := un_step P Q k
  have h1 := dg_bd P k
  have h2 := dg_bd Q k
  have h5 := un_bd P Q k
  have h6 := un_bd P Q (k + 1)
  refine ⟨by rw [IntKind.wrap_u64]; omega, by rw [IntKind.wrap_u64]; omega, by rw [IntKind.wrap_u64]; omega, ?_, ?_, by rw [IntKind.wrap_u64]; omega⟩
  · rw [Int.tmod_eq_emod_of_nonneg (by omega)]; omega
  · rw [Int.tdiv_eq_ediv_of_nonneg (by omega), IntKind.wrap_u64]; omega
set_option maxHeartbeats 4000000 in
set_option maxRecDepth 20000 in
theorem add_same (m : Bool) (A B : Int) (a0 : 0 ≤ A) (a1 : A < 65536 ^ 16) (b0 : 0 ≤ B) (b1 : B < 65536 ^ 16) (s1 : A + B < 65536 ^ 16) : Fun Try.prog 27 [bg m (dg A), bg m (dg B)] (bg m (dg (A + B))) := by
  have hl := Lf_all_leaf (dg A)
  have hl2 := Lf_all_leaf (dg B)
  have hl3 := Lf_all_leaf (dg (A + B))
  simp only [go_sem] at hl hl2 hl3
  have hn := Lf_mlen (dg A)
  have hn2 := Lf_mlen (dg B)
  have hn3 := Lf_mlen (dg (A + B))
  have ht3 := Lf_take (dg (A + B))
  have hm : (m == m) = true := by cases m <;> rfl
  have hm1 : (!true) = false := rfl
  have e0 := bc_mix0 m (A + B) (dg A)
  have z0 := ov_zero A B
  (refine LCalls.enter Try.func27 rfl (by simp [Try.ntmps27]) (LK.start ?_); simp only [Try.ntmps27, enterA, Nat.zero_add])
  (repeat' first | refine LOps.done ?_ | (apply LOps.loc; (focus (first | exact Goes.free | exact Goes.on rfl rfl (by with_reducible rfl) true (by decide))); (focus (exact rfl)); (focus (exact rfl)); (focus (simp only [go_sem, ↓reduceIte, Nat.reduceEqDiff, reduceCtorEq, Nat.reduceLT, Nat.reduceAdd, hl, hl2, hn, hn2, hm, hm1]; with_reducible rfl))) | refine LK.seq ?_ | refine LK.skip ?_ | refine LK.block ?_ | (apply LK.condF2; (focus (exact rfl)); (focus (with_reducible rfl)); (focus (first | with_reducible rfl | decide | (with_reducible exact Bool.false_and _) | (with_reducible exact congrArg (fun b => b && _) (Bool.false_and _))))) | refine LK.regc ?_ | fail)
  refine LK.loop (fun k : Nat => 16 - k) (fun k => k ≤ 16) (fun k => ⟨74, [(2, .ptr 0 1 0 0), (3, .ptr 1 1 0 0), (4, .ptr 2 1 0 0), (8, vu (ov A B k)), (51, vi k)]⟩) (fun k => [(0, .arr 17 [bc m (mix (A + B) (dg A) k)]), (1, .arr 17 [bc m (dg B)]), (2, .arr 17 [z17])]) 0 (by omega) (Sub.by rfl rfl (by first | rfl | (simp only [subB, MB_all_under, MI_all_under, MB_all_idp, MI_all_idp, oF_under, oF_idp, oF_all_under, oF_all_idp, MB_under, MI_under, MB_idp, MI_idp, evOk, ovOk, nvOk, keepOf, vis, LV.under, LV.unders, LV.idp, LV.idps, LO.under, LO.idp, under_pv, idp_pv, List.all_cons, List.all_nil, List.any_cons, List.any_nil, Nat.reduceBEq, beq_self_eq_true, Bool.and_true, Bool.true_and, Bool.or_true, Bool.true_or, Bool.or_false, Bool.false_or, decide_true, decide_false, Nat.reduceLT, Nat.reduceLeDiff, Nat.le_refl, Nat.reduceAdd, Bool.and_self, Bool.or_self, e0, z0]; done))) ?_
  rintro k hk J3 hJ3
  rcases Nat.lt_or_ge k 16 with klt | kge
  · have q1 : ((k : Int) < 16) := by omega
    obtain ⟨f0, f1, f2, f3⟩ := sum_facts a0 a1 b0 b1 klt
    have c1 := bc_get m (mix (A + B) (dg A) k) klt
    rw [mix_at] at c1
    have c2 := bc_get m (dg B) klt
    have c4 := bc_mix m (A + B) (dg A) klt
    have c5 := Lf_le (mix (A + B) (dg A) k) klt
    have w2 : IntKind.i64.wrap ((k : Int) + 1) = ((k + 1 : Nat) : Int) := by rw [IntKind.wrap_i64]; omega
    (repeat' first | refine LOps.done ?_ | (apply LOps.mv; (focus (first | exact Goes.free | exact Goes.on rfl rfl (by with_reducible rfl) true (by decide))); (focus (exact rfl)); (focus (exact rfl))) | (apply LOps.asg; (focus (first | exact Goes.free | exact Goes.on rfl rfl (by with_reducible rfl) true (by decide))); (focus (exact rfl)); (focus (exact rfl))) | (apply LOps.loc; (focus (first | exact Goes.free | exact Goes.on rfl rfl (by with_reducible rfl) true (by decide))); (focus (exact rfl)); (focus (exact rfl)); (focus (simp only [go_sem, ↓reduceIte, Nat.reduceEqDiff, Nat.reduceLT, Int.reduceEq, q1, f2, f3, w2, n16]; with_reducible rfl))) | (apply LOps.loc0; (focus (first | exact Goes.free | exact Goes.on rfl rfl (by with_reducible rfl) true (by decide))); (focus (exact rfl)); (focus (simp only [go_sem, ↓reduceIte, Nat.reduceEqDiff, Nat.reduceLT, Nat.reduceLeDiff, c4, c5]; with_reducible rfl))) | refine LK.seq ?_ | refine LK.skip ?_ | refine LK.block ?_ | refine LK.blk ?_ | refine LK.fin ?_ | (apply LK.condT2; (focus (exact rfl)); (focus (with_reducible rfl)); (focus (first | with_reducible rfl | decide | (with_reducible exact Bool.true_or _) | (with_reducible exact congrArg (fun b => b || _) (Bool.true_or _))))) | refine LK.regc ?_ | (apply LK.drawn3; (focus (exact Ty.mixed)); (focus ((repeat' first | exact DRun.nil _ _ _ | (apply DRun.aopS; (focus (exact rfl)); (focus (first | exact rfl | (simp only [oF_idss, oF_ids, idss_MB, idss_MI, objsOf, idsOf, LV.ids, LV.idss, LO.ids, idss_pv, lookB_eq, List.any_nil, List.any_cons, cond_true, cond_false, List.flatten_cons, List.flatten_nil, Nat.reduceBEq, Bool.or_false, Bool.false_or, Bool.or_true, go_sem, ↓reduceIte, Nat.reduceEqDiff, reduceCtorEq, Nat.reduceLT, Nat.reduceAdd, Int.reduceBEq, Int.reduceBNe, Int.reduceEq, Int.reduceLE, Int.reduceLT, Int.reduceToNat, Nat.reduceLeDiff, Nat.reduceMul, Nat.reduceSub, q1, f0, f1, f2, f3, c1, c2, c4, c5, w2, n16]; exact rfl))); (focus (first | exact Goes.free | exact Goes.on rfl rfl (by with_reducible rfl) true (by decide))); (focus (simp only [go_sem, ↓reduceIte, Nat.reduceEqDiff, Nat.reduceLT, q1, f0, f1, c1, c2, n16]; exact rfl)); (focus (exact rfl)); (focus (first | decide +kernel | (simp only [evOk, ovOk, nvOk, keepOf, vis, LV.under, LV.idp, LO.under, LO.idp, List.all_cons, List.all_nil, List.any_cons, List.any_nil, beq_self_eq_true, Bool.and_true, Bool.true_and, Bool.or_false, Bool.false_or, decide_true, decide_false, Nat.reduceLT, Nat.reduceLeDiff, Bool.and_self]; done) | (simp [evOk, ovOk, nvOk, keepOf, vis, LV.under, LV.idp, LO.under, LO.idp]; done) | exact rfl))) | fail); done)); (focus kernel_rfl); (focus (first | exact puOk_none rfl | (simp [puOk, evShape, nvShape, look, oF_len, go_sem, ↓reduceIte, Nat.reduceEqDiff, reduceCtorEq, Nat.reduceLT, Nat.reduceAdd, Int.reduceBEq, Int.reduceBNe, Int.reduceEq, Int.reduceLE, Int.reduceLT, Int.reduceToNat, Nat.reduceLeDiff, Nat.reduceMul, Nat.reduceSub, q1, f0, f1, f2, f3, c1, c2, c4, c5, w2, n16]; done))); (focus (first | (simp only [go_sem, ↓reduceIte, Nat.reduceEqDiff, reduceCtorEq, Nat.reduceLT, Nat.reduceAdd, Int.reduceBEq, Int.reduceBNe, Int.reduceEq, Int.reduceLE, Int.reduceLT, Int.reduceToNat, Nat.reduceLeDiff, Nat.reduceMul, Nat.reduceSub, q1, f0, f1, f2, f3, c1, c2, c4, c5, w2, n16]; exact rfl) | exact rfl)); (focus (first | (simp only [go_sem, ↓reduceIte, Nat.reduceEqDiff, reduceCtorEq, Nat.reduceLT, Nat.reduceAdd, Int.reduceBEq, Int.reduceBNe, Int.reduceEq, Int.reduceLE, Int.reduceLT, Int.reduceToNat, Nat.reduceLeDiff, Nat.reduceMul, Nat.reduceSub, q1, f0, f1, f2, f3, c1, c2, c4, c5, w2, n16]; exact rfl) | exact rfl)); (focus (first | (simp only [go_sem, ↓reduceIte, Nat.reduceEqDiff, reduceCtorEq, Nat.reduceLT, Nat.reduceAdd, Int.reduceBEq, Int.reduceBNe, Int.reduceEq, Int.reduceLE, Int.reduceLT, Int.reduceToNat, Nat.reduceLeDiff, Nat.reduceMul, Nat.reduceSub, q1, f0, f1, f2, f3, c1, c2, c4, c5, w2, n16]; exact rfl) | exact rfl))) | fail)
    apply hJ3
    exact ⟨k + 1, by omega, by omega, (Sub.by rfl rfl (by first | rfl | (simp only [subB, MB_all_under, MI_all_under, MB_all_idp, MI_all_idp, oF_under, oF_idp, oF_all_under, oF_all_idp, MB_under, MI_under, MB_idp, MI_idp, evOk, ovOk, nvOk, keepOf, vis, LV.under, LV.unders, LV.idp, LV.idps, LO.under, LO.idp, under_pv, idp_pv, List.all_cons, List.all_nil, List.any_cons, List.any_nil, Nat.reduceBEq, beq_self_eq_true, Bool.and_true, Bool.true_and, Bool.or_true, Bool.true_or, Bool.or_false, Bool.false_or, decide_true, decide_false, Nat.reduceLT, Nat.reduceLeDiff, Nat.le_refl, Nat.reduceAdd, Bool.and_self, Bool.or_self]; done)))⟩
  · obtain rfl : k = 16 := by omega
    have q1 : ¬ (((16 : Nat) : Int) < 16) := by omega
    simp only [bc_mix16]
    (repeat' first | refine LOps.done ?_ | (apply LOps.loc; (focus (first | exact Goes.free | exact Goes.on rfl rfl (by with_reducible rfl) true (by decide))); (focus (exact rfl)); (focus (exact rfl)); (focus (simp only [go_sem, ↓reduceIte, Nat.reduceAdd, q1, ht3, hn3]; with_reducible rfl))) | (apply LOps.loc0; (focus (first | exact Goes.free | exact Goes.on rfl rfl (by with_reducible rfl) true (by decide))); (focus (exact rfl)); (focus (simp only [go_sem, ↓reduceIte, Nat.reduceEqDiff, reduceCtorEq, Nat.reduceLT, Nat.reduceAdd, hl3, hn3]; with_reducible rfl))) | refine LK.seq ?_ | refine LK.ret' ?_ | refine LK.exit' rfl ?_ | (apply LK.condF2; (focus (exact rfl)); (focus (with_reducible rfl)); (focus (first | with_reducible rfl | decide | (with_reducible exact Bool.false_and _) | (with_reducible exact congrArg (fun b => b && _) (Bool.false_and _))))) | refine LK.regc ?_ | (apply retQ; (focus (first | exact lres_one rfl | exact lres_more rfl | (simp only [lres, lresv, Try.results27, go_sem, ↓reduceIte, Nat.reduceEqDiff, reduceCtorEq, Nat.reduceAdd, ht3, hn3]; exact rfl)))) | fail)
    all_goals rfl
set_option maxHeartbeats 4000000 in
set_option maxRecDepth 20000 in
theorem add_swap (m : Bool) (A B : Int) (a0 : 0 ≤ A) (a1 : A < 65536 ^ 16) (b0 : 0 ≤ B) (b1 : B < 65536 ^ 16) (hc : A < B) : Fun Try.prog 27 [bg m (dg A), bg (!m) (dg B)] (bg ((!m) && B - A != 0) (dg (B - A))) := by
  have hl := Lf_all_leaf (dg A)
  have hl2 := Lf_all_leaf (dg B)
  have hl3 := Lf_all_leaf (dg (B - A))
  simp only [go_sem] at hl hl2 hl3
  have hn := Lf_mlen (dg A)
  have hn2 := Lf_mlen (dg B)
  have hn3 := Lf_mlen (dg (B - A))
  have ht := Lf_take (dg A)
  have ht2 := Lf_take (dg B)
  have ht3 := Lf_take (dg (B - A))
  have hm : (m == !m) = false := by cases m <;> rfl
  have hm1 : (!false) = true := rfl
  have hmo := more_fun A B a0 a1 b0 b1
  have hor : ord3 A B < 0 := by unfold ord3; rw [if_pos hc]; decide
  have e0 := bc_mix0 (!m) (B - A) (dg B)
  have z0 := un_zero B A
  (refine LCalls.enter Try.func27 rfl (by simp [Try.ntmps27]) (LK.start ?_); simp only [Try.ntmps27, enterA, Nat.zero_add])
  (repeat' first | refine LOps.done ?_ | (apply LOps.loc; (focus (first | exact Goes.free | exact Goes.on rfl rfl (by with_reducible rfl) true (by decide))); (focus (exact rfl)); (focus (exact rfl)); (focus (simp only [go_sem, ↓reduceIte, Nat.reduceEqDiff, reduceCtorEq, Nat.reduceLT, Nat.reduceAdd, hl, hl2, hn, hn2, ht, ht2, hm, hm1, hor]; with_reducible rfl))) | (apply LOps.loc0; (focus (first | exact Goes.free | exact Goes.on rfl rfl (by with_reducible rfl) true (by decide))); (focus (exact rfl)); (focus (simp only [go_sem, ↓reduceIte, Nat.reduceEqDiff, reduceCtorEq, Nat.reduceLT, Nat.reduceAdd, hl, hl2, hn, hn2]; with_reducible rfl))) | refine LK.seq ?_ | refine LK.block ?_ | (apply LK.condT2; (focus (exact rfl)); (focus (with_reducible rfl)); (focus (first | with_reducible rfl | decide | (with_reducible exact Bool.true_or _) | (with_reducible exact congrArg (fun b => b || _) (Bool.true_or _))))) | refine LK.regc ?_ | (apply LOps.locFn; (focus (first | exact Goes.free | exact Goes.on rfl rfl (by with_reducible rfl) true (by decide))); (focus (exact rfl)); (focus (exact rfl)); (focus (simp only [go_sem, ↓reduceIte, Nat.reduceEqDiff]; exact rfl)); (focus (simp only [go_sem])); (focus (exact hmo)); (focus (first | rfl | simp [go_sem])); (focus (first | rfl | simp [go_sem]))) | fail)
  refine LK.loop (fun k : Nat => 16 - k) (fun k => k ≤ 16) (fun k => ⟨74, [(2, .ptr 0 1 0 0), (3, .ptr 1 1 0 0), (4, .ptr 2 1 0 0), (5, vu (un B A k)), (23, vi k)]⟩) (fun k => [(0, .arr 17 [bc (!m) (mix (B - A) (dg B) k)]), (1, .arr 17 [bc m (dg A)]), (2, .arr 17 [z17])]) 0 (by omega) (Sub.by rfl rfl (by first | rfl | (simp only [subB, MB_all_under, MI_all_under, MB_all_idp, MI_all_idp, oF_under, oF_idp, oF_all_under, oF_all_idp, MB_under, MI_under, MB_idp, MI_idp, evOk, ovOk, nvOk, keepOf, vis, LV.under, LV.unders, LV.idp, LV.idps, LO.under, LO.idp, under_pv, idp_pv, List.all_cons, List.all_nil, List.any_cons, List.any_nil, Nat.reduceBEq, beq_self_eq_true, Bool.and_true, Bool.true_and, Bool.or_true, Bool.true_or, Bool.or_false, Bool.false_or, decide_true, decide_false, Nat.reduceLT, Nat.reduceLeDiff, Nat.le_refl, Nat.reduceAdd, Bool.and_self, Bool.or_self, e0, z0]; done))) ?_
  rintro k hk J3 hJ3
  rcases Nat.lt_or_ge k 16 with klt | kge
  · have q1 : ((k : Int) < 16) := by omega
    obtain ⟨f0, f1, f2, f3, f4, f5⟩ := diff_facts b0 b1 a0 a1 klt
    have c1 := bc_get (!m) (mix (B - A) (dg B) k) klt
    rw [mix_at] at c1
    have c2 := bc_get m (dg A) klt
    have c4 := bc_mix (!m) (B - A) (dg B) klt
    have c5 := Lf_le (mix (B - A) (dg B) k) klt
    have w2 : IntKind.i64.wrap ((k : Int) + 1) = ((k + 1 : Nat) : Int) := by rw [IntKind.wrap_i64]; omega
    (repeat' first | refine LOps.done ?_ | (apply LOps.mv; (focus (first | exact Goes.free | exact Goes.on rfl rfl (by with_reducible rfl) true (by decide))); (focus (exact rfl)); (focus (exact rfl))) | (apply LOps.asg; (focus (first | exact Goes.free | exact Goes.on rfl rfl (by with_reducible rfl) true (by decide))); (focus (exact rfl)); (focus (exact rfl))) | (apply LOps.loc; (focus (first | exact Goes.free | exact Goes.on rfl rfl (by with_reducible rfl) true (by decide))); (focus (exact rfl)); (focus (exact rfl)); (focus (simp only [go_sem, ↓reduceIte, Nat.reduceEqDiff, Nat.reduceLT, Int.reduceEq, q1, f3, f4, f5, w2, n16]; with_reducible rfl))) | (apply LOps.loc0; (focus (first | exact Goes.free | exact Goes.on rfl rfl (by with_reducible rfl) true (by decide))); (focus (exact rfl)); (focus (simp only [go_sem, ↓reduceIte, Nat.reduceEqDiff, Nat.reduceLT, Nat.reduceLeDiff, c4, c5]; with_reducible rfl))) | refine LK.seq ?_ | refine LK.skip ?_ | refine LK.block ?_ | refine LK.blk ?_ | refine LK.fin ?_ | (apply LK.condT2; (focus (exact rfl)); (focus (with_reducible rfl)); (focus (first | with_reducible rfl | decide | (with_reducible exact Bool.true_or _) | (with_reducible exact congrArg (fun b => b || _) (Bool.true_or _))))) | refine LK.regc ?_ | (apply LK.drawn3; (focus (exact Ty.mixed)); (focus ((repeat' first | exact DRun.nil _ _ _ | (apply DRun.aopS; (focus (exact rfl)); (focus (first | exact rfl | (simp only [oF_idss, oF_ids, idss_MB, idss_MI, objsOf, idsOf, LV.ids, LV.idss, LO.ids, idss_pv, lookB_eq, List.any_nil, List.any_cons, cond_true, cond_false, List.flatten_cons, List.flatten_nil, Nat.reduceBEq, Bool.or_false, Bool.false_or, Bool.or_true, go_sem, ↓reduceIte, Nat.reduceEqDiff, reduceCtorEq, Nat.reduceLT, Nat.reduceAdd, Int.reduceBEq, Int.reduceBNe, Int.reduceEq, Int.reduceLE, Int.reduceLT, Int.reduceToNat, Nat.reduceLeDiff, Nat.reduceMul, Nat.reduceSub, q1, f0, f1, f2, f3, f4, f5, c1, c2, c4, c5, w2, n16]; exact rfl))); (focus (first | exact Goes.free | exact Goes.on rfl rfl (by with_reducible rfl) true (by decide))); (focus (simp only [go_sem, ↓reduceIte, Nat.reduceEqDiff, Nat.reduceLT, q1, f0, f1, f2, c1, c2, n16]; exact rfl)); (focus (exact rfl)); (focus (first | decide +kernel | (simp only [evOk, ovOk, nvOk, keepOf, vis, LV.under, LV.idp, LO.under, LO.idp, List.all_cons, List.all_nil, List.any_cons, List.any_nil, beq_self_eq_true, Bool.and_true, Bool.true_and, Bool.or_false, Bool.false_or, decide_true, decide_false, Nat.reduceLT, Nat.reduceLeDiff, Bool.and_self]; done) | (simp [evOk, ovOk, nvOk, keepOf, vis, LV.under, LV.idp, LO.under, LO.idp]; done) | exact rfl))) | fail); done)); (focus kernel_rfl); (focus (first | exact puOk_none rfl | (simp [puOk, evShape, nvShape, look, oF_len, go_sem, ↓reduceIte, Nat.reduceEqDiff, reduceCtorEq, Nat.reduceLT, Nat.reduceAdd, Int.reduceBEq, Int.reduceBNe, Int.reduceEq, Int.reduceLE, Int.reduceLT, Int.reduceToNat, Nat.reduceLeDiff, Nat.reduceMul, Nat.reduceSub, q1, f0, f1, f2, f3, f4, f5, c1, c2, c4, c5, w2, n16]; done))); (focus (first | (simp only [go_sem, ↓reduceIte, Nat.reduceEqDiff, reduceCtorEq, Nat.reduceLT, Nat.reduceAdd, Int.reduceBEq, Int.reduceBNe, Int.reduceEq, Int.reduceLE, Int.reduceLT, Int.reduceToNat, Nat.reduceLeDiff, Nat.reduceMul, Nat.reduceSub, q1, f0, f1, f2, f3, f4, f5, c1, c2, c4, c5, w2, n16]; exact rfl) | exact rfl)); (focus (first | (simp only [go_sem, ↓reduceIte, Nat.reduceEqDiff, reduceCtorEq, Nat.reduceLT, Nat.reduceAdd, Int.reduceBEq, Int.reduceBNe, Int.reduceEq, Int.reduceLE, Int.reduceLT, Int.reduceToNat, Nat.reduceLeDiff, Nat.reduceMul, Nat.reduceSub, q1, f0, f1, f2, f3, f4, f5, c1, c2, c4, c5, w2, n16]; exact rfl) | exact rfl)); (focus (first | (simp only [go_sem, ↓reduceIte, Nat.reduceEqDiff, reduceCtorEq, Nat.reduceLT, Nat.reduceAdd, Int.reduceBEq, Int.reduceBNe, Int.reduceEq, Int.reduceLE, Int.reduceLT, Int.reduceToNat, Nat.reduceLeDiff, Nat.reduceMul, Nat.reduceSub, q1, f0, f1, f2, f3, f4, f5, c1, c2, c4, c5, w2, n16]; exact rfl) | exact rfl))) | fail)
    apply hJ3
    exact ⟨k + 1, by omega, by omega, (Sub.by rfl rfl (by first | rfl | (simp only [subB, MB_all_under, MI_all_under, MB_all_idp, MI_all_idp, oF_under, oF_idp, oF_all_under, oF_all_idp, MB_under, MI_under, MB_idp, MI_idp, evOk, ovOk, nvOk, keepOf, vis, LV.under, LV.unders, LV.idp, LV.idps, LO.under, LO.idp, under_pv, idp_pv, List.all_cons, List.all_nil, List.any_cons, List.any_nil, Nat.reduceBEq, beq_self_eq_true, Bool.and_true, Bool.true_and, Bool.or_true, Bool.true_or, Bool.or_false, Bool.false_or, decide_true, decide_false, Nat.reduceLT, Nat.reduceLeDiff, Nat.le_refl, Nat.reduceAdd, Bool.and_self, Bool.or_self]; done)))⟩
  · obtain rfl : k = 16 := by omega
    have q1 : ¬ (((16 : Nat) : Int) < 16) := by omega
    have hz := zero_fun (!m) (B - A) (by omega) (by omega)
    simp only [bc_mix16]
    by_cases z : B - A = 0
    · have z1 : (B - A == 0) = true := by simpa using z
      have z2 : ((!m) && B - A != 0) = false := by simp [z]
      rw [z1] at hz
      rw [z2]
      (repeat' first | refine LOps.done ?_ | (apply LOps.loc; (focus (first | exact Goes.free | exact Goes.on rfl rfl (by with_reducible rfl) true (by decide))); (focus (exact rfl)); (focus (exact rfl)); (focus (simp only [go_sem, ↓reduceIte, reduceCtorEq, Nat.reduceLT, Nat.reduceAdd, q1, ht3, hn3]; with_reducible rfl))) | (apply LOps.loc0; (focus (first | exact Goes.free | exact Goes.on rfl rfl (by with_reducible rfl) true (by decide))); (focus (exact rfl)); (focus (simp only [go_sem, ↓reduceIte, Nat.reduceEqDiff, reduceCtorEq, Nat.reduceLT, Nat.reduceAdd, Nat.reduceLeDiff, hl3, hn3]; with_reducible rfl))) | refine LK.seq ?_ | refine LK.ret' ?_ | refine LK.exit' rfl ?_ | (apply LK.condT2; (focus (exact rfl)); (focus (with_reducible rfl)); (focus (first | with_reducible rfl | decide | (with_reducible exact Bool.true_or _) | (with_reducible exact congrArg (fun b => b || _) (Bool.true_or _))))) | (apply LK.condF2; (focus (exact rfl)); (focus (with_reducible rfl)); (focus (first | with_reducible rfl | decide | (with_reducible exact Bool.false_and _) | (with_reducible exact congrArg (fun b => b && _) (Bool.false_and _))))) | refine LK.regc ?_ | (apply retQ; (focus (first | exact lres_one rfl | exact lres_more rfl | (simp only [lres, lresv, Try.results27, go_sem, ↓reduceIte, Nat.reduceEqDiff, reduceCtorEq, Nat.reduceAdd, ht3, hn3]; exact rfl)))) | (apply LOps.locFn; (focus (first | exact Goes.free | exact Goes.on rfl rfl (by with_reducible rfl) true (by decide))); (focus (exact rfl)); (focus (exact rfl)); (focus (simp only [go_sem, ↓reduceIte]; exact rfl)); (focus (simp only [go_sem])); (focus (exact hz)); (focus (first | rfl | simp [go_sem])); (focus (first | rfl | simp [go_sem]))) | fail)
      all_goals rfl
    · have z1 : (B - A == 0) = false := by simpa using z
      have z2 : ((!m) && B - A != 0) = (!m) := by simp [z]
      rw [z1] at hz
      rw [z2]
      (repeat' first | refine LOps.done ?_ | (apply LOps.loc; (focus (first | exact Goes.free | exact Goes.on rfl rfl (by with_reducible rfl) true (by decide))); (focus (exact rfl)); (focus (exact rfl)); (focus (simp only [go_sem, ↓reduceIte, reduceCtorEq, Nat.reduceAdd, q1, ht3, hn3]; with_reducible rfl))) | (apply LOps.loc0; (focus (first | exact Goes.free | exact Goes.on rfl rfl (by with_reducible rfl) true (by decide))); (focus (exact rfl)); (focus (simp only [go_sem, ↓reduceIte, Nat.reduceEqDiff, reduceCtorEq, Nat.reduceLT, Nat.reduceAdd, hl3, hn3]; with_reducible rfl))) | refine LK.seq ?_ | refine LK.skip ?_ | refine LK.ret' ?_ | refine LK.exit' rfl ?_ | (apply LK.condF2; (focus (exact rfl)); (focus (with_reducible rfl)); (focus (first | with_reducible rfl | decide | (with_reducible exact Bool.false_and _) | (with_reducible exact congrArg (fun b => b && _) (Bool.false_and _))))) | refine LK.regc ?_ | (apply retQ; (focus (first | exact lres_one rfl | exact lres_more rfl | (simp only [lres, lresv, Try.results27, go_sem, ↓reduceIte, Nat.reduceEqDiff, reduceCtorEq, Nat.reduceAdd, ht3, hn3]; exact rfl)))) | (apply LOps.locFn; (focus (first | exact Goes.free | exact Goes.on rfl rfl (by with_reducible rfl) true (by decide))); (focus (exact rfl)); (focus (exact rfl)); (focus (simp only [go_sem, ↓reduceIte]; exact rfl)); (focus (simp only [go_sem])); (focus (exact hz)); (focus (first | rfl | simp [go_sem])); (focus (first | rfl | simp [go_sem]))) | fail)
      all_goals rfl
set_option maxHeartbeats 4000000 in
set_option maxRecDepth 20000 in
theorem add_keep (m : Bool) (A B : Int) (a0 : 0 ≤ A) (a1 : A < 65536 ^ 16) (b0 : 0 ≤ B) (b1 : B < 65536 ^ 16) (hc : B ≤ A) : Fun Try.prog 27 [bg m (dg A), bg (!m) (dg B)] (bg (m && A - B != 0) (dg (A - B))) := by
  have hl := Lf_all_leaf (dg A)
  have hl2 := Lf_all_leaf (dg B)
  have hl3 := Lf_all_leaf (dg (A - B))
  simp only [go_sem] at hl hl2 hl3
  have hn := Lf_mlen (dg A)
  have hn2 := Lf_mlen (dg B)
  have hn3 := Lf_mlen (dg (A - B))
  have ht := Lf_take (dg A)
  have ht2 := Lf_take (dg B)
  have ht3 := Lf_take (dg (A - B))
  have hm : (m == !m) = false := by cases m <;> rfl
  have hm1 : (!false) = true := rfl
  have hmo := more_fun A B a0 a1 b0 b1
  have hor : ¬ ord3 A B < 0 := by unfold ord3; rw [if_neg (by omega)]; split <;> omega
  have e0 := bc_mix0 m (A - B) (dg A)
  have z0 := un_zero A B
  (refine LCalls.enter Try.func27 rfl (by simp [Try.ntmps27]) (LK.start ?_); simp only [Try.ntmps27, enterA, Nat.zero_add])
  (repeat' first | refine LOps.done ?_ | (apply LOps.loc; (focus (first | exact Goes.free | exact Goes.on rfl rfl (by with_reducible rfl) true (by decide))); (focus (exact rfl)); (focus (exact rfl)); (focus (simp only [go_sem, ↓reduceIte, Nat.reduceEqDiff, reduceCtorEq, Nat.reduceLT, Nat.reduceAdd, hl, hl2, hn, hn2, ht, ht2, hm, hm1, hor]; with_reducible rfl))) | refine LK.seq ?_ | refine LK.skip ?_ | refine LK.block ?_ | (apply LK.condT2; (focus (exact rfl)); (focus (with_reducible rfl)); (focus (first | with_reducible rfl | decide | (with_reducible exact Bool.true_or _) | (with_reducible exact congrArg (fun b => b || _) (Bool.true_or _))))) | (apply LK.condF2; (focus (exact rfl)); (focus (with_reducible rfl)); (focus (first | with_reducible rfl | decide | (with_reducible exact Bool.false_and _) | (with_reducible exact congrArg (fun b => b && _) (Bool.false_and _))))) | refine LK.regc ?_ | (apply LOps.locFn; (focus (first | exact Goes.free | exact Goes.on rfl rfl (by with_reducible rfl) true (by decide))); (focus (exact rfl)); (focus (exact rfl)); (focus (simp only [go_sem, ↓reduceIte, Nat.reduceEqDiff]; exact rfl)); (focus (simp only [go_sem])); (focus (exact hmo)); (focus (first | rfl | simp [go_sem])); (focus (first | rfl | simp [go_sem]))) | fail)
  refine LK.loop (fun k : Nat => 16 - k) (fun k => k ≤ 16) (fun k => ⟨74, [(2, .ptr 0 1 0 0), (3, .ptr 1 1 0 0), (4, .ptr 2 1 0 0), (5, vu (un A B k)), (23, vi k)]⟩) (fun k => [(0, .arr 17 [bc m (mix (A - B) (dg A) k)]), (1, .arr 17 [bc (!m) (dg B)]), (2, .arr 17 [z17])]) 0 (by omega) (Sub.by rfl rfl (by first | rfl | (simp only [subB, MB_all_under, MI_all_under, MB_all_idp, MI_all_idp, oF_under, oF_idp, oF_all_under, oF_all_idp, MB_under, MI_under, MB_idp, MI_idp, evOk, ovOk, nvOk, keepOf, vis, LV.under, LV.unders, LV.idp, LV.idps, LO.under, LO.idp, under_pv, idp_pv, List.all_cons, List.all_nil, List.any_cons, List.any_nil, Nat.reduceBEq, beq_self_eq_true, Bool.and_true, Bool.true_and, Bool.or_true, Bool.true_or, Bool.or_false, Bool.false_or, decide_true, decide_false, Nat.reduceLT, Nat.reduceLeDiff, Nat.le_refl, Nat.reduceAdd, Bool.and_self, Bool.or_self, e0, z0]; done))) ?_
  rintro k hk J3 hJ3
  rcases Nat.lt_or_ge k 16 with klt | kge
  · have q1 : ((k : Int) < 16) := by omega
    obtain ⟨f0, f1, f2, f3, f4, f5⟩ := diff_facts a0 a1 b0 b1 klt
    have c1 := bc_get m (mix (A - B) (dg A) k) klt
    rw [mix_at] at c1
    have c2 := bc_get (!m) (dg B) klt
    have c4 := bc_mix m (A - B) (dg A) klt
    have c5 := Lf_le (mix (A - B) (dg A) k) klt
    have w2 : IntKind.i64.wrap ((k : Int) + 1) = ((k + 1 : Nat) : Int) := by rw [IntKind.wrap_i64]; omega
    (repeat' first | refine LOps.done ?_ | (apply LOps.mv; (focus (first | exact Goes.free | exact Goes.on rfl rfl (by with_reducible rfl) true (by decide))); (focus (exact rfl)); (focus (exact rfl))) | (apply LOps.asg; (focus (first | exact Goes.free | exact Goes.on rfl rfl (by with_reducible rfl) true (by decide))); (focus (exact rfl)); (focus (exact rfl))) | (apply LOps.loc; (focus (first | exact Goes.free | exact Goes.on rfl rfl (by with_reducible rfl) true (by decide))); (focus (exact rfl)); (focus (exact rfl)); (focus (simp only [go_sem, ↓reduceIte, Nat.reduceEqDiff, Nat.reduceLT, Int.reduceEq, q1, f3, f4, f5, w2, n16]; with_reducible rfl))) | (apply LOps.loc0; (focus (first | exact Goes.free | exact Goes.on rfl rfl (by with_reducible rfl) true (by decide))); (focus (exact rfl)); (focus (simp only [go_sem, ↓reduceIte, Nat.reduceEqDiff, Nat.reduceLT, Nat.reduceLeDiff, c4, c5]; with_reducible rfl))) | refine LK.seq ?_ | refine LK.skip ?_ | refine LK.block ?_ | refine LK.blk ?_ | refine LK.fin ?_ | (apply LK.condT2; (focus (exact rfl)); (focus (with_reducible rfl)); (focus (first | with_reducible rfl | decide | (with_reducible exact Bool.true_or _) | (with_reducible exact congrArg (fun b => b || _) (Bool.true_or _))))) | refine LK.regc ?_ | (apply LK.drawn3; (focus (exact Ty.mixed)); (focus ((repeat' first | exact DRun.nil _ _ _ | (apply DRun.aopS; (focus (exact rfl)); (focus (first | exact rfl | (simp only [oF_idss, oF_ids, idss_MB, idss_MI, objsOf, idsOf, LV.ids, LV.idss, LO.ids, idss_pv, lookB_eq, List.any_nil, List.any_cons, cond_true, cond_false, List.flatten_cons, List.flatten_nil, Nat.reduceBEq, Bool.or_false, Bool.false_or, Bool.or_true, go_sem, ↓reduceIte, Nat.reduceEqDiff, reduceCtorEq, Nat.reduceLT, Nat.reduceAdd, Int.reduceBEq, Int.reduceBNe, Int.reduceEq, Int.reduceLE, Int.reduceLT, Int.reduceToNat, Nat.reduceLeDiff, Nat.reduceMul, Nat.reduceSub, q1, f0, f1, f2, f3, f4, f5, c1, c2, c4, c5, w2, n16]; exact rfl))); (focus (first | exact Goes.free | exact Goes.on rfl rfl (by with_reducible rfl) true (by decide))); (focus (simp only [go_sem, ↓reduceIte, Nat.reduceEqDiff, Nat.reduceLT, q1, f0, f1, f2, c1, c2, n16]; exact rfl)); (focus (exact rfl)); (focus (first | decide +kernel | (simp only [evOk, ovOk, nvOk, keepOf, vis, LV.under, LV.idp, LO.under, LO.idp, List.all_cons, List.all_nil, List.any_cons, List.any_nil, beq_self_eq_true, Bool.and_true, Bool.true_and, Bool.or_false, Bool.false_or, decide_true, decide_false, Nat.reduceLT, Nat.reduceLeDiff, Bool.and_self]; done) | (simp [evOk, ovOk, nvOk, keepOf, vis, LV.under, LV.idp, LO.under, LO.idp]; done) | exact rfl))) | fail); done)); (focus kernel_rfl); (focus (first | exact puOk_none rfl | (simp [puOk, evShape, nvShape, look, oF_len, go_sem, ↓reduceIte, Nat.reduceEqDiff, reduceCtorEq, Nat.reduceLT, Nat.reduceAdd, Int.reduceBEq, Int.reduceBNe, Int.reduceEq, Int.reduceLE, Int.reduceLT, Int.reduceToNat, Nat.reduceLeDiff, Nat.reduceMul, Nat.reduceSub, q1, f0, f1, f2, f3, f4, f5, c1, c2, c4, c5, w2, n16]; done))); (focus (first | (simp only [go_sem, ↓reduceIte, Nat.reduceEqDiff, reduceCtorEq, Nat.reduceLT, Nat.reduceAdd, Int.reduceBEq, Int.reduceBNe, Int.reduceEq, Int.reduceLE, Int.reduceLT, Int.reduceToNat, Nat.reduceLeDiff, Nat.reduceMul, Nat.reduceSub, q1, f0, f1, f2, f3, f4, f5, c1, c2, c4, c5, w2, n16]; exact rfl) | exact rfl)); (focus (first | (simp only [go_sem, ↓reduceIte, Nat.reduceEqDiff, reduceCtorEq, Nat.reduceLT, Nat.reduceAdd, Int.reduceBEq, Int.reduceBNe, Int.reduceEq, Int.reduceLE, Int.reduceLT, Int.reduceToNat, Nat.reduceLeDiff, Nat.reduceMul, Nat.reduceSub, q1, f0, f1, f2, f3, f4, f5, c1, c2, c4, c5, w2, n16]; exact rfl) | exact rfl)); (focus (first | (simp only [go_sem, ↓reduceIte, Nat.reduceEqDiff, reduceCtorEq, Nat.reduceLT, Nat.reduceAdd, Int.reduceBEq, Int.reduceBNe, Int.reduceEq, Int.reduceLE, Int.reduceLT, Int.reduceToNat, Nat.reduceLeDiff, Nat.reduceMul, Nat.reduceSub, q1, f0, f1, f2, f3, f4, f5, c1, c2, c4, c5, w2, n16]; exact rfl) | exact rfl))) | fail)
    apply hJ3
    exact ⟨k + 1, by omega, by omega, (Sub.by rfl rfl (by first | rfl | (simp only [subB, MB_all_under, MI_all_under, MB_all_idp, MI_all_idp, oF_under, oF_idp, oF_all_under, oF_all_idp, MB_under, MI_under, MB_idp, MI_idp, evOk, ovOk, nvOk, keepOf, vis, LV.under, LV.unders, LV.idp, LV.idps, LO.under, LO.idp, under_pv, idp_pv, List.all_cons, List.all_nil, List.any_cons, List.any_nil, Nat.reduceBEq, beq_self_eq_true, Bool.and_true, Bool.true_and, Bool.or_true, Bool.true_or, Bool.or_false, Bool.false_or, decide_true, decide_false, Nat.reduceLT, Nat.reduceLeDiff, Nat.le_refl, Nat.reduceAdd, Bool.and_self, Bool.or_self]; done)))⟩
  · obtain rfl : k = 16 := by omega
    have q1 : ¬ (((16 : Nat) : Int) < 16) := by omega
    have hz := zero_fun m (A - B) (by omega) (by omega)
    simp only [bc_mix16]
    by_cases z : A - B = 0
    · have z1 : (A - B == 0) = true := by simpa using z
      have z2 : (m && A - B != 0) = false := by simp [z]
      rw [z1] at hz
      rw [z2]
      (repeat' first | refine LOps.done ?_ | (apply LOps.loc; (focus (first | exact Goes.free | exact Goes.on rfl rfl (by with_reducible rfl) true (by decide))); (focus (exact rfl)); (focus (exact rfl)); (focus (simp only [go_sem, ↓reduceIte, reduceCtorEq, Nat.reduceLT, Nat.reduceAdd, q1, ht3, hn3]; with_reducible rfl))) | (apply LOps.loc0; (focus (first | exact Goes.free | exact Goes.on rfl rfl (by with_reducible rfl) true (by decide))); (focus (exact rfl)); (focus (simp only [go_sem, ↓reduceIte, Nat.reduceEqDiff, reduceCtorEq, Nat.reduceLT, Nat.reduceAdd, Nat.reduceLeDiff, hl3, hn3]; with_reducible rfl))) | refine LK.seq ?_ | refine LK.ret' ?_ | refine LK.exit' rfl ?_ | (apply LK.condT2; (focus (exact rfl)); (focus (with_reducible rfl)); (focus (first | with_reducible rfl | decide | (with_reducible exact Bool.true_or _) | (with_reducible exact congrArg (fun b => b || _) (Bool.true_or _))))) | (apply LK.condF2; (focus (exact rfl)); (focus (with_reducible rfl)); (focus (first | with_reducible rfl | decide | (with_reducible exact Bool.false_and _) | (with_reducible exact congrArg (fun b => b && _) (Bool.false_and _))))) | refine LK.regc ?_ | (apply retQ; (focus (first | exact lres_one rfl | exact lres_more rfl | (simp only [lres, lresv, Try.results27, go_sem, ↓reduceIte, Nat.reduceEqDiff, reduceCtorEq, Nat.reduceAdd, ht3, hn3]; exact rfl)))) | (apply LOps.locFn; (focus (first | exact Goes.free | exact Goes.on rfl rfl (by with_reducible rfl) true (by decide))); (focus (exact rfl)); (focus (exact rfl)); (focus (simp only [go_sem, ↓reduceIte]; exact rfl)); (focus (simp only [go_sem])); (focus (exact hz)); (focus (first | rfl | simp [go_sem])); (focus (first | rfl | simp [go_sem]))) | fail)
      all_goals rfl
    · have z1 : (A - B == 0) = false := by simpa using z
      have z2 : (m && A - B != 0) = m := by simp [z]
      rw [z1] at hz
      rw [z2]
      (repeat' first | refine LOps.done ?_ | (apply LOps.loc; (focus (first | exact Goes.free | exact Goes.on rfl rfl (by with_reducible rfl) true (by decide))); (focus (exact rfl)); (focus (exact rfl)); (focus (simp only [go_sem, ↓reduceIte, reduceCtorEq, Nat.reduceAdd, q1, ht3, hn3]; with_reducible rfl))) | (apply LOps.loc0; (focus (first | exact Goes.free | exact Goes.on rfl rfl (by with_reducible rfl) true (by decide))); (focus (exact rfl)); (focus (simp only [go_sem, ↓reduceIte, Nat.reduceEqDiff, reduceCtorEq, Nat.reduceLT, Nat.reduceAdd, hl3, hn3]; with_reducible rfl))) | refine LK.seq ?_ | refine LK.skip ?_ | refine LK.ret' ?_ | refine LK.exit' rfl ?_ | (apply LK.condF2; (focus (exact rfl)); (focus (with_reducible rfl)); (focus (first | with_reducible rfl | decide | (with_reducible exact Bool.false_and _) | (with_reducible exact congrArg (fun b => b && _) (Bool.false_and _))))) | refine LK.regc ?_ | (apply retQ; (focus (first | exact lres_one rfl | exact lres_more rfl | (simp only [lres, lresv, Try.results27, go_sem, ↓reduceIte, Nat.reduceEqDiff, reduceCtorEq, Nat.reduceAdd, ht3, hn3]; exact rfl)))) | (apply LOps.locFn; (focus (first | exact Goes.free | exact Goes.on rfl rfl (by with_reducible rfl) true (by decide))); (focus (exact rfl)); (focus (exact rfl)); (focus (simp only [go_sem, ↓reduceIte]; exact rfl)); (focus (simp only [go_sem])); (focus (exact hz)); (focus (first | rfl | simp [go_sem])); (focus (first | rfl | simp [go_sem]))) | fail)
      all_goals rfl
end Go.Proofs.Ytffchlfnnilbiaa
