/- Chapter 06: whether chains have just what queues have. -/
import Derived.Test.YtlikcejcdnkncaaQ13
set_option linter.unusedSimpArgs false
set_option linter.unusedVariables false
namespace Go.Proofs.Ytlikcejcdnkncaa
open Go.Lw
attribute [local irreducible] LK LOps LW
/-- A queue within queues. -/
def cQ (q : List Nat) : List PV := [.ro .any 1 (rF (cI .i64) (castL q))]
theorem cQ_eq (q : List Nat) : cQ q = [.ro .any 1 (rF (cI .i64) (castL q))] := rfl
theorem fl_at {Q : List (List Nat)} {i : Nat} {q : List Nat} (hq : Q[i]? = some q) : (Q.take (i + 1)).flatten = (Q.take i).flatten ++ q := by
  rw [List.take_add_one, hq]; simp
set_option maxHeartbeats 4000000 in
set_option maxRecDepth 20000 in
theorem holds_ok (n h t : List Int) (Q : List (List Nat)) (c : Ch n h t Q) : Fun Try.prog 31 [cv n h t, sF 1 cQ Q] (vb true) := by
  have hk := check_fun n h t
  rw [chk_ok c.ok] at hk
  have hlQ : h.length = Q.length := c.r.lh
  have hb256 := c.b.2.2.1
  (refine LCalls.enter Try.func31 rfl (by simp [Try.ntmps31]) (LK.start ?_); simp only [Try.ntmps31, enterA, Nat.zero_add])
  (repeat' first | refine LOps.done ?_ | (apply LOps.mv; (focus (first | exact Goes.free | exact Goes.on rfl rfl (by with_reducible rfl) true (by decide))); (focus (exact rfl)); (focus (exact rfl))) | (apply LOps.asg; (focus (first | exact Goes.free | exact Goes.on rfl rfl (by with_reducible rfl) true (by decide))); (focus (exact rfl)); (focus (exact rfl))) | (apply LOps.loc; (focus (first | exact Goes.free | exact Goes.on rfl rfl (by with_reducible rfl) true (by decide))); (focus (exact rfl)); (focus (exact rfl)); (focus (simp only [go_sem, ↓reduceIte, reduceCtorEq, Nat.reduceLT, Nat.reduceAdd]; with_reducible rfl))) | refine LK.seq ?_ | refine LK.block ?_ | refine LK.regc ?_ | fail)
  refine LK.loop (fun s : Nat × List (Int × Bool) => Q.length - s.1) (fun s => s.1 ≤ Q.length ∧ ∀ x : Nat, mb s.2 x = true → x ∈ (Q.take s.1).flatten) (fun s => ⟨67, [(2, .ptr 0 1 0 0), (5, .mp 1), (15, sF 1 cQ Q), (16, vi Q.length), (17, vi s.1)]⟩) (fun s => [(0, .arr 3 [[sI n, sI h, sI t]]), (1, .map (MB s.2))]) (0, []) ⟨Nat.zero_le _, fun x hx => by simp [mb, aget] at hx⟩ (Sub.by rfl rfl (by first | rfl | (simp only [subB, MB_all_under, MI_all_under, MB_all_idp, MI_all_idp, oF_under, oF_idp, oF_all_under, oF_all_idp, MB_under, MI_under, MB_idp, MI_idp, evOk, ovOk, nvOk, keepOf, vis, LV.under, LV.unders, LV.idp, LV.idps, LO.under, LO.idp, under_pv, idp_pv, List.all_cons, List.all_nil, List.any_cons, List.any_nil, Nat.reduceBEq, beq_self_eq_true, Bool.and_true, Bool.true_and, Bool.or_true, Bool.true_or, Bool.or_false, Bool.false_or, decide_true, decide_false, Nat.reduceLT, Nat.reduceLeDiff, Nat.le_refl, Nat.reduceAdd, Bool.and_self, Bool.or_self]; done))) ?_
  rintro ⟨i, E⟩ ⟨hi, hE⟩ J hJ
  simp only at hi hE
  rcases Nat.lt_or_ge i Q.length with hlt | hge
  · obtain ⟨q, hq⟩ := idx_all hlt
    have h1 : ((i : Int) < (Q.length : Int)) := by omega
    have hwk := walk_ok n h t Q i q c.b c.r hq
    obtain ⟨hql, hqn⟩ := c.r.le hq
    have hb := c.b.1
    have hcl := castL_len q
    have hri := req_fun (castL q) (castL q) (by rw [hcl]; omega)
    rw [show decide (castL q = castL q) = true by simp] at hri
    have hcs := cQ_eq q
    have hw := wrapn (n := i) (by omega)
    have hcut := nodup_cut c.r.nodup hq
    have ntt : (!true) = false := rfl
    (repeat' first | refine LOps.done ?_ | (apply LOps.mv; (focus (first | exact Goes.free | exact Goes.on rfl rfl (by with_reducible rfl) true (by decide))); (focus (exact rfl)); (focus (exact rfl))) | (apply LOps.asg; (focus (first | exact Goes.free | exact Goes.on rfl rfl (by with_reducible rfl) true (by decide))); (focus (exact rfl)); (focus (exact rfl))) | (apply LOps.ext; (focus (first | exact Goes.free | exact Goes.on rfl rfl (by with_reducible rfl) true (by decide))); (focus (exact rfl)); (focus (exact rfl)); (focus (exact rfl))) | (apply LOps.loc; (focus (first | exact Goes.free | exact Goes.on rfl rfl (by with_reducible rfl) true (by decide))); (focus (exact rfl)); (focus (exact rfl)); (focus (simp only [go_sem, ↓reduceIte, Nat.reduceEqDiff, reduceCtorEq, Nat.reduceLT, Nat.reduceAdd, Int.reduceBNe, h1, hq, hcl, hcs, ntt]; with_reducible rfl))) | refine LK.seq ?_ | refine LK.skip ?_ | refine LK.block ?_ | (apply LK.condT2; (focus (exact rfl)); (focus (with_reducible rfl)); (focus (first | with_reducible rfl | decide | (with_reducible exact Bool.true_or _) | (with_reducible exact congrArg (fun b => b || _) (Bool.true_or _))))) | (apply LK.condF2; (focus (exact rfl)); (focus (with_reducible rfl)); (focus (first | with_reducible rfl | decide | (with_reducible exact Bool.false_and _) | (with_reducible exact congrArg (fun b => b && _) (Bool.false_and _))))) | refine LK.regc ?_ | (apply LOps.locFn; (focus (first | exact Goes.free | exact Goes.on rfl rfl (by with_reducible rfl) true (by decide))); (focus (exact rfl)); (focus (exact rfl)); (focus (simp only [go_sem, ↓reduceIte, Nat.reduceEqDiff]; exact rfl)); (focus (simp only [go_sem])); (focus (first | exact hwk | exact hri)); (focus (first | rfl | simp [go_sem])); (focus (first | rfl | simp [go_sem]))) | fail)
    refine LK.loop (fun s : Nat × List (Int × Bool) => q.length - s.1) (fun s => s.1 ≤ q.length ∧ ∀ x : Nat, mb s.2 x = true → x ∈ (Q.take i).flatten ++ q.take s.1) (fun s => ⟨67, [(2, .ptr 0 1 0 0), (5, .mp 1), (6, vi i), (15, sF 1 cQ Q), (16, vi Q.length), (17, vi i), (36, sI (castL q)), (37, vi q.length), (38, vi s.1)]⟩) (fun s => [(0, .arr 3 [[sI n, sI h, sI t]]), (1, .map (MB s.2))]) (0, E) ⟨Nat.zero_le _, by simpa using hE⟩ (Sub.by rfl rfl (by first | rfl | (simp only [subB, MB_all_under, LV.under, LO.under, List.all_cons, List.all_nil, decide_true, Nat.reduceLT, Bool.and_self]; done))) ?_
    clear hE
    rintro ⟨k, E⟩ ⟨hk, hE⟩ J2 hJ2
    simp only at hk hE
    rcases Nat.lt_or_ge k q.length with klt | kge
    · obtain ⟨x, hx⟩ := idx_all klt
      have h2 : ((k : Int) < (q.length : Int)) := by omega
      have hcx : (castL q)[k]? = some (x : Int) := by rw [castL, List.getElem?_map, hx]; rfl
      have hxl := hqn x (List.mem_of_getElem? hx)
      obtain ⟨p, s, hps⟩ := List.append_of_mem (List.mem_of_getElem? hx)
      have hwh := where_gen n h t x i (lastI p) c.ok hxl (find_at c.b c.r ⟨s, by rw [hq, hps]⟩)
      have hw3 := wrapn (n := k) (by omega)
      have h5 : ((i : Int) != (i : Int)) = false := by simp
      have hE0 : mb E (x : Int) = false := by
        cases hm : mb E (x : Int) with
        | false => rfl
        | true =>
          have := hE x hm
          rcases List.mem_append.1 this with hm | hm
          · exact absurd hm (hcut.2.2.1 x (List.mem_of_getElem? hx))
          · obtain ⟨j, hj⟩ := List.mem_iff_getElem?.1 hm
            have hjk : j < k := by have := lt_of_get hj; rw [List.length_take] at this; omega
            rw [List.getElem?_take_of_lt hjk] at hj
            have hnd := hcut.2.1
            rw [List.nodup_iff_pairwise_ne, List.pairwise_iff_getElem] at hnd
            obtain ⟨a1, a2⟩ := List.getElem?_eq_some_iff.1 hj
            obtain ⟨b1, b2⟩ := List.getElem?_eq_some_iff.1 hx
            exact absurd (a2.trans b2.symm) (hnd j k a1 b1 hjk)
      (repeat' first | refine LOps.done ?_ | (apply LOps.mv; (focus (first | exact Goes.free | exact Goes.on rfl rfl (by with_reducible rfl) true (by decide))); (focus (exact rfl)); (focus (exact rfl))) | (apply LOps.asg; (focus (first | exact Goes.free | exact Goes.on rfl rfl (by with_reducible rfl) true (by decide))); (focus (exact rfl)); (focus (exact rfl))) | (apply LOps.ext; (focus (first | exact Goes.free | exact Goes.on rfl rfl (by with_reducible rfl) true (by decide))); (focus (exact rfl)); (focus (exact rfl)); (focus (exact rfl))) | (apply LOps.loc; (focus (first | exact Goes.free | exact Goes.on rfl rfl (by with_reducible rfl) true (by decide))); (focus (exact rfl)); (focus (exact rfl)); (focus (simp only [go_sem, ↓reduceIte, Nat.reduceEqDiff, reduceCtorEq, Nat.reduceLT, Nat.reduceAdd, Int.reduceBNe, h2, hcx, hcl, hw3, h5, hE0]; with_reducible rfl))) | (apply LOps.loc0; (focus (first | exact Goes.free | exact Goes.on rfl rfl (by with_reducible rfl) true (by decide))); (focus (exact rfl)); (focus (simp only [go_sem, ↓reduceIte, Nat.reduceEqDiff, reduceCtorEq, Nat.reduceLT]; with_reducible rfl))) | refine LK.seq ?_ | refine LK.skip ?_ | refine LK.block ?_ | refine LK.blk ?_ | refine LK.fin ?_ | (apply LK.condT2; (focus (exact rfl)); (focus (with_reducible rfl)); (focus (first | with_reducible rfl | decide | (with_reducible exact Bool.true_or _) | (with_reducible exact congrArg (fun b => b || _) (Bool.true_or _))))) | (apply LK.condF2; (focus (exact rfl)); (focus (with_reducible rfl)); (focus (first | with_reducible rfl | decide | (with_reducible exact Bool.false_and _) | (with_reducible exact congrArg (fun b => b && _) (Bool.false_and _))))) | refine LK.regc ?_ | (apply LOps.locFn; (focus (first | exact Goes.free | exact Goes.on rfl rfl (by with_reducible rfl) true (by decide))); (focus (exact rfl)); (focus (exact rfl)); (focus (simp only [go_sem, ↓reduceIte, Nat.reduceEqDiff]; exact rfl)); (focus (simp only [go_sem])); (focus (exact hwh)); (focus (first | rfl | simp [go_sem])); (focus (first | rfl | simp [go_sem]))) | fail)
      apply hJ2
      refine ⟨(k + 1, aput x true E), ⟨klt, fun y hy => ?_⟩, by simp only; omega, (Sub.by rfl rfl (by first | rfl | (simp only [subB, MB_all_under, LV.under, LO.under, List.all_cons, List.all_nil, decide_true, Nat.reduceLT, Bool.and_self]; done)))⟩
      rw [mb_aput] at hy
      rw [List.take_add_one, hx]
      by_cases e : (y : Int) = x
      · obtain rfl : y = x := by omega
        simp
      · rw [if_neg e] at hy
        have := hE y hy
        simp only [List.mem_append] at this ⊢
        rcases this with h | h
        · exact .inl h
        · exact .inr (.inl h)
    · have h2 : ¬ ((k : Int) < (q.length : Int)) := by omega
      rw [List.take_of_length_le kge] at hE
      (repeat' first | refine LOps.done ?_ | (apply LOps.mv; (focus (first | exact Goes.free | exact Goes.on rfl rfl (by with_reducible rfl) true (by decide))); (focus (exact rfl)); (focus (exact rfl))) | (apply LOps.loc; (focus (first | exact Goes.free | exact Goes.on rfl rfl (by with_reducible rfl) true (by decide))); (focus (exact rfl)); (focus (exact rfl)); (focus (simp only [go_sem, ↓reduceIte, Nat.reduceEqDiff, h2, hw]; with_reducible rfl))) | refine LK.seq ?_ | refine LK.blk ?_ | refine LK.fin ?_ | refine LK.exit' rfl ?_ | (apply LK.condF2; (focus (exact rfl)); (focus (with_reducible rfl)); (focus (first | with_reducible rfl | decide | (with_reducible exact Bool.false_and _) | (with_reducible exact congrArg (fun b => b && _) (Bool.false_and _))))) | refine LK.regc ?_ | fail)
      apply hJ
      refine ⟨(i + 1, E), ⟨hlt, fun y hy => by rw [fl_at hq]; exact hE y hy⟩, by simp only; omega, (Sub.by rfl rfl (by first | rfl | (simp only [subB, MB_all_under, LV.under, LO.under, List.all_cons, List.all_nil, decide_true, Nat.reduceLT, Bool.and_self]; done)))⟩
  · have h1 : ¬ ((i : Int) < (Q.length : Int)) := by omega
    (repeat' first | refine LOps.done ?_ | (apply LOps.asg; (focus (first | exact Goes.free | exact Goes.on rfl rfl (by with_reducible rfl) true (by decide))); (focus (exact rfl)); (focus (exact rfl))) | (apply LOps.loc; (focus (first | exact Goes.free | exact Goes.on rfl rfl (by with_reducible rfl) true (by decide))); (focus (exact rfl)); (focus (exact rfl)); (focus (simp only [go_sem, ↓reduceIte, Nat.reduceEqDiff, reduceCtorEq, Nat.reduceAdd, h1]; with_reducible rfl))) | refine LK.seq ?_ | refine LK.ret' ?_ | refine LK.exit' rfl ?_ | (apply LK.condF2; (focus (exact rfl)); (focus (with_reducible rfl)); (focus (first | with_reducible rfl | decide | (with_reducible exact Bool.false_and _) | (with_reducible exact congrArg (fun b => b && _) (Bool.false_and _))))) | refine LK.regc ?_ | (apply retQ; (focus (first | exact lres_one rfl | exact lres_more rfl | (simp only [lres, lresv, Try.results31, go_sem, ↓reduceIte, Nat.reduceEqDiff, reduceCtorEq, Nat.reduceLT, Nat.reduceAdd, Int.reduceBEq, Int.reduceBNe, Int.reduceEq, Int.reduceLE, Int.reduceLT, Int.reduceToNat, Nat.reduceLeDiff, Nat.reduceMul, Nat.reduceSub, h1]; exact rfl)))) | (apply LOps.locFn; (focus (first | exact Goes.free | exact Goes.on rfl rfl (by with_reducible rfl) true (by decide))); (focus (exact rfl)); (focus (exact rfl)); (focus (simp only [go_sem, ↓reduceIte]; exact rfl)); (focus (simp only [go_sem])); (focus (exact hk)); (focus (first | rfl | simp [go_sem])); (focus (first | rfl | simp [go_sem]))) | fail)
    all_goals rfl
end Go.Proofs.Ytlikcejcdnkncaa
