/- Chapter 06: the document's where, in, New, Walk, Where, Same. -/
import Derived.Test.YtlikcejcdnkncaaQ15
set_option linter.unusedSimpArgs false
set_option linter.unusedVariables false
namespace Go.Proofs.Ytlikcejcdnkncaa
open Go.Lw
attribute [local irreducible] LK LOps LW
theorem cS_eq (q : List Nat) : cS q = [.ro .any 1 (rF (cI .i64) (castL q))] := rfl
abbrev sS (Q : List (List Nat)) : LV := sF 1 cS Q
set_option maxHeartbeats 4000000 in
set_option maxRecDepth 20000 in
theorem in_fun (a b : Int) : Fun Try.prog 37 [vi a, vi b] (vb (decide (a ≥ 0) && decide (a < b))) := by
  (refine LCalls.enter Try.func37 rfl (by simp [Try.ntmps37]) (LK.start ?_); simp only [Try.ntmps37, enterA, Nat.zero_add])
  (repeat' first | refine LOps.done ?_ | (apply LOps.mv; (focus (first | exact Goes.free | exact Goes.on rfl rfl (by with_reducible rfl) true (by decide))); (focus (exact rfl)); (focus (exact rfl))) | (apply LOps.asg; (focus (first | exact Goes.free | exact Goes.on rfl rfl (by with_reducible rfl) true (by decide))); (focus (exact rfl)); (focus (exact rfl))) | (apply LOps.loc; (focus (first | exact Goes.free | exact Goes.on rfl rfl (by with_reducible rfl) true (by decide))); (focus (exact rfl)); (focus (exact rfl)); (focus (simp only [go_sem, ↓reduceIte, Nat.reduceEqDiff]; with_reducible rfl))) | (apply LOps.pass; (focus (first | exact Goes.on rfl rfl (by with_reducible rfl) false (by decide) | exact Goes.undef rfl rfl (by with_reducible rfl))); (focus (exact rfl))) | (apply LOps.scEnd; (focus (exact rfl)); (focus (with_reducible rfl))) | refine LK.seq ?_ | refine LK.ret' ?_ | refine LK.regc ?_ | (apply retQ; (focus (first | exact lres_one rfl | exact lres_more rfl | (simp only [lres, lresv, Try.results37, go_sem, ↓reduceIte, Nat.reduceEqDiff, reduceCtorEq, Nat.reduceLT, Nat.reduceAdd, Int.reduceBEq, Int.reduceBNe, Int.reduceEq, Int.reduceLE, Int.reduceLT, Int.reduceToNat, Nat.reduceLeDiff, Nat.reduceMul, Nat.reduceSub]; exact rfl)))) | (apply LOps.and2; exact rfl; exact rfl; exact rfl; exact rfl; exact rfl; (focus (with_reducible rfl)); (focus (first | kernel_rfl | rfl))) | refine Under.mk (fun hg => ?_) | fail)
  all_goals rfl
set_option maxHeartbeats 4000000 in
set_option maxRecDepth 20000 in
theorem rwhere_all (Q : List (List Nat)) (x : Nat) (A : Int) (hl : Q.length ≤ 256) (hq : ∀ q ∈ Q, q.length ≤ 1024) (hno : x ∉ Q.flatten → A = -1) (hat : ∀ i p, At Q x i p → (∀ j < i, ∀ q, Q[j]? = some q → x ∉ q) → A = i) : Fun Try.prog 38 [sS Q, vi x] (vi A) := by
  (refine LCalls.enter Try.func38 rfl (by simp [Try.ntmps38]) (LK.start ?_); simp only [Try.ntmps38, enterA, Nat.zero_add])
  (repeat' first | refine LOps.done ?_ | (apply LOps.mv; (focus (first | exact Goes.free | exact Goes.on rfl rfl (by with_reducible rfl) true (by decide))); (focus (exact rfl)); (focus (exact rfl))) | (apply LOps.loc; (focus (first | exact Goes.free | exact Goes.on rfl rfl (by with_reducible rfl) true (by decide))); (focus (exact rfl)); (focus (exact rfl)); (focus (simp only [go_sem, ↓reduceIte]; with_reducible rfl))) | refine LK.seq ?_ | refine LK.block ?_ | refine LK.regc ?_ | fail)
  refine LK.loop (fun i : Nat => Q.length - i) (fun i => i ≤ Q.length ∧ ∀ j < i, ∀ q, Q[j]? = some q → x ∉ q) (fun i => ⟨28, [(1, vi x), (9, sS Q), (10, vi Q.length), (11, vi i)]⟩) (fun _ => []) 0 ⟨Nat.zero_le _, fun j h => absurd h (Nat.not_lt_zero _)⟩ (Sub.by rfl rfl (by first | rfl | (simp only [subB, MB_all_under, MI_all_under, MB_all_idp, MI_all_idp, oF_under, oF_idp, oF_all_under, oF_all_idp, MB_under, MI_under, MB_idp, MI_idp, evOk, ovOk, nvOk, keepOf, vis, LV.under, LV.unders, LV.idp, LV.idps, LO.under, LO.idp, under_pv, idp_pv, List.all_cons, List.all_nil, List.any_cons, List.any_nil, Nat.reduceBEq, beq_self_eq_true, Bool.and_true, Bool.true_and, Bool.or_true, Bool.true_or, Bool.or_false, Bool.false_or, decide_true, decide_false, Nat.reduceLT, Nat.reduceLeDiff, Nat.le_refl, Nat.reduceAdd, Bool.and_self, Bool.or_self]; done))) ?_
  rintro i ⟨hi, hx⟩ J hJ
  rcases Nat.lt_or_ge i Q.length with hlt | hge
  · obtain ⟨q, hqi⟩ := idx_all hlt
    have h1 : ((i : Int) < (Q.length : Int)) := by omega
    have hql := hq q (List.mem_of_getElem? hqi)
    have hw := wrapn (n := i) (by omega)
    have hcl := castL_len q
    have hcs := cS_eq q
    (repeat' first | refine LOps.done ?_ | (apply LOps.mv; (focus (first | exact Goes.free | exact Goes.on rfl rfl (by with_reducible rfl) true (by decide))); (focus (exact rfl)); (focus (exact rfl))) | (apply LOps.asg; (focus (first | exact Goes.free | exact Goes.on rfl rfl (by with_reducible rfl) true (by decide))); (focus (exact rfl)); (focus (exact rfl))) | (apply LOps.loc; (focus (first | exact Goes.free | exact Goes.on rfl rfl (by with_reducible rfl) true (by decide))); (focus (exact rfl)); (focus (exact rfl)); (focus (simp only [go_sem, ↓reduceIte, Nat.reduceEqDiff, Nat.reduceLT, h1, hqi, hcl, hcs]; with_reducible rfl))) | refine LK.seq ?_ | refine LK.skip ?_ | refine LK.block ?_ | (apply LK.condT2; (focus (exact rfl)); (focus (with_reducible rfl)); (focus (first | with_reducible rfl | decide | (with_reducible exact Bool.true_or _) | (with_reducible exact congrArg (fun b => b || _) (Bool.true_or _))))) | refine LK.regc ?_ | fail)
    refine LK.loop (fun k : Nat => q.length - k) (fun k => k ≤ q.length ∧ x ∉ q.take k) (fun k => ⟨28, [(1, vi x), (5, vi i), (9, sS Q), (10, vi Q.length), (11, vi i), (16, sI (castL q)), (17, vi q.length), (18, vi k)]⟩) (fun _ => []) 0 ⟨Nat.zero_le _, by simp⟩ (Sub.by rfl rfl (by first | rfl | (simp only [subB, MB_all_under, MI_all_under, MB_all_idp, MI_all_idp, oF_under, oF_idp, oF_all_under, oF_all_idp, MB_under, MI_under, MB_idp, MI_idp, evOk, ovOk, nvOk, keepOf, vis, LV.under, LV.unders, LV.idp, LV.idps, LO.under, LO.idp, under_pv, idp_pv, List.all_cons, List.all_nil, List.any_cons, List.any_nil, Nat.reduceBEq, beq_self_eq_true, Bool.and_true, Bool.true_and, Bool.or_true, Bool.true_or, Bool.or_false, Bool.false_or, decide_true, decide_false, Nat.reduceLT, Nat.reduceLeDiff, Nat.le_refl, Nat.reduceAdd, Bool.and_self, Bool.or_self]; done))) ?_
    rintro k ⟨hk, hxk⟩ J2 hJ2
    rcases Nat.lt_or_ge k q.length with klt | kge
    · obtain ⟨z, hz⟩ := idx_all klt
      have h2 : ((k : Int) < (q.length : Int)) := by omega
      have hcx : (castL q)[k]? = some (z : Int) := by rw [castL, List.getElem?_map, hz]; rfl
      have hw2 := wrapn (n := k) (by omega)
      by_cases e : z = x
      · subst e
        have e1 : ((z : Int) == (z : Int)) = true := by simp
        obtain rfl := hat i (q.take k) ⟨q.drop (k + 1), by rw [hqi, ← drop_step hz, List.take_append_drop]⟩ hx
        (repeat' first | refine LOps.done ?_ | (apply LOps.mv; (focus (first | exact Goes.free | exact Goes.on rfl rfl (by with_reducible rfl) true (by decide))); (focus (exact rfl)); (focus (exact rfl))) | (apply LOps.asg; (focus (first | exact Goes.free | exact Goes.on rfl rfl (by with_reducible rfl) true (by decide))); (focus (exact rfl)); (focus (exact rfl))) | (apply LOps.loc; (focus (first | exact Goes.free | exact Goes.on rfl rfl (by with_reducible rfl) true (by decide))); (focus (exact rfl)); (focus (exact rfl)); (focus (simp only [go_sem, ↓reduceIte, Nat.reduceEqDiff, Nat.reduceLT, h2, hcx, hcl, e1]; with_reducible rfl))) | refine LK.seq ?_ | refine LK.skip ?_ | refine LK.block ?_ | refine LK.ret' ?_ | (apply LK.condT2; (focus (exact rfl)); (focus (with_reducible rfl)); (focus (first | with_reducible rfl | decide | (with_reducible exact Bool.true_or _) | (with_reducible exact congrArg (fun b => b || _) (Bool.true_or _))))) | refine LK.regc ?_ | (apply retQ; (focus (first | exact lres_one rfl | exact lres_more rfl | (simp only [lres, lresv, Try.results38, go_sem, ↓reduceIte, Nat.reduceEqDiff, reduceCtorEq, Nat.reduceLT, Nat.reduceAdd, Int.reduceBEq, Int.reduceBNe, Int.reduceEq, Int.reduceLE, Int.reduceLT, Int.reduceToNat, Nat.reduceLeDiff, Nat.reduceMul, Nat.reduceSub, h2, hcx, hcl, klt, e1]; exact rfl)))) | fail)
        all_goals rfl
      · have e1 : ((z : Int) == (x : Int)) = false := by rw [beq_eq_false_iff_ne]; omega
        (repeat' first | refine LOps.done ?_ | (apply LOps.mv; (focus (first | exact Goes.free | exact Goes.on rfl rfl (by with_reducible rfl) true (by decide))); (focus (exact rfl)); (focus (exact rfl))) | (apply LOps.asg; (focus (first | exact Goes.free | exact Goes.on rfl rfl (by with_reducible rfl) true (by decide))); (focus (exact rfl)); (focus (exact rfl))) | (apply LOps.loc; (focus (first | exact Goes.free | exact Goes.on rfl rfl (by with_reducible rfl) true (by decide))); (focus (exact rfl)); (focus (exact rfl)); (focus (simp only [go_sem, ↓reduceIte, Nat.reduceEqDiff, Nat.reduceLT, h2, hcx, hcl, e1, hw2]; with_reducible rfl))) | refine LK.seq ?_ | refine LK.skip ?_ | refine LK.block ?_ | refine LK.blk ?_ | refine LK.fin ?_ | (apply LK.condT2; (focus (exact rfl)); (focus (with_reducible rfl)); (focus (first | with_reducible rfl | decide | (with_reducible exact Bool.true_or _) | (with_reducible exact congrArg (fun b => b || _) (Bool.true_or _))))) | (apply LK.condF2; (focus (exact rfl)); (focus (with_reducible rfl)); (focus (first | with_reducible rfl | decide | (with_reducible exact Bool.false_and _) | (with_reducible exact congrArg (fun b => b && _) (Bool.false_and _))))) | refine LK.regc ?_ | fail)
        apply hJ2
        refine ⟨k + 1, ⟨klt, ?_⟩, by omega, (Sub.by rfl rfl (by first | rfl | (simp only [subB, MB_all_under, MI_all_under, MB_all_idp, MI_all_idp, oF_under, oF_idp, oF_all_under, oF_all_idp, MB_under, MI_under, MB_idp, MI_idp, evOk, ovOk, nvOk, keepOf, vis, LV.under, LV.unders, LV.idp, LV.idps, LO.under, LO.idp, under_pv, idp_pv, List.all_cons, List.all_nil, List.any_cons, List.any_nil, Nat.reduceBEq, beq_self_eq_true, Bool.and_true, Bool.true_and, Bool.or_true, Bool.true_or, Bool.or_false, Bool.false_or, decide_true, decide_false, Nat.reduceLT, Nat.reduceLeDiff, Nat.le_refl, Nat.reduceAdd, Bool.and_self, Bool.or_self]; done)))⟩
        rw [List.take_add_one, hz]
        simp only [Option.toList_some, List.mem_append, List.mem_singleton, not_or]
        exact ⟨hxk, fun h => e h.symm⟩
    · have h2 : ¬ ((k : Int) < (q.length : Int)) := by omega
      rw [List.take_of_length_le kge] at hxk
      (repeat' first | refine LOps.done ?_ | (apply LOps.mv; (focus (first | exact Goes.free | exact Goes.on rfl rfl (by with_reducible rfl) true (by decide))); (focus (exact rfl)); (focus (exact rfl))) | (apply LOps.loc; (focus (first | exact Goes.free | exact Goes.on rfl rfl (by with_reducible rfl) true (by decide))); (focus (exact rfl)); (focus (exact rfl)); (focus (simp only [go_sem, ↓reduceIte, Nat.reduceEqDiff, h2, hw]; with_reducible rfl))) | refine LK.seq ?_ | refine LK.blk ?_ | refine LK.fin ?_ | refine LK.exit' rfl ?_ | (apply LK.condF2; (focus (exact rfl)); (focus (with_reducible rfl)); (focus (first | with_reducible rfl | decide | (with_reducible exact Bool.false_and _) | (with_reducible exact congrArg (fun b => b && _) (Bool.false_and _))))) | refine LK.regc ?_ | fail)
      apply hJ
      refine ⟨i + 1, ⟨hlt, fun j hj u hu => ?_⟩, by omega, (Sub.by rfl rfl (by first | rfl | (simp only [subB, MB_all_under, MI_all_under, MB_all_idp, MI_all_idp, oF_under, oF_idp, oF_all_under, oF_all_idp, MB_under, MI_under, MB_idp, MI_idp, evOk, ovOk, nvOk, keepOf, vis, LV.under, LV.unders, LV.idp, LV.idps, LO.under, LO.idp, under_pv, idp_pv, List.all_cons, List.all_nil, List.any_cons, List.any_nil, Nat.reduceBEq, beq_self_eq_true, Bool.and_true, Bool.true_and, Bool.or_true, Bool.true_or, Bool.or_false, Bool.false_or, decide_true, decide_false, Nat.reduceLT, Nat.reduceLeDiff, Nat.le_refl, Nat.reduceAdd, Bool.and_self, Bool.or_self]; done)))⟩
      by_cases e : j = i
      · subst e; rw [hqi] at hu; obtain rfl := Option.some.inj hu; exact hxk
      · exact hx j (by omega) u hu
  · have h1 : ¬ ((i : Int) < (Q.length : Int)) := by omega
    obtain rfl := hno fun hm => by
      obtain ⟨j, q, hj, hmq⟩ := mem_fl.1 hm
      exact hx j (by have := lt_of_get hj; omega) q hj hmq
    (repeat' first | refine LOps.done ?_ | (apply LOps.loc; (focus (first | exact Goes.free | exact Goes.on rfl rfl (by with_reducible rfl) true (by decide))); (focus (exact rfl)); (focus (exact rfl)); (focus (simp only [go_sem, ↓reduceIte, Nat.reduceEqDiff, h1]; with_reducible rfl))) | refine LK.seq ?_ | refine LK.ret' ?_ | refine LK.exit' rfl ?_ | (apply LK.condF2; (focus (exact rfl)); (focus (with_reducible rfl)); (focus (first | with_reducible rfl | decide | (with_reducible exact Bool.false_and _) | (with_reducible exact congrArg (fun b => b && _) (Bool.false_and _))))) | refine LK.regc ?_ | (apply retQ; (focus (first | exact lres_one rfl | exact lres_more rfl | (simp only [lres, lresv, Try.results38, go_sem, ↓reduceIte, Nat.reduceEqDiff, reduceCtorEq, Nat.reduceLT, Nat.reduceAdd, Int.reduceBEq, Int.reduceBNe, Int.reduceEq, Int.reduceLE, Int.reduceLT, Int.reduceToNat, Nat.reduceLeDiff, Nat.reduceMul, Nat.reduceSub, h1]; exact rfl)))) | fail)
    all_goals rfl
theorem Ch.bd {n h t : List Int} {Q : List (List Nat)} (c : Ch n h t Q) : Q.length ≤ 256 ∧ ∀ q ∈ Q, q.length ≤ 1024 := by
  refine ⟨by have := c.b.2.2.1; have := c.r.lh; omega, fun q hq => ?_⟩
  obtain ⟨i, hi⟩ := List.mem_iff_getElem?.1 hq
  have := (c.r.le hi).1
  have := c.b.1
  omega
theorem rwhere_at {n h t : List Int} {Q : List (List Nat)} (c : Ch n h t Q) {x i : Nat} {p : List Nat} (ha : At Q x i p) : Fun Try.prog 38 [sS Q, vi x] (vi i) :=
  rwhere_all Q x i c.bd.1 c.bd.2 (fun hn => absurd ha.mem hn) fun j q hj _ => by obtain ⟨rfl, rfl⟩ := ha.unique c.r.nodup hj; rfl
theorem rwhere_no {n h t : List Int} {Q : List (List Nat)} (c : Ch n h t Q) {x : Nat} (ha : x ∉ Q.flatten) : Fun Try.prog 38 [sS Q, vi x] (vi (-1)) :=
  rwhere_all Q x (-1) c.bd.1 c.bd.2 (fun _ => rfl) fun j q hj _ => absurd hj.mem ha
set_option maxHeartbeats 4000000 in
set_option maxRecDepth 20000 in
theorem rsame_fun (n h t n2 h2 t2 : List Int) (q1 : n.length ≤ 100000) (q2 : h.length ≤ 100000) (q3 : t.length ≤ 100000) : Fun Try.prog 24 [cv n h t, cv n2 h2 t2] (vb (decide (n = n2) && decide (h = h2) && decide (t = t2))) := by
  have e1 := req_fun n n2 q1
  have e2 := req_fun h h2 q2
  have e3 := req_fun t t2 q3
  (refine LCalls.enter Try.func24 rfl (by simp [Try.ntmps24]) (LK.start ?_); simp only [Try.ntmps24, enterA, Nat.zero_add])
  (repeat' first | refine LOps.done ?_ | (apply LOps.mv; (focus (first | exact Goes.free | exact Goes.on rfl rfl (by with_reducible rfl) true (by decide))); (focus (exact rfl)); (focus (exact rfl))) | (apply LOps.asg; (focus (first | exact Goes.free | exact Goes.on rfl rfl (by with_reducible rfl) true (by decide))); (focus (exact rfl)); (focus (exact rfl))) | (apply LOps.loc; (focus (first | exact Goes.free | exact Goes.on rfl rfl (by with_reducible rfl) true (by decide))); (focus (exact rfl)); (focus (exact rfl)); (focus (simp only [go_sem, ↓reduceIte, Nat.reduceEqDiff, reduceCtorEq, Nat.reduceLT, Nat.reduceAdd]; with_reducible rfl))) | (apply LOps.pass; (focus (first | exact Goes.on rfl rfl (by with_reducible rfl) false (by decide) | exact Goes.undef rfl rfl (by with_reducible rfl))); (focus (exact rfl))) | (apply LOps.scEnd; (focus (exact rfl)); (focus (with_reducible rfl))) | refine LK.seq ?_ | refine LK.ret' ?_ | refine LK.regc ?_ | (apply retQ; (focus (first | exact lres_one rfl | exact lres_more rfl | (simp only [lres, lresv, Try.results24, go_sem, ↓reduceIte, Nat.reduceEqDiff, reduceCtorEq, Nat.reduceLT, Nat.reduceAdd, Int.reduceBEq, Int.reduceBNe, Int.reduceEq, Int.reduceLE, Int.reduceLT, Int.reduceToNat, Nat.reduceLeDiff, Nat.reduceMul, Nat.reduceSub]; exact rfl)))) | (apply LOps.locFn; (focus (first | exact Goes.free | exact Goes.on rfl rfl (by with_reducible rfl) true (by decide))); (focus (exact rfl)); (focus (exact rfl)); (focus (simp only [go_sem, ↓reduceIte, Nat.reduceEqDiff]; exact rfl)); (focus (simp only [go_sem])); (focus (first | exact e1 | exact e2 | exact e3)); (focus (first | rfl | simp [go_sem])); (focus (first | rfl | simp [go_sem]))) | (apply LOps.and2; exact rfl; exact rfl; exact rfl; exact rfl; exact rfl; (focus (with_reducible rfl)); (focus (first | kernel_rfl | rfl))) | refine Under.mk (fun hg => ?_) | fail)
  all_goals rfl
end Go.Proofs.Ytlikcejcdnkncaa
