/- The walks of chapter 17: counted, fits, Check. -/
import Derived.Test.YtnfmkijakhpgbaaI1
set_option linter.unusedSimpArgs false
set_option linter.unusedVariables false
namespace Go.Proofs.Ytnfmkijakhpgbaa
open Go.Lw
attribute [local irreducible] LK LOps LW
abbrev tv4 (a b c d : Nat) : LV := .agg [vi a, vi b, vi c, vi d]
theorem n4 : ((4 : Nat) : Int) = 4 := rfl
theorem wrapc {n m : Nat} (h : n ≤ m) (hm : m ≤ 100000) : IntKind.i64.wrap ((n : Int) + 1) = ((n + 1 : Nat) : Int) := wrapn (by omega)
set_option maxHeartbeats 4000000 in
set_option maxRecDepth 10000 in
theorem counted_ok (a s : List Int) (hl : a.length ≤ 100000) (hr : inR a) : Fun Try.prog 27 [dv a s] (.tup [tv4 (num a 0) (num a 1) (num a 2) (num a 3), vb true]) := by
  (refine LCalls.enter Try.func27 rfl (by simp [Try.ntmps27]) (LK.start ?_); simp only [Try.ntmps27, enterA])
  (repeat' first | refine LOps.done ?_ | (apply LOps.loc; (focus (first | exact Goes.free | exact Goes.on rfl rfl (by with_reducible rfl) true (by decide))); (focus (exact rfl)); (focus (exact rfl)); (focus (simp only [go_sem, ↓reduceIte, reduceCtorEq, Nat.reduceLT, Nat.reduceAdd]; with_reducible rfl))) | refine LK.seq ?_ | refine LK.block ?_ | refine LK.regc ?_ | fail)
  refine LK.loop (fun k : Nat => a.length - k) (fun k => k ≤ a.length) (fun k => ⟨27, [(2, .ptr 1 1 0 0), (7, sI a), (8, vi a.length), (9, vi k)]⟩) (fun k => [(1, .arr 4 [[vi (num (a.take k) 0 : Nat), vi (num (a.take k) 1 : Nat), vi (num (a.take k) 2 : Nat), vi (num (a.take k) 3 : Nat)]])]) 0 (Nat.zero_le _) (by dsimp only [List.take_zero]; exact (Sub.by rfl rfl (by first | rfl | (simp only [subB, MB_all_under, MI_all_under, MB_all_idp, MI_all_idp, oF_under, oF_idp, oF_all_under, oF_all_idp, MB_under, MI_under, MB_idp, MI_idp, evOk, ovOk, nvOk, keepOf, vis, LV.under, LV.unders, LV.idp, LV.idps, LO.under, LO.idp, under_pv, idp_pv, List.all_cons, List.all_nil, List.any_cons, List.any_nil, Nat.reduceBEq, beq_self_eq_true, Bool.and_true, Bool.true_and, Bool.or_true, Bool.true_or, Bool.or_false, Bool.false_or, decide_true, decide_false, Nat.reduceLT, Nat.reduceLeDiff, Nat.le_refl, Nat.reduceAdd, Bool.and_self, Bool.or_self]; done)))) ?_
  intro k hk J hJ
  rcases Nat.lt_or_ge k a.length with hlt | hge
  · obtain ⟨x, hx⟩ := idx_all hlt
    have h1 : ((k : Int) < (a.length : Int)) := by omega
    have hw := wrapn (n := k) (by omega)
    have hxr := hr x (List.mem_of_getElem? hx)
    have e := num_step hx
    have l0 := num_take_le a k 0
    have l1 := num_take_le a k 1
    have l2 := num_take_le a k 2
    have l3 := num_take_le a k 3
    have w0 := wrapc l0 (by omega)
    have w1 := wrapc l1 (by omega)
    have w2 := wrapc l2 (by omega)
    have w3 := wrapc l3 (by omega)
    have e0 := e 0
    have e1 := e 1
    have e2 := e 2
    have e3 := e 3
    have hc : x = 0 ∨ x = 1 ∨ x = 2 ∨ x = 3 := by omega
    rcases hc with rfl | rfl | rfl | rfl <;>
    · simp at e0 e1 e2 e3
      (repeat' first | refine LOps.done ?_ | (apply LOps.mv; (focus (first | exact Goes.free | exact Goes.on rfl rfl (by with_reducible rfl) true (by decide))); (focus (exact rfl)); (focus (exact rfl))) | (apply LOps.asg; (focus (first | exact Goes.free | exact Goes.on rfl rfl (by with_reducible rfl) true (by decide))); (focus (exact rfl)); (focus (exact rfl))) | (apply LOps.loc; (focus (first | exact Goes.free | exact Goes.on rfl rfl (by with_reducible rfl) true (by decide))); (focus (exact rfl)); (focus (exact rfl)); (focus (simp only [go_sem, ↓reduceIte, Nat.reduceEqDiff, Nat.reduceLT, Int.reduceLE, Int.reduceLT, Int.reduceToNat, h1, hx, hw, w0, w1, w2, w3, n4, Int.reduceGT]; with_reducible rfl))) | (apply LOps.loc0; (focus (first | exact Goes.free | exact Goes.on rfl rfl (by with_reducible rfl) true (by decide))); (focus (exact rfl)); (focus (simp only [go_sem, ↓reduceIte, Nat.reduceEqDiff, Nat.reduceLT, Nat.reduceAdd, Nat.reduceLeDiff]; with_reducible rfl))) | refine LK.seq ?_ | refine LK.skip ?_ | refine LK.block ?_ | refine LK.blk ?_ | refine LK.fin ?_ | (apply LK.condT2; (focus (exact rfl)); (focus (with_reducible rfl)); (focus (first | with_reducible rfl | decide | (with_reducible exact Bool.true_or _) | (with_reducible exact congrArg (fun b => b || _) (Bool.true_or _))))) | (apply LK.condF2; (focus (exact rfl)); (focus (with_reducible rfl)); (focus (first | with_reducible rfl | decide | (with_reducible exact Bool.false_and _) | (with_reducible exact congrArg (fun b => b && _) (Bool.false_and _))))) | refine LK.regc ?_ | fail)
      apply hJ
      refine ⟨k + 1, hlt, by omega, ?_⟩
      dsimp only
      rw [e0, e1, e2, e3]
      exact (Sub.by rfl rfl (by first | rfl | (simp only [subB, MB_all_under, MI_all_under, MB_all_idp, MI_all_idp, oF_under, oF_idp, oF_all_under, oF_all_idp, MB_under, MI_under, MB_idp, MI_idp, evOk, ovOk, nvOk, keepOf, vis, LV.under, LV.unders, LV.idp, LV.idps, LO.under, LO.idp, under_pv, idp_pv, List.all_cons, List.all_nil, List.any_cons, List.any_nil, Nat.reduceBEq, beq_self_eq_true, Bool.and_true, Bool.true_and, Bool.or_true, Bool.true_or, Bool.or_false, Bool.false_or, decide_true, decide_false, Nat.reduceLT, Nat.reduceLeDiff, Nat.le_refl, Nat.reduceAdd, Bool.and_self, Bool.or_self]; done)))
  · have h1 : ¬ ((k : Int) < (a.length : Int)) := by omega
    obtain rfl : k = a.length := by omega
    dsimp only
    rw [List.take_length]
    (repeat' first | refine LOps.done ?_ | (apply LOps.loc; (focus (first | exact Goes.free | exact Goes.on rfl rfl (by with_reducible rfl) true (by decide))); (focus (exact rfl)); (focus (exact rfl)); (focus (simp only [go_sem, ↓reduceIte, Nat.reduceEqDiff, Nat.reduceAdd, h1]; with_reducible rfl))) | (apply LOps.loc0; (focus (first | exact Goes.free | exact Goes.on rfl rfl (by with_reducible rfl) true (by decide))); (focus (exact rfl)); (focus (simp only [go_sem, ↓reduceIte, Nat.reduceEqDiff, Nat.reduceLT, Nat.reduceAdd]; with_reducible rfl))) | refine LK.seq ?_ | refine LK.ret' ?_ | refine LK.exit' rfl ?_ | (apply LK.condF2; (focus (exact rfl)); (focus (with_reducible rfl)); (focus (first | with_reducible rfl | decide | (with_reducible exact Bool.false_and _) | (with_reducible exact congrArg (fun b => b && _) (Bool.false_and _))))) | refine LK.regc ?_ | (apply retQ; (focus (first | exact lres_one rfl | exact lres_more rfl | (simp only [lres, lresv, Try.results27, go_sem, ↓reduceIte, Nat.reduceEqDiff, Nat.reduceAdd]; exact rfl)))) | fail)
    all_goals rfl
set_option maxHeartbeats 4000000 in
set_option maxRecDepth 10000 in
theorem counted_bad (a s : List Int) (hl : a.length ≤ 100000) (hr : ¬ inR a) : Fun Try.prog 27 [dv a s] (.tup [tv4 0 0 0 0, vb false]) := by
  (refine LCalls.enter Try.func27 rfl (by simp [Try.ntmps27]) (LK.start ?_); simp only [Try.ntmps27, enterA])
  (repeat' first | refine LOps.done ?_ | (apply LOps.loc; (focus (first | exact Goes.free | exact Goes.on rfl rfl (by with_reducible rfl) true (by decide))); (focus (exact rfl)); (focus (exact rfl)); (focus (simp only [go_sem, ↓reduceIte, reduceCtorEq, Nat.reduceLT, Nat.reduceAdd]; with_reducible rfl))) | refine LK.seq ?_ | refine LK.block ?_ | refine LK.regc ?_ | fail)
  refine LK.loop (fun k : Nat => a.length - k) (fun k => k ≤ a.length ∧ ∀ x ∈ a.take k, 0 ≤ x ∧ x ≤ 3) (fun k => ⟨27, [(2, .ptr 1 1 0 0), (7, sI a), (8, vi a.length), (9, vi k)]⟩) (fun k => [(1, .arr 4 [[vi (num (a.take k) 0 : Nat), vi (num (a.take k) 1 : Nat), vi (num (a.take k) 2 : Nat), vi (num (a.take k) 3 : Nat)]])]) 0 ⟨Nat.zero_le _, by simp⟩ (by dsimp only [List.take_zero]; exact (Sub.by rfl rfl (by first | rfl | (simp only [subB, MB_all_under, MI_all_under, MB_all_idp, MI_all_idp, oF_under, oF_idp, oF_all_under, oF_all_idp, MB_under, MI_under, MB_idp, MI_idp, evOk, ovOk, nvOk, keepOf, vis, LV.under, LV.unders, LV.idp, LV.idps, LO.under, LO.idp, under_pv, idp_pv, List.all_cons, List.all_nil, List.any_cons, List.any_nil, Nat.reduceBEq, beq_self_eq_true, Bool.and_true, Bool.true_and, Bool.or_true, Bool.true_or, Bool.or_false, Bool.false_or, decide_true, decide_false, Nat.reduceLT, Nat.reduceLeDiff, Nat.le_refl, Nat.reduceAdd, Bool.and_self, Bool.or_self]; done)))) ?_
  rintro k ⟨hk, hin⟩ J hJ
  rcases Nat.lt_or_ge k a.length with hlt | hge
  · obtain ⟨x, hx⟩ := idx_all hlt
    have h1 : ((k : Int) < (a.length : Int)) := by omega
    have hw := wrapn (n := k) (by omega)
    by_cases hxr : 0 ≤ x ∧ x ≤ 3
    · have e := num_step hx
      have l0 := num_take_le a k 0
      have l1 := num_take_le a k 1
      have l2 := num_take_le a k 2
      have l3 := num_take_le a k 3
      have w0 := wrapc l0 (by omega)
      have w1 := wrapc l1 (by omega)
      have w2 := wrapc l2 (by omega)
      have w3 := wrapc l3 (by omega)
      have e0 := e 0
      have e1 := e 1
      have e2 := e 2
      have e3 := e 3
      have hin2 : ∀ y ∈ a.take (k + 1), 0 ≤ y ∧ y ≤ 3 := by
        intro y hy
        rw [List.take_add_one, hx, Option.toList_some, List.mem_append, List.mem_singleton] at hy
        rcases hy with hy | rfl
        · exact hin y hy
        · exact hxr
      have hc : x = 0 ∨ x = 1 ∨ x = 2 ∨ x = 3 := by omega
      rcases hc with rfl | rfl | rfl | rfl <;>
      · simp at e0 e1 e2 e3
        (repeat' first | refine LOps.done ?_ | (apply LOps.mv; (focus (first | exact Goes.free | exact Goes.on rfl rfl (by with_reducible rfl) true (by decide))); (focus (exact rfl)); (focus (exact rfl))) | (apply LOps.asg; (focus (first | exact Goes.free | exact Goes.on rfl rfl (by with_reducible rfl) true (by decide))); (focus (exact rfl)); (focus (exact rfl))) | (apply LOps.loc; (focus (first | exact Goes.free | exact Goes.on rfl rfl (by with_reducible rfl) true (by decide))); (focus (exact rfl)); (focus (exact rfl)); (focus (simp only [go_sem, ↓reduceIte, Nat.reduceEqDiff, Nat.reduceLT, Int.reduceLE, Int.reduceLT, Int.reduceToNat, h1, hx, hw, w0, w1, w2, w3, n4, Int.reduceGT]; with_reducible rfl))) | (apply LOps.loc0; (focus (first | exact Goes.free | exact Goes.on rfl rfl (by with_reducible rfl) true (by decide))); (focus (exact rfl)); (focus (simp only [go_sem, ↓reduceIte, Nat.reduceEqDiff, Nat.reduceLT, Nat.reduceAdd, Nat.reduceLeDiff]; with_reducible rfl))) | refine LK.seq ?_ | refine LK.skip ?_ | refine LK.block ?_ | refine LK.blk ?_ | refine LK.fin ?_ | (apply LK.condT2; (focus (exact rfl)); (focus (with_reducible rfl)); (focus (first | with_reducible rfl | decide | (with_reducible exact Bool.true_or _) | (with_reducible exact congrArg (fun b => b || _) (Bool.true_or _))))) | (apply LK.condF2; (focus (exact rfl)); (focus (with_reducible rfl)); (focus (first | with_reducible rfl | decide | (with_reducible exact Bool.false_and _) | (with_reducible exact congrArg (fun b => b && _) (Bool.false_and _))))) | refine LK.regc ?_ | fail)
        apply hJ
        refine ⟨k + 1, ⟨hlt, hin2⟩, by omega, ?_⟩
        dsimp only
        rw [e0, e1, e2, e3]
        exact (Sub.by rfl rfl (by first | rfl | (simp only [subB, MB_all_under, MI_all_under, MB_all_idp, MI_all_idp, oF_under, oF_idp, oF_all_under, oF_all_idp, MB_under, MI_under, MB_idp, MI_idp, evOk, ovOk, nvOk, keepOf, vis, LV.under, LV.unders, LV.idp, LV.idps, LO.under, LO.idp, under_pv, idp_pv, List.all_cons, List.all_nil, List.any_cons, List.any_nil, Nat.reduceBEq, beq_self_eq_true, Bool.and_true, Bool.true_and, Bool.or_true, Bool.true_or, Bool.or_false, Bool.false_or, decide_true, decide_false, Nat.reduceLT, Nat.reduceLeDiff, Nat.le_refl, Nat.reduceAdd, Bool.and_self, Bool.or_self]; done)))
    · have hc : (decide (x < 0) || decide (x > 3)) = true := by simp only [Bool.or_eq_true, decide_eq_true_eq]; omega
      (repeat' first | refine LOps.done ?_ | (apply LOps.mv; (focus (first | exact Goes.free | exact Goes.on rfl rfl (by with_reducible rfl) true (by decide))); (focus (exact rfl)); (focus (exact rfl))) | (apply LOps.asg; (focus (first | exact Goes.free | exact Goes.on rfl rfl (by with_reducible rfl) true (by decide))); (focus (exact rfl)); (focus (exact rfl))) | (apply LOps.loc; (focus (first | exact Goes.free | exact Goes.on rfl rfl (by with_reducible rfl) true (by decide))); (focus (exact rfl)); (focus (exact rfl)); (focus (simp only [go_sem, ↓reduceIte, Nat.reduceEqDiff, Nat.reduceLT, h1, hx]; with_reducible rfl))) | (apply LOps.pass; (focus (first | exact Goes.on rfl rfl (by with_reducible rfl) false (by decide) | exact Goes.undef rfl rfl (by with_reducible rfl))); (focus (exact rfl))) | (apply LOps.scEnd; (focus (exact rfl)); (focus (with_reducible rfl))) | refine LK.seq ?_ | refine LK.skip ?_ | refine LK.block ?_ | (apply LK.condT2; (focus (exact rfl)); (focus (with_reducible rfl)); (focus (first | with_reducible rfl | decide | (with_reducible exact Bool.true_or _) | (with_reducible exact congrArg (fun b => b || _) (Bool.true_or _))))) | refine LK.regc ?_ | (apply LOps.or2; exact rfl; exact rfl; exact rfl; exact rfl; exact rfl; (focus (with_reducible rfl)); (focus (first | kernel_rfl | rfl))) | refine Under.mk (fun hg => ?_) | fail)
      refine LK.condT2 rfl (by first | with_reducible rfl | rfl) (hc) ?_
      (repeat' first | refine LOps.done ?_ | (apply LOps.loc; (focus (first | exact Goes.free | exact Goes.on rfl rfl (by with_reducible rfl) true (by decide))); (focus (exact rfl)); (focus (exact rfl)); (focus (simp only [go_sem, ↓reduceIte]; with_reducible rfl))) | (apply LOps.loc0; (focus (first | exact Goes.free | exact Goes.on rfl rfl (by with_reducible rfl) true (by decide))); (focus (exact rfl)); (focus (simp only [go_sem, ↓reduceIte, Nat.reduceEqDiff, Nat.reduceLT, Nat.reduceAdd]; with_reducible rfl))) | refine LK.seq ?_ | refine LK.ret' ?_ | refine LK.regc ?_ | (apply retQ; (focus (first | exact lres_one rfl | exact lres_more rfl | (simp only [lres, lresv, Try.results27, go_sem, ↓reduceIte, Nat.reduceEqDiff, Nat.reduceAdd]; exact rfl)))) | fail)
      all_goals rfl
  · rw [List.take_of_length_le hge] at hin
    exact absurd hin hr
set_option maxHeartbeats 4000000 in
set_option maxRecDepth 10000 in
theorem fits_fun (a b c d : Nat) (h : a ≤ 100000 ∧ b ≤ 100000 ∧ c ≤ 100000) : Fun Try.prog 28 [tv4 a b c d] (vb (decide (2 * b ≤ a + b + c + 1))) := by
  have w1 : IntKind.i64.wrap ((a : Int) + (b : Int)) = ((a + b : Nat) : Int) := by rw [IntKind.wrap_i64]; omega
  have w2 : IntKind.i64.wrap (((a + b : Nat) : Int) + (c : Int)) = ((a + b + c : Nat) : Int) := by rw [IntKind.wrap_i64]; omega
  have w3 : IntKind.i64.wrap (((a + b + c : Nat) : Int) + 1) = ((a + b + c + 1 : Nat) : Int) := by rw [IntKind.wrap_i64]; omega
  have w4 : IntKind.i64.wrap (((a + b + c + 1 : Nat) : Int).tdiv 2) = (((a + b + c + 1) / 2 : Nat) : Int) := by
    rw [show (((a + b + c + 1 : Nat) : Int).tdiv 2) = (((a + b + c + 1) / 2 : Nat) : Int) from rfl, IntKind.wrap_i64]; omega
  (refine LCalls.enter Try.func28 rfl (by simp [Try.ntmps28]) (LK.start ?_); simp only [Try.ntmps28, enterA])
  (repeat' first | refine LOps.done ?_ | (apply LOps.asg; (focus (first | exact Goes.free | exact Goes.on rfl rfl (by with_reducible rfl) true (by decide))); (focus (exact rfl)); (focus (exact rfl))) | (apply LOps.loc; (focus (first | exact Goes.free | exact Goes.on rfl rfl (by with_reducible rfl) true (by decide))); (focus (exact rfl)); (focus (exact rfl)); (focus (simp only [go_sem, ↓reduceIte, Nat.reduceEqDiff, Nat.reduceLT, Nat.reduceAdd, Int.reduceEq, Int.reduceLE, Int.reduceLT, Int.reduceToNat, w1, w2, w3, w4, n4]; with_reducible rfl))) | refine LK.seq ?_ | refine LK.ret' ?_ | refine LK.regc ?_ | (apply retQ; (focus (first | exact lres_one rfl | exact lres_more rfl | (simp only [lres, lresv, Try.results28, go_sem, ↓reduceIte, Nat.reduceEqDiff, reduceCtorEq, Nat.reduceLT, Nat.reduceAdd, Int.reduceBEq, Int.reduceBNe, Int.reduceEq, Int.reduceLE, Int.reduceLT, Int.reduceToNat, Nat.reduceLeDiff, Nat.reduceMul, Nat.reduceSub, w1, w2, w3, w4, n4]; exact rfl)))) | fail)
  all_goals (rw [show decide (2 * b ≤ a + b + c + 1) = decide ((b : Int) ≤ (((a + b + c + 1) / 2 : Nat) : Int)) from decide_eq_decide.2 (by omega)])
end Go.Proofs.Ytnfmkijakhpgbaa
