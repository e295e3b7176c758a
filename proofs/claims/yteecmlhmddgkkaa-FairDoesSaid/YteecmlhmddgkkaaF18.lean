/- Chapter 15: FairDoes. -/
import Derived.Test.YteecmlhmddgkkaaF17
set_option linter.unusedSimpArgs false
set_option linter.unusedVariables false
namespace Go.Proofs.Yteecmlhmddgkkaa
open Go.Lw
attribute [local irreducible] LK LOps LW
def up1 (x : Ten) : Ten := { x with tag := IntKind.i64.wrap (x.tag + 1) }
def inc (w : List Ten) (k : Nat) : List Ten := (w.take k).map up1 ++ w.drop k
theorem inc_zero (w : List Ten) : inc w 0 = w := by simp [inc]
theorem inc_len (w : List Ten) (k : Nat) : (inc w k).length = w.length := by simp [inc]; omega
theorem inc_get {w : List Ten} {k : Nat} {x : Ten} (hx : w[k]? = some x) : (inc w k)[k]? = some x := by
  have hk := lt_of_get hx
  rw [inc, List.getElem?_append_right (by simp; omega)]
  simp only [List.length_map, List.length_take, Nat.min_eq_left (Nat.le_of_lt hk), Nat.sub_self, List.getElem?_drop, Nat.add_zero]
  exact hx
theorem inc_set {w : List Ten} {k : Nat} {x : Ten} (hx : w[k]? = some x) : (inc w k).set k (up1 x) = inc w (k + 1) := by
  have hk := lt_of_get hx
  have e : w.drop k = x :: w.drop (k + 1) := by
    rw [List.drop_eq_getElem_cons hk]
    rw [List.getElem?_eq_getElem hk] at hx
    rw [Option.some.inj hx]
  simp only [inc]
  rw [List.set_append_right _ _ (by simp; omega), List.take_add_one, hx, e]
  simp only [List.length_map, List.length_take, Nat.min_eq_left (Nat.le_of_lt hk), Nat.sub_self, List.set_cons_zero, Option.toList_some, List.map_append, List.map_cons, List.map_nil, List.append_assoc, List.cons_append, List.nil_append]
theorem wkL_len (l : List Ten) (i : Int) (b : List Bool) : (wkL l i b).length ≤ l.length := by
  unfold wkL
  split
  · split
    · split <;> simp
    · exact Nat.le_refl _
  · simp
set_option maxHeartbeats 4000000 in
set_option maxRecDepth 10000 in
theorem does_skip (l : List Ten) (i k0 u : Int) (b : List Bool) (w : Int) (h : 100 < l.length ∨ 100 < b.length) : Fun Try.prog 7 [sT l, vi i, vi k0, vi u, sB b, vi w] (vb true) := by
  have hc : (decide ((l.length : Int) > 100) || decide ((b.length : Int) > 100)) = true := by simp only [Bool.or_eq_true, decide_eq_true_eq]; omega
  (refine LCalls.enter Try.func7 rfl (by simp [Try.ntmps7]) (LK.start ?_); simp only [Try.ntmps7, enterA, Nat.zero_add])
  (repeat' first | refine LOps.done ?_ | (apply LOps.mv; (focus (first | exact Goes.free | exact Goes.on rfl rfl (by with_reducible rfl) true (by decide))); (focus (exact rfl)); (focus (exact rfl))) | (apply LOps.asg; (focus (first | exact Goes.free | exact Goes.on rfl rfl (by with_reducible rfl) true (by decide))); (focus (exact rfl)); (focus (exact rfl))) | (apply LOps.loc; (focus (first | exact Goes.free | exact Goes.on rfl rfl (by with_reducible rfl) true (by decide))); (focus (exact rfl)); (focus (exact rfl)); (focus (simp only [go_sem, ↓reduceIte, Nat.reduceEqDiff, reduceCtorEq]; with_reducible rfl))) | (apply LOps.pass; (focus (first | exact Goes.on rfl rfl (by with_reducible rfl) false (by decide) | exact Goes.undef rfl rfl (by with_reducible rfl))); (focus (exact rfl))) | (apply LOps.scEnd; (focus (exact rfl)); (focus (with_reducible rfl))) | refine LK.seq ?_ | refine LK.skip ?_ | (apply LK.condF2; (focus (exact rfl)); (focus (with_reducible rfl)); (focus (first | with_reducible rfl | decide | (with_reducible exact Bool.false_and _) | (with_reducible exact congrArg (fun b => b && _) (Bool.false_and _))))) | refine LK.regc ?_ | (apply LOps.locFn; (focus (first | exact Goes.free | exact Goes.on rfl rfl (by with_reducible rfl) true (by decide))); (focus (exact rfl)); (focus (exact rfl)); (focus (simp only [go_sem]; exact rfl)); (focus (simp only [go_sem])); (focus (exact live_fun)); (focus (first | rfl | simp [go_sem])); (focus (first | rfl | simp [go_sem]))) | (apply LOps.or2; exact rfl; exact rfl; exact rfl; exact rfl; exact rfl; (focus (with_reducible rfl)); (focus (first | kernel_rfl | rfl))) | refine Under.mk (fun hg => ?_) | fail)
  refine LK.condT2 rfl (by first | with_reducible rfl | rfl) (hc) ?_
  (repeat' first | refine LOps.done ?_ | (apply LOps.mv; (focus (first | exact Goes.free | exact Goes.on rfl rfl (by with_reducible rfl) true (by decide))); (focus (exact rfl)); (focus (exact rfl))) | (apply LOps.asg; (focus (first | exact Goes.free | exact Goes.on rfl rfl (by with_reducible rfl) true (by decide))); (focus (exact rfl)); (focus (exact rfl))) | refine LK.seq ?_ | refine LK.ret' ?_ | refine LK.regc ?_ | (apply retQ; (focus (first | exact lres_one rfl | exact lres_more rfl | (simp only [lres, lresv, Try.results7, go_sem, ↓reduceIte, Nat.reduceEqDiff, reduceCtorEq, Nat.reduceLT, Nat.reduceAdd, Int.reduceBEq, Int.reduceBNe, Int.reduceEq, Int.reduceLE, Int.reduceLT, Int.reduceToNat, Nat.reduceLeDiff, Nat.reduceMul, Nat.reduceSub]; exact rfl)))) | fail)
  all_goals rfl
set_option maxHeartbeats 4000000 in
set_option maxRecDepth 20000 in
theorem does_ok (l : List Ten) (i k0 u : Int) (b : List Bool) (w : Int) (hu : u ≤ 9223372036854775807) (h1 : l.length ≤ 100) (h2 : b.length ≤ 100) (A : List Ten) (m : Nat) (hA : A.length = m) (hm : m ≤ 100)
    (hT : Own Try.prog 11 [sT l, vi i, vi u] (.tup [.own 0 m 0 m, vi 0]) 20 [(0, .arr 5 (oF cT A))])
    (hR : Fun Try.prog 16 [sT l, vi i, vi u] (.tup [sT A, vi 0])) : Fun Try.prog 7 [sT l, vi i, vi k0, vi u, sB b, vi w] (vb true) := by
  have hc : (decide ((l.length : Int) > 100) || decide ((b.length : Int) > 100)) = false := by simp only [Bool.or_eq_false_iff, decide_eq_false_iff_not]; omega
  have hmx : l.length ≤ maxLen ∧ l.length * 40 ≤ 140737488355328 := by simp only [maxLen]; omega
  have hct : A.take m = A := List.take_of_length_le (by omega)
  have q3 := refund_fun l i u (by omega) hu
  have q4 := rrefund_fun l i u (by omega) hu
  have q5 := wake_fun l i b (by omega) (by omega)
  have q6 := rwake_fun l i b (by omega) (by omega)
  have q7 := least_fun l b (by omega) (by omega)
  have q8 := rleast_fun l b (by omega) (by omega)
  have q9 := gap_fun l i k0 (by omega)
  have q10 := rgap_fun l i k0 (by omega)
  have q11 := cost_fun w u hu
  have q12 := rcost_fun w u hu
  have u1 := rsame_fun A A (by omega)
  have u2 := rsame_fun (rfL l i u) (rfL l i u) (by have := rfL_len l i u; omega)
  have u3 := rsame_fun (wkL l i b) (wkL l i b) (by have := wkL_len l i b; omega)
  have u5 := rsame_fun l l (by omega)
  simp only [decide_true] at u1 u2 u3 u5
  generalize rfL l i u = b1 at *
  generalize rfE l i u = b2 at *
  generalize wkL l i b = b3 at *
  generalize wkE l i b = b4 at *
  generalize lsV l b = b5 at *
  generalize lsE l b = b6 at *
  generalize gpV l i k0 = b7 at *
  generalize gpE l i k0 = b8 at *
  generalize coC w u = b9 at *
  generalize coE w u = b10 at *
  (refine LCalls.enter Try.func7 rfl (by simp [Try.ntmps7]) (LK.start ?_); simp only [Try.ntmps7, enterA, Nat.zero_add])
  (repeat' first | refine LOps.done ?_ | (apply LOps.mv; (focus (first | exact Goes.free | exact Goes.on rfl rfl (by with_reducible rfl) true (by decide))); (focus (exact rfl)); (focus (exact rfl))) | (apply LOps.asg; (focus (first | exact Goes.free | exact Goes.on rfl rfl (by with_reducible rfl) true (by decide))); (focus (exact rfl)); (focus (exact rfl))) | (apply LOps.loc; (focus (first | exact Goes.free | exact Goes.on rfl rfl (by with_reducible rfl) true (by decide))); (focus (exact rfl)); (focus (exact rfl)); (focus (simp only [go_sem, ↓reduceIte, Nat.reduceEqDiff, reduceCtorEq]; with_reducible rfl))) | (apply LOps.pass; (focus (first | exact Goes.on rfl rfl (by with_reducible rfl) false (by decide) | exact Goes.undef rfl rfl (by with_reducible rfl))); (focus (exact rfl))) | (apply LOps.scEnd; (focus (exact rfl)); (focus (with_reducible rfl))) | refine LK.seq ?_ | refine LK.skip ?_ | (apply LK.condF2; (focus (exact rfl)); (focus (with_reducible rfl)); (focus (first | with_reducible rfl | decide | (with_reducible exact Bool.false_and _) | (with_reducible exact congrArg (fun b => b && _) (Bool.false_and _))))) | refine LK.regc ?_ | (apply LOps.locFn; (focus (first | exact Goes.free | exact Goes.on rfl rfl (by with_reducible rfl) true (by decide))); (focus (exact rfl)); (focus (exact rfl)); (focus (simp only [go_sem]; exact rfl)); (focus (simp only [go_sem])); (focus (exact live_fun)); (focus (first | rfl | simp [go_sem])); (focus (first | rfl | simp [go_sem]))) | (apply LOps.or2; exact rfl; exact rfl; exact rfl; exact rfl; exact rfl; (focus (with_reducible rfl)); (focus (first | kernel_rfl | rfl))) | refine Under.mk (fun hg => ?_) | fail)
  refine LK.condF2 rfl (by first | with_reducible rfl | rfl) (hc) ?_
  (repeat' first | refine LOps.done ?_ | (apply LOps.mv; (focus (first | exact Goes.free | exact Goes.on rfl rfl (by with_reducible rfl) true (by decide))); (focus (exact rfl)); (focus (exact rfl))) | (apply LOps.asg; (focus (first | exact Goes.free | exact Goes.on rfl rfl (by with_reducible rfl) true (by decide))); (focus (exact rfl)); (focus (exact rfl))) | (apply LOps.ext; (focus (first | exact Goes.free | exact Goes.on rfl rfl (by with_reducible rfl) true (by decide))); (focus (exact rfl)); (focus (exact rfl)); (focus (exact rfl))) | (apply LOps.loc; (focus (first | exact Goes.free | exact Goes.on rfl rfl (by with_reducible rfl) true (by decide))); (focus (exact rfl)); (focus (exact rfl)); (focus (simp only [go_sem, ↓reduceIte, Nat.reduceEqDiff, reduceCtorEq, Nat.reduceLT, Nat.reduceAdd, hmx, hA, hct]; with_reducible rfl))) | refine LK.seq ?_ | refine LK.skip ?_ | refine LK.block ?_ | refine LK.regc ?_ | (apply LOps.locFn; (focus (first | exact Goes.free | exact Goes.on rfl rfl (by with_reducible rfl) true (by decide))); (focus (exact rfl)); (focus (exact rfl)); (focus (simp only [go_sem, ↓reduceIte, Nat.reduceEqDiff]; exact rfl)); (focus (simp only [go_sem])); (focus (first | exact Own.at (hT) (by first | rfl | simp [go_sem]) (by first | (simp only [go_sem]; exact rfl) | (simp only [go_sem, ↓reduceIte, Nat.reduceEqDiff, reduceCtorEq, Nat.reduceLT, Nat.reduceAdd, Int.reduceBEq, Int.reduceBNe, Int.reduceEq, Int.reduceLE, Int.reduceLT, Int.reduceToNat, Nat.reduceLeDiff, Nat.reduceMul, Nat.reduceSub, hmx, hA, hct] <;> fail) | exact rfl) (by first | (simp only [go_sem, ↓reduceIte, Nat.reduceEqDiff, reduceCtorEq, Nat.reduceLT, Nat.reduceAdd, Int.reduceBEq, Int.reduceBNe, Int.reduceEq, Int.reduceLE, Int.reduceLT, Int.reduceToNat, Nat.reduceLeDiff, Nat.reduceMul, Nat.reduceSub, hmx, hA, hct]; exact rfl) | (simp only [go_sem, ↓reduceIte, Nat.reduceEqDiff, reduceCtorEq, Nat.reduceLT, Nat.reduceAdd, Int.reduceBEq, Int.reduceBNe, Int.reduceEq, Int.reduceLE, Int.reduceLT, Int.reduceToNat, Nat.reduceLeDiff, Nat.reduceMul, Nat.reduceSub, hmx, hA, hct] <;> fail) | exact rfl) (by first | (simp only [go_sem]; exact rfl) | (simp only [go_sem, ↓reduceIte, Nat.reduceEqDiff, reduceCtorEq, Nat.reduceLT, Nat.reduceAdd, Int.reduceBEq, Int.reduceBNe, Int.reduceEq, Int.reduceLE, Int.reduceLT, Int.reduceToNat, Nat.reduceLeDiff, Nat.reduceMul, Nat.reduceSub, hmx, hA, hct] <;> fail) | exact rfl) | exact hR | exact q3 | exact q4 | exact q5 | exact q6 | exact q7 | exact q8 | exact q9 | exact q10 | exact q11 | exact q12 | exact u1 | exact u2 | exact u3)); (focus (first | rfl | simp [go_sem])); (focus (first | rfl | simp [go_sem]))) | (apply LOps.borrowFn; (focus (first | exact Goes.free | exact Goes.on rfl rfl (by with_reducible rfl) true (by decide))); (focus (exact rfl)); (focus (exact rfl)); (focus (simp only [go_sem, ↓reduceIte, Nat.reduceEqDiff]; exact rfl)); (focus (simp only [go_sem])); (focus (simp only [go_sem, ↓reduceIte, hA, hct]; exact rfl)); (focus (first | exact Own.at (hT) (by first | rfl | simp [go_sem]) (by first | (simp only [go_sem]; exact rfl) | (simp only [go_sem, ↓reduceIte, Nat.reduceEqDiff, reduceCtorEq, Nat.reduceLT, Nat.reduceAdd, Int.reduceBEq, Int.reduceBNe, Int.reduceEq, Int.reduceLE, Int.reduceLT, Int.reduceToNat, Nat.reduceLeDiff, Nat.reduceMul, Nat.reduceSub, hmx, hA, hct] <;> fail) | exact rfl) (by first | (simp only [go_sem, ↓reduceIte, Nat.reduceEqDiff, reduceCtorEq, Nat.reduceLT, Nat.reduceAdd, Int.reduceBEq, Int.reduceBNe, Int.reduceEq, Int.reduceLE, Int.reduceLT, Int.reduceToNat, Nat.reduceLeDiff, Nat.reduceMul, Nat.reduceSub, hmx, hA, hct]; exact rfl) | (simp only [go_sem, ↓reduceIte, Nat.reduceEqDiff, reduceCtorEq, Nat.reduceLT, Nat.reduceAdd, Int.reduceBEq, Int.reduceBNe, Int.reduceEq, Int.reduceLE, Int.reduceLT, Int.reduceToNat, Nat.reduceLeDiff, Nat.reduceMul, Nat.reduceSub, hmx, hA, hct] <;> fail) | exact rfl) (by first | (simp only [go_sem]; exact rfl) | (simp only [go_sem, ↓reduceIte, Nat.reduceEqDiff, reduceCtorEq, Nat.reduceLT, Nat.reduceAdd, Int.reduceBEq, Int.reduceBNe, Int.reduceEq, Int.reduceLE, Int.reduceLT, Int.reduceToNat, Nat.reduceLeDiff, Nat.reduceMul, Nat.reduceSub, hmx, hA, hct] <;> fail) | exact rfl) | exact hR | exact q3 | exact q4 | exact q5 | exact q6 | exact q7 | exact q8 | exact q9 | exact q10 | exact q11 | exact q12 | exact u1 | exact u2 | exact u3)); (focus (first | rfl | simp [go_sem])); (focus (exact rfl))) | ((apply LOps.inline; (focus (first | exact Goes.free | exact Goes.on rfl rfl (by with_reducible rfl) true (by decide))); (focus (exact rfl)); (focus (exact rfl)); (focus (simp only [go_sem, ↓reduceIte, Nat.reduceEqDiff]; exact rfl)); (focus (simp only [go_sem]))); (first | (refine LCalls.mono (by first | exact Own.at (hT) (by first | rfl | simp [go_sem]) (by first | (simp only [go_sem]; exact rfl) | (simp only [go_sem, ↓reduceIte, Nat.reduceEqDiff, reduceCtorEq, Nat.reduceLT, Nat.reduceAdd, Int.reduceBEq, Int.reduceBNe, Int.reduceEq, Int.reduceLE, Int.reduceLT, Int.reduceToNat, Nat.reduceLeDiff, Nat.reduceMul, Nat.reduceSub, hmx, hA, hct] <;> fail) | exact rfl) (by first | (simp only [go_sem, Nat.reduceAdd]; exact rfl) | (simp only [go_sem, ↓reduceIte, Nat.reduceEqDiff, reduceCtorEq, Nat.reduceLT, Nat.reduceAdd, Int.reduceBEq, Int.reduceBNe, Int.reduceEq, Int.reduceLE, Int.reduceLT, Int.reduceToNat, Nat.reduceLeDiff, Nat.reduceMul, Nat.reduceSub, hmx, hA, hct] <;> fail) | exact rfl) (by first | (simp only [go_sem]; exact rfl) | (simp only [go_sem, ↓reduceIte, Nat.reduceEqDiff, reduceCtorEq, Nat.reduceLT, Nat.reduceAdd, Int.reduceBEq, Int.reduceBNe, Int.reduceEq, Int.reduceLE, Int.reduceLT, Int.reduceToNat, Nat.reduceLeDiff, Nat.reduceMul, Nat.reduceSub, hmx, hA, hct] <;> fail) | exact rfl) | exact hR | exact q3 | exact q4 | exact q5 | exact q6 | exact q7 | exact q8 | exact q9 | exact q10 | exact q11 | exact q12 | exact u1 | exact u2 | exact u3) ?_; (rintro _ _ ⟨rfl, rfl⟩)) | fail)) | fail)
  refine LK.loop (fun k : Nat => m - k) (fun k => k ≤ m) (fun k => ⟨216, [(0, sT l), (13, vb true), (14, .own 0 l.length 0 l.length), (15, .own 1 m 0 m), (39, vb true), (194, vi m), (195, vi k)]⟩) (fun k => [(0, .arr 5 (oF cT l)), (1, .arr 5 (oF cT (inc A k)))]) 0 (Nat.zero_le _) (by dsimp only; rw [inc_zero]; exact (Sub.by rfl rfl (by first | rfl | (simp only [subB, oF_all_under, LV.under, LO.under, List.all_cons, List.all_nil, decide_true, Nat.reduceLT, Bool.and_self]; done)))) ?_
  intro k hk J hJ
  have hil : (inc A k).length = m := by rw [inc_len, hA]
  rcases Nat.lt_or_ge k m with hlt | hge
  · obtain ⟨x, hx⟩ := idx_all (show k < A.length by omega)
    have i1 : ((k : Int) < (m : Int)) := by omega
    have hg := inc_get hx
    have hs : (inc A k).set k { w := x.w, q := x.q, v := x.v, tag := IntKind.i64.wrap (x.tag + 1), ran := x.ran } = inc A (k + 1) := inc_set hx
    have hw := wrapn (n := k) (by omega)
    have hp0 : 0 < m := by omega
    (repeat' first | refine LOps.done ?_ | (apply LOps.mv; (focus (first | exact Goes.free | exact Goes.on rfl rfl (by with_reducible rfl) true (by decide))); (focus (exact rfl)); (focus (exact rfl))) | (apply LOps.asg; (focus (first | exact Goes.free | exact Goes.on rfl rfl (by with_reducible rfl) true (by decide))); (focus (exact rfl)); (focus (exact rfl))) | (apply LOps.loc; (focus (first | exact Goes.free | exact Goes.on rfl rfl (by with_reducible rfl) true (by decide))); (focus (exact rfl)); (focus (exact rfl)); (focus (simp only [go_sem, ↓reduceIte, Nat.reduceEqDiff, reduceCtorEq, Nat.reduceLT, i1, hil, hg, hw, hp0]; with_reducible rfl))) | (apply LOps.loc0; (focus (first | exact Goes.free | exact Goes.on rfl rfl (by with_reducible rfl) true (by decide))); (focus (exact rfl)); (focus (simp only [go_sem, ↓reduceIte, Nat.reduceEqDiff, reduceCtorEq, Nat.reduceLT, Nat.reduceAdd, Nat.reduceLeDiff, hil, hg, hs]; with_reducible rfl))) | refine LK.seq ?_ | refine LK.skip ?_ | refine LK.block ?_ | refine LK.blk ?_ | refine LK.fin ?_ | (apply LK.condT2; (focus (exact rfl)); (focus (with_reducible rfl)); (focus (first | with_reducible rfl | decide | (with_reducible exact Bool.true_or _) | (with_reducible exact congrArg (fun b => b || _) (Bool.true_or _))))) | refine LK.regc ?_ | fail)
    apply hJ
    exact ⟨k + 1, hlt, by omega, (Sub.by rfl rfl (by first | rfl | (simp only [subB, oF_all_under, LV.under, LO.under, List.all_cons, List.all_nil, decide_true, Nat.reduceLT, Bool.and_self]; done)))⟩
  · have i1 : ¬ ((k : Int) < (m : Int)) := by omega
    have ht : l.take l.length = l := List.take_of_length_le (Nat.le_refl _)
    (repeat' first | refine LOps.done ?_ | (apply LOps.mv; (focus (first | exact Goes.free | exact Goes.on rfl rfl (by with_reducible rfl) true (by decide))); (focus (exact rfl)); (focus (exact rfl))) | (apply LOps.asg; (focus (first | exact Goes.free | exact Goes.on rfl rfl (by with_reducible rfl) true (by decide))); (focus (exact rfl)); (focus (exact rfl))) | (apply LOps.loc; (focus (first | exact Goes.free | exact Goes.on rfl rfl (by with_reducible rfl) true (by decide))); (focus (exact rfl)); (focus (exact rfl)); (focus (simp only [go_sem, ↓reduceIte, Nat.reduceEqDiff, reduceCtorEq, i1]; with_reducible rfl))) | refine LK.seq ?_ | refine LK.ret' ?_ | refine LK.exit' rfl ?_ | (apply LK.condF2; (focus (exact rfl)); (focus (with_reducible rfl)); (focus (first | with_reducible rfl | decide | (with_reducible exact Bool.false_and _) | (with_reducible exact congrArg (fun b => b && _) (Bool.false_and _))))) | refine LK.regc ?_ | (apply retQ; (focus (first | exact lres_one rfl | exact lres_more rfl | (simp only [lres, lresv, Try.results7, go_sem, ↓reduceIte, Nat.reduceEqDiff, reduceCtorEq, Nat.reduceLT, Nat.reduceAdd, Int.reduceBEq, Int.reduceBNe, Int.reduceEq, Int.reduceLE, Int.reduceLT, Int.reduceToNat, Nat.reduceLeDiff, Nat.reduceMul, Nat.reduceSub, i1, ht]; exact rfl)))) | (apply LOps.borrowFn; (focus (first | exact Goes.free | exact Goes.on rfl rfl (by with_reducible rfl) true (by decide))); (focus (exact rfl)); (focus (exact rfl)); (focus (simp only [go_sem, ↓reduceIte, Nat.reduceEqDiff]; exact rfl)); (focus (simp only [go_sem])); (focus (simp only [go_sem, ↓reduceIte, ht]; exact rfl)); (focus (exact u5)); (focus (first | rfl | simp [go_sem])); (focus (exact rfl))) | fail)
    all_goals rfl
set_option maxHeartbeats 4000000 in
set_option maxRecDepth 20000 in
theorem does_bad (l : List Ten) (i k0 u : Int) (b : List Bool) (w : Int) (hu : u ≤ 9223372036854775807) (h1 : l.length ≤ 100) (h2 : b.length ≤ 100) (e : Int) (hT : Fun Try.prog 11 [sT l, vi i, vi u] (.tup [sT [], vi e])) (hR : Fun Try.prog 16 [sT l, vi i, vi u] (.tup [sT [], vi e])) : Fun Try.prog 7 [sT l, vi i, vi k0, vi u, sB b, vi w] (vb true) := by
  have hc : (decide ((l.length : Int) > 100) || decide ((b.length : Int) > 100)) = false := by simp only [Bool.or_eq_false_iff, decide_eq_false_iff_not]; omega
  have hmx : l.length ≤ maxLen ∧ l.length * 40 ≤ 140737488355328 := by simp only [maxLen]; omega
  have ht : l.take l.length = l := List.take_of_length_le (Nat.le_refl _)
  have q3 := refund_fun l i u (by omega) hu
  have q4 := rrefund_fun l i u (by omega) hu
  have q5 := wake_fun l i b (by omega) (by omega)
  have q6 := rwake_fun l i b (by omega) (by omega)
  have q7 := least_fun l b (by omega) (by omega)
  have q8 := rleast_fun l b (by omega) (by omega)
  have q9 := gap_fun l i k0 (by omega)
  have q10 := rgap_fun l i k0 (by omega)
  have q11 := cost_fun w u hu
  have q12 := rcost_fun w u hu
  have u1 := rsame_fun [] [] (by decide)
  have u2 := rsame_fun (rfL l i u) (rfL l i u) (by have := rfL_len l i u; omega)
  have u3 := rsame_fun (wkL l i b) (wkL l i b) (by have := wkL_len l i b; omega)
  have u5 := rsame_fun l l (by omega)
  simp only [decide_true] at u1 u2 u3 u5
  generalize rfL l i u = b1 at *
  generalize rfE l i u = b2 at *
  generalize wkL l i b = b3 at *
  generalize wkE l i b = b4 at *
  generalize lsV l b = b5 at *
  generalize lsE l b = b6 at *
  generalize gpV l i k0 = b7 at *
  generalize gpE l i k0 = b8 at *
  generalize coC w u = b9 at *
  generalize coE w u = b10 at *
  (refine LCalls.enter Try.func7 rfl (by simp [Try.ntmps7]) (LK.start ?_); simp only [Try.ntmps7, enterA, Nat.zero_add])
  (repeat' first | refine LOps.done ?_ | (apply LOps.mv; (focus (first | exact Goes.free | exact Goes.on rfl rfl (by with_reducible rfl) true (by decide))); (focus (exact rfl)); (focus (exact rfl))) | (apply LOps.asg; (focus (first | exact Goes.free | exact Goes.on rfl rfl (by with_reducible rfl) true (by decide))); (focus (exact rfl)); (focus (exact rfl))) | (apply LOps.loc; (focus (first | exact Goes.free | exact Goes.on rfl rfl (by with_reducible rfl) true (by decide))); (focus (exact rfl)); (focus (exact rfl)); (focus (simp only [go_sem, ↓reduceIte, Nat.reduceEqDiff, reduceCtorEq]; with_reducible rfl))) | (apply LOps.pass; (focus (first | exact Goes.on rfl rfl (by with_reducible rfl) false (by decide) | exact Goes.undef rfl rfl (by with_reducible rfl))); (focus (exact rfl))) | (apply LOps.scEnd; (focus (exact rfl)); (focus (with_reducible rfl))) | refine LK.seq ?_ | refine LK.skip ?_ | (apply LK.condF2; (focus (exact rfl)); (focus (with_reducible rfl)); (focus (first | with_reducible rfl | decide | (with_reducible exact Bool.false_and _) | (with_reducible exact congrArg (fun b => b && _) (Bool.false_and _))))) | refine LK.regc ?_ | (apply LOps.locFn; (focus (first | exact Goes.free | exact Goes.on rfl rfl (by with_reducible rfl) true (by decide))); (focus (exact rfl)); (focus (exact rfl)); (focus (simp only [go_sem]; exact rfl)); (focus (simp only [go_sem])); (focus (exact live_fun)); (focus (first | rfl | simp [go_sem])); (focus (first | rfl | simp [go_sem]))) | (apply LOps.or2; exact rfl; exact rfl; exact rfl; exact rfl; exact rfl; (focus (with_reducible rfl)); (focus (first | kernel_rfl | rfl))) | refine Under.mk (fun hg => ?_) | fail)
  refine LK.condF2 rfl (by first | with_reducible rfl | rfl) (hc) ?_
  (repeat' first | refine LOps.done ?_ | (apply LOps.mv; (focus (first | exact Goes.free | exact Goes.on rfl rfl (by with_reducible rfl) true (by decide))); (focus (exact rfl)); (focus (exact rfl))) | (apply LOps.asg; (focus (first | exact Goes.free | exact Goes.on rfl rfl (by with_reducible rfl) true (by decide))); (focus (exact rfl)); (focus (exact rfl))) | (apply LOps.ext; (focus (first | exact Goes.free | exact Goes.on rfl rfl (by with_reducible rfl) true (by decide))); (focus (exact rfl)); (focus (exact rfl)); (focus (exact rfl))) | (apply LOps.loc; (focus (first | exact Goes.free | exact Goes.on rfl rfl (by with_reducible rfl) true (by decide))); (focus (exact rfl)); (focus (exact rfl)); (focus (simp only [go_sem, ↓reduceIte, Nat.reduceEqDiff, reduceCtorEq, Nat.reduceLT, Nat.reduceAdd, Int.reduceLT, Int.ofNat_zero, hmx, Int.reduceLT]; with_reducible rfl))) | refine LK.seq ?_ | refine LK.skip ?_ | refine LK.block ?_ | refine LK.ret' ?_ | refine LK.exit' rfl ?_ | (apply LK.condF2; (focus (exact rfl)); (focus (with_reducible rfl)); (focus (first | with_reducible rfl | decide | (with_reducible exact Bool.false_and _) | (with_reducible exact congrArg (fun b => b && _) (Bool.false_and _))))) | refine LK.regc ?_ | (apply retQ; (focus (first | exact lres_one rfl | exact lres_more rfl | (simp only [lres, lresv, Try.results7, go_sem, ↓reduceIte, Nat.reduceEqDiff, reduceCtorEq, Nat.reduceLT, Nat.reduceAdd, Int.reduceBEq, Int.reduceBNe, Int.reduceEq, Int.reduceLE, Int.reduceLT, Int.reduceToNat, Nat.reduceLeDiff, Nat.reduceMul, Nat.reduceSub, Int.ofNat_zero, hmx, ht, wrap_small, Int.reduceAdd, Int.reduceSub, Int.reduceMul, Int.reduceMod, Int.reduceNeg, Int.reduceToNat, Int.reduceLT, Int.reduceLE, Int.reduceGT, Int.reduceGE, Int.zero_add, Int.add_zero, List.replicate_succ, List.replicate_zero, Nat.reduceSub]; exact rfl)))) | (apply LOps.locFn; (focus (first | exact Goes.free | exact Goes.on rfl rfl (by with_reducible rfl) true (by decide))); (focus (exact rfl)); (focus (exact rfl)); (focus (simp only [go_sem, ↓reduceIte, Nat.reduceEqDiff]; exact rfl)); (focus (simp only [go_sem])); (focus (first | exact hT | exact hR | exact q3 | exact q4 | exact q5 | exact q6 | exact q7 | exact q8 | exact q9 | exact q10 | exact q11 | exact q12 | exact u1 | exact u2 | exact u3 | exact u5)); (focus (first | rfl | simp [go_sem])); (focus (first | rfl | simp [go_sem]))) | (apply LOps.borrowFn; (focus (first | exact Goes.free | exact Goes.on rfl rfl (by with_reducible rfl) true (by decide))); (focus (exact rfl)); (focus (exact rfl)); (focus (simp only [go_sem, ↓reduceIte, Nat.reduceEqDiff]; exact rfl)); (focus (simp only [go_sem])); (focus (simp only [go_sem, ↓reduceIte, ht]; exact rfl)); (focus (first | exact hT | exact hR | exact q3 | exact q4 | exact q5 | exact q6 | exact q7 | exact q8 | exact q9 | exact q10 | exact q11 | exact q12 | exact u1 | exact u2 | exact u3 | exact u5)); (focus (first | rfl | simp [go_sem])); (focus (exact rfl))) | refine LK.rounds 1 ?_ | fail)
  all_goals rfl
theorem does_fun (l : List Ten) (i k0 u : Int) (b : List Bool) (w : Int) (hu : u ≤ 9223372036854775807) : Fun Try.prog 7 [sT l, vi i, vi k0, vi u, sB b, vi w] (vb true) := by
  by_cases h : 100 < l.length ∨ 100 < b.length
  · exact does_skip l i k0 u b w h
  · have hR := rcharge_fun l i u (by omega) hu
    by_cases he : chE l i u = 0
    · have ha : atE l i = 0 := by
        by_cases ha : atE l i = 0
        · exact ha
        · rw [chE, if_pos ha] at he; exact he
      obtain ⟨hc, n, x, rfl, hi, hx, ho⟩ := at_inv ha
      have hco : coE x.w u = 0 := by
        have h0 := he
        simp only [chE, ha, ne_eq, not_true_eq_false, if_false, Int.toNat_natCast, hx] at h0
        by_cases hco : coE x.w u = 0
        · exact hco
        · rw [if_pos hco] at h0; exact absurd h0 hco
      have hC := cost_fun x.w u hu
      rw [hco] at hC
      obtain ⟨c0, c1, _⟩ := co_nn hco
      have hno := not_odd ho
      obtain ⟨e1, e2⟩ := ch_at hc hx hco
      have hb : ¬ (1152921504606846976 - x.tag < coC x.w u) := by
        intro hb; rw [he, if_pos hb] at e1; cases e1
      rw [if_neg hb] at e2
      rw [he, e2] at hR
      exact does_ok l n k0 u b w hu (by omega) (by omega) _ l.length (by simp) (by omega) (charge_d l n l.length u _ x hx (by rw [IntKind.wrap_i64]; omega) (by omega) (by rw [IntKind.wrap_i64]; omega) (own_c l n l.length rfl hi (by omega) hc) rfl hC) hR
    · have hT := charge_fun l i u (by omega) hu
      rw [chL, if_neg he] at hT hR
      exact does_bad l i k0 u b w hu (by omega) (by omega) _ hT hR
end Go.Proofs.Yteecmlhmddgkkaa
