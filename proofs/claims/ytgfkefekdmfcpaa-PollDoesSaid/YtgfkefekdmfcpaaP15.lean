/- The walks of chapter 09: PollDoes. -/
import Derived.Test.YtgfkefekdmfcpaaP14
set_option linter.unusedSimpArgs false
set_option linter.unusedVariables false
namespace Go.Proofs.Ytgfkefekdmfcpaa
open Go.Lw
attribute [local irreducible] LK LOps LW
set_option maxHeartbeats 4000000 in
set_option maxRecDepth 10000 in
theorem open_own (f : List Fd) (k : Nat) (x : Fd) (hx : f[k]? = some x) (ho : x.op = false) (hc : chk f = 0) (hl : f.length ≤ 16) : Own Try.prog 10 [sD f, vi k] (.tup [.own 0 f.length 0 f.length, vi 0]) 1 [(0, .arr 3 (oF cF (f.set k openF)))] := by
  have hk := lt_of_get hx
  have h1 := own_own f k hc hk hl
  have hpos : 0 < f.length := by omega
  have hop := open_fun
  have ho2 : openF = ⟨true, false, -1⟩ := rfl
  unfold Own
  (refine LCalls.enter Try.func10 rfl (by simp [Try.ntmps10]) (LK.start ?_); simp only [Try.ntmps10, enterA, Nat.zero_add])
  (repeat' first | refine LOps.done ?_ | (apply LOps.mv; (focus (first | exact Goes.free | exact Goes.on rfl rfl (by with_reducible rfl) true (by decide))); (focus (exact rfl)); (focus (exact rfl))) | (apply LOps.asg; (focus (first | exact Goes.free | exact Goes.on rfl rfl (by with_reducible rfl) true (by decide))); (focus (exact rfl)); (focus (exact rfl))) | (apply LOps.ext; (focus (first | exact Goes.free | exact Goes.on rfl rfl (by with_reducible rfl) true (by decide))); (focus (exact rfl)); (focus (exact rfl)); (focus (exact rfl))) | (apply LOps.loc; (focus (first | exact Goes.free | exact Goes.on rfl rfl (by with_reducible rfl) true (by decide))); (focus (exact rfl)); (focus (exact rfl)); (focus (simp only [go_sem, ↓reduceIte, reduceCtorEq, Nat.reduceLT, Int.reduceBNe, hx, ho, hpos]; with_reducible rfl))) | (apply LOps.loc0; (focus (first | exact Goes.free | exact Goes.on rfl rfl (by with_reducible rfl) true (by decide))); (focus (exact rfl)); (focus (simp only [go_sem, ↓reduceIte, Nat.reduceEqDiff, Nat.reduceLT, Nat.reduceAdd, hx, ho]; with_reducible rfl))) | refine LK.seq ?_ | refine LK.skip ?_ | refine LK.block ?_ | refine LK.blk ?_ | refine LK.ret' ?_ | (apply LK.condF2; (focus (exact rfl)); (focus (with_reducible rfl)); (focus (first | with_reducible rfl | decide | (with_reducible exact Bool.false_and _) | (with_reducible exact congrArg (fun b => b && _) (Bool.false_and _))))) | refine LK.regc ?_ | (apply retQ; (focus (first | exact lres_one rfl | exact lres_more rfl | (simp only [lres, lresv, Try.results10, go_sem, ↓reduceIte, Nat.reduceEqDiff, reduceCtorEq, Nat.reduceLT, Nat.reduceAdd, Int.reduceBEq, Int.reduceBNe, Int.reduceEq, Int.reduceLE, Int.reduceLT, Int.reduceToNat, Nat.reduceLeDiff, Nat.reduceMul, Nat.reduceSub, hx, ho, hpos]; exact rfl)))) | (apply LOps.locFn; (focus (first | exact Goes.free | exact Goes.on rfl rfl (by with_reducible rfl) true (by decide))); (focus (exact rfl)); (focus (exact rfl)); (focus (simp only [go_sem, ↓reduceIte, Nat.reduceEqDiff]; exact rfl)); (focus (simp only [go_sem])); (focus (first | exact hop | exact Own.at (h1) (by first | rfl | simp [go_sem]) (by first | (simp only [go_sem]; exact rfl) | (simp only [go_sem, ↓reduceIte, Nat.reduceEqDiff, reduceCtorEq, Nat.reduceLT, Nat.reduceAdd, Int.reduceBEq, Int.reduceBNe, Int.reduceEq, Int.reduceLE, Int.reduceLT, Int.reduceToNat, Nat.reduceLeDiff, Nat.reduceMul, Nat.reduceSub, hx, ho, hpos] <;> fail) | exact rfl) (by first | (simp only [go_sem, ↓reduceIte, Nat.reduceEqDiff, reduceCtorEq, Nat.reduceLT, Nat.reduceAdd, Int.reduceBEq, Int.reduceBNe, Int.reduceEq, Int.reduceLE, Int.reduceLT, Int.reduceToNat, Nat.reduceLeDiff, Nat.reduceMul, Nat.reduceSub, hx, ho, hpos]; exact rfl) | (simp only [go_sem, ↓reduceIte, Nat.reduceEqDiff, reduceCtorEq, Nat.reduceLT, Nat.reduceAdd, Int.reduceBEq, Int.reduceBNe, Int.reduceEq, Int.reduceLE, Int.reduceLT, Int.reduceToNat, Nat.reduceLeDiff, Nat.reduceMul, Nat.reduceSub, hx, ho, hpos] <;> fail) | exact rfl) (by first | (simp only [go_sem]; exact rfl) | (simp only [go_sem, ↓reduceIte, Nat.reduceEqDiff, reduceCtorEq, Nat.reduceLT, Nat.reduceAdd, Int.reduceBEq, Int.reduceBNe, Int.reduceEq, Int.reduceLE, Int.reduceLT, Int.reduceToNat, Nat.reduceLeDiff, Nat.reduceMul, Nat.reduceSub, hx, ho, hpos] <;> fail) | exact rfl))); (focus (first | rfl | simp [go_sem])); (focus (first | rfl | simp [go_sem]))) | ((apply LOps.inline; (focus (first | exact Goes.free | exact Goes.on rfl rfl (by with_reducible rfl) true (by decide))); (focus (exact rfl)); (focus (exact rfl)); (focus (simp only [go_sem, ↓reduceIte, Nat.reduceEqDiff]; exact rfl)); (focus (simp only [go_sem]))); (first | (refine LCalls.mono (by first | exact hop | exact Own.at (h1) (by first | rfl | simp [go_sem]) (by first | (simp only [go_sem]; exact rfl) | (simp only [go_sem, ↓reduceIte, Nat.reduceEqDiff, reduceCtorEq, Nat.reduceLT, Nat.reduceAdd, Int.reduceBEq, Int.reduceBNe, Int.reduceEq, Int.reduceLE, Int.reduceLT, Int.reduceToNat, Nat.reduceLeDiff, Nat.reduceMul, Nat.reduceSub, hx, ho, hpos] <;> fail) | exact rfl) (by first | (simp only [go_sem]; exact rfl) | (simp only [go_sem, ↓reduceIte, Nat.reduceEqDiff, reduceCtorEq, Nat.reduceLT, Nat.reduceAdd, Int.reduceBEq, Int.reduceBNe, Int.reduceEq, Int.reduceLE, Int.reduceLT, Int.reduceToNat, Nat.reduceLeDiff, Nat.reduceMul, Nat.reduceSub, hx, ho, hpos] <;> fail) | exact rfl) (by first | (simp only [go_sem]; exact rfl) | (simp only [go_sem, ↓reduceIte, Nat.reduceEqDiff, reduceCtorEq, Nat.reduceLT, Nat.reduceAdd, Int.reduceBEq, Int.reduceBNe, Int.reduceEq, Int.reduceLE, Int.reduceLT, Int.reduceToNat, Nat.reduceLeDiff, Nat.reduceMul, Nat.reduceSub, hx, ho, hpos] <;> fail) | exact rfl)) ?_; (rintro _ _ ⟨rfl, rfl⟩)) | fail)) | fail)
  exact Own.end (by first | rfl | (simp only [go_sem, ↓reduceIte, Nat.reduceEqDiff, reduceCtorEq, Nat.reduceLT, Nat.reduceAdd, Int.reduceBEq, Int.reduceBNe, Int.reduceEq, Int.reduceLE, Int.reduceLT, Int.reduceToNat, Nat.reduceLeDiff, Nat.reduceMul, Nat.reduceSub])) rfl rfl (by first | exact rfl | (simp only [go_sem, ↓reduceIte, Nat.reduceEqDiff, reduceCtorEq, Nat.reduceLT, Nat.reduceAdd, Int.reduceBEq, Int.reduceBNe, Int.reduceEq, Int.reduceLE, Int.reduceLT, Int.reduceToNat, Nat.reduceLeDiff, Nat.reduceMul, Nat.reduceSub]; exact rfl))
def up1 (x : Fd) : Fd := ⟨x.op, x.rd, IntKind.i64.wrap (x.who + 1)⟩
def inc (w : List Fd) (k : Nat) : List Fd := (w.take k).map up1 ++ w.drop k
theorem inc_zero (w : List Fd) : inc w 0 = w := by simp [inc]
theorem inc_len (w : List Fd) (k : Nat) : (inc w k).length = w.length := by simp [inc]; omega
theorem inc_get {w : List Fd} {k : Nat} {x : Fd} (hx : w[k]? = some x) : (inc w k)[k]? = some x := by
  have hk := lt_of_get hx
  rw [inc, List.getElem?_append_right (by simp; omega)]
  simp only [List.length_map, List.length_take, Nat.min_eq_left (Nat.le_of_lt hk), Nat.sub_self, List.getElem?_drop, Nat.add_zero]
  exact hx
theorem inc_set {w : List Fd} {k : Nat} {x : Fd} (hx : w[k]? = some x) : (inc w k).set k (up1 x) = inc w (k + 1) := by
  have hk := lt_of_get hx
  have e : w.drop k = x :: w.drop (k + 1) := by
    rw [List.drop_eq_getElem_cons hk]
    rw [List.getElem?_eq_getElem hk] at hx
    rw [Option.some.inj hx]
  simp only [inc]
  rw [List.set_append_right _ _ (by simp; omega), List.take_add_one, hx, e]
  simp only [List.length_map, List.length_take, Nat.min_eq_left (Nat.le_of_lt hk), Nat.sub_self, List.set_cons_zero, Option.toList_some, List.map_append, List.map_cons, List.map_nil, List.append_assoc, List.cons_append, List.nil_append]
set_option maxHeartbeats 4000000 in
set_option maxRecDepth 10000 in
theorem does_skip (f : List Fd) (i id : Int) (h : ¬ f.length ≤ 60) : Fun Try.prog 5 [sD f, vi i, vi id] (vb true) := by
  have hv := live_fun
  have hc : ((f.length : Int) > 60) := by omega
  (refine LCalls.enter Try.func5 rfl (by simp [Try.ntmps5]) (LK.start ?_); simp only [Try.ntmps5, enterA, Nat.zero_add])
  (repeat' first | refine LOps.done ?_ | (apply LOps.mv; (focus (first | exact Goes.free | exact Goes.on rfl rfl (by with_reducible rfl) true (by decide))); (focus (exact rfl)); (focus (exact rfl))) | (apply LOps.asg; (focus (first | exact Goes.free | exact Goes.on rfl rfl (by with_reducible rfl) true (by decide))); (focus (exact rfl)); (focus (exact rfl))) | (apply LOps.loc; (focus (first | exact Goes.free | exact Goes.on rfl rfl (by with_reducible rfl) true (by decide))); (focus (exact rfl)); (focus (exact rfl)); (focus (simp only [go_sem, ↓reduceIte, reduceCtorEq, hc]; with_reducible rfl))) | refine LK.seq ?_ | refine LK.skip ?_ | refine LK.ret' ?_ | (apply LK.condT2; (focus (exact rfl)); (focus (with_reducible rfl)); (focus (first | with_reducible rfl | decide | (with_reducible exact Bool.true_or _) | (with_reducible exact congrArg (fun b => b || _) (Bool.true_or _))))) | (apply LK.condF2; (focus (exact rfl)); (focus (with_reducible rfl)); (focus (first | with_reducible rfl | decide | (with_reducible exact Bool.false_and _) | (with_reducible exact congrArg (fun b => b && _) (Bool.false_and _))))) | refine LK.regc ?_ | (apply retQ; (focus (first | exact lres_one rfl | exact lres_more rfl | (simp only [lres, lresv, Try.results5, go_sem, ↓reduceIte, Nat.reduceEqDiff, reduceCtorEq, Nat.reduceLT, Nat.reduceAdd, Int.reduceBEq, Int.reduceBNe, Int.reduceEq, Int.reduceLE, Int.reduceLT, Int.reduceToNat, Nat.reduceLeDiff, Nat.reduceMul, Nat.reduceSub, hc]; exact rfl)))) | (apply LOps.locFn; (focus (first | exact Goes.free | exact Goes.on rfl rfl (by with_reducible rfl) true (by decide))); (focus (exact rfl)); (focus (exact rfl)); (focus (simp only [go_sem]; exact rfl)); (focus (simp only [go_sem])); (focus (exact hv)); (focus (first | rfl | simp [go_sem])); (focus (first | rfl | simp [go_sem]))) | fail)
  all_goals rfl
set_option maxHeartbeats 4000000 in
set_option maxRecDepth 20000 in
theorem does_ok (f : List Fd) (i id : Int) (h : f.length ≤ 60) (A : List Fd) (m : Nat) (hA : A.length = m) (hm : m ≤ 100)
    (hT : Own Try.prog 10 [sD f, vi i] (.tup [.own 0 m 0 m, vi 0]) 1 [(0, .arr 3 (oF cF A))])
    (hR : Fun Try.prog 17 [sD f, vi i] (.tup [sD A, vi 0])) : Fun Try.prog 5 [sD f, vi i, vi id] (vb true) := by
  have hv := live_fun
  have hc : ¬ ((f.length : Int) > 60) := by omega
  have hmx : f.length ≤ maxLen ∧ f.length * 16 ≤ 140737488355328 := by simp only [maxLen]; omega
  have hct : A.take m = A := List.take_of_length_le (by omega)
  have q3 := shuts_fun f i (by omega)
  have q4 := rshut_fun f i (by omega)
  have q5 := arms_fun f i id (by omega)
  have q6 := rarm_fun f i id (by omega)
  have q7 := fires_fun f i (by omega)
  have q8 := rfire_fun f i (by omega)
  have q9 := drop_fun f id (by omega)
  have q10 := rdrop_fun f id (by omega)
  have u2 := rsame_fun A A (by omega)
  have u3 := rsame_fun (shL f i) (shL f i) (by have := shL_len f i; omega)
  have u4 := rsame_fun (arL f i id) (arL f i id) (by have := arL_len f i id; omega)
  have u6 := rsame_fun (fiL f i) (fiL f i) (by have := fiL_len f i; omega)
  have u7 := rsame_fun (drL f id) (drL f id) (by have := drL_len f id; omega)
  have u5 := rsame_fun f f (by omega)
  simp only [decide_true] at u2 u3 u4 u5 u6 u7
  generalize shL f i = b1 at *
  generalize shE f i = b2 at *
  generalize shW f i = b3 at *
  generalize arL f i id = b4 at *
  generalize arE f i id = b5 at *
  generalize arB f i id = b6 at *
  generalize fiL f i = b7 at *
  generalize drL f id = b8 at *
  generalize drE f id = b9 at *
  (refine LCalls.enter Try.func5 rfl (by simp [Try.ntmps5]) (LK.start ?_); simp only [Try.ntmps5, enterA, Nat.zero_add])
  (repeat' first | refine LOps.done ?_ | (apply LOps.mv; (focus (first | exact Goes.free | exact Goes.on rfl rfl (by with_reducible rfl) true (by decide))); (focus (exact rfl)); (focus (exact rfl))) | (apply LOps.asg; (focus (first | exact Goes.free | exact Goes.on rfl rfl (by with_reducible rfl) true (by decide))); (focus (exact rfl)); (focus (exact rfl))) | (apply LOps.ext; (focus (first | exact Goes.free | exact Goes.on rfl rfl (by with_reducible rfl) true (by decide))); (focus (exact rfl)); (focus (exact rfl)); (focus (exact rfl))) | (apply LOps.loc; (focus (first | exact Goes.free | exact Goes.on rfl rfl (by with_reducible rfl) true (by decide))); (focus (exact rfl)); (focus (exact rfl)); (focus (simp only [go_sem, ↓reduceIte, Nat.reduceEqDiff, reduceCtorEq, Nat.reduceLT, Nat.reduceAdd, hc, hmx, hA, hct]; with_reducible rfl))) | refine LK.seq ?_ | refine LK.skip ?_ | refine LK.block ?_ | (apply LK.condF2; (focus (exact rfl)); (focus (with_reducible rfl)); (focus (first | with_reducible rfl | decide | (with_reducible exact Bool.false_and _) | (with_reducible exact congrArg (fun b => b && _) (Bool.false_and _))))) | refine LK.regc ?_ | (apply LOps.locFn; (focus (first | exact Goes.free | exact Goes.on rfl rfl (by with_reducible rfl) true (by decide))); (focus (exact rfl)); (focus (exact rfl)); (focus (simp only [go_sem, ↓reduceIte, Nat.reduceEqDiff]; exact rfl)); (focus (simp only [go_sem])); (focus (first | exact hv | exact Own.at (hT) (by first | rfl | simp [go_sem]) (by first | (simp only [go_sem]; exact rfl) | (simp only [go_sem, ↓reduceIte, Nat.reduceEqDiff, reduceCtorEq, Nat.reduceLT, Nat.reduceAdd, Int.reduceBEq, Int.reduceBNe, Int.reduceEq, Int.reduceLE, Int.reduceLT, Int.reduceToNat, Nat.reduceLeDiff, Nat.reduceMul, Nat.reduceSub, hc, hmx, hA, hct] <;> fail) | exact rfl) (by first | (simp only [go_sem, ↓reduceIte, Nat.reduceEqDiff, reduceCtorEq, Nat.reduceLT, Nat.reduceAdd, Int.reduceBEq, Int.reduceBNe, Int.reduceEq, Int.reduceLE, Int.reduceLT, Int.reduceToNat, Nat.reduceLeDiff, Nat.reduceMul, Nat.reduceSub, hc, hmx, hA, hct]; exact rfl) | (simp only [go_sem, ↓reduceIte, Nat.reduceEqDiff, reduceCtorEq, Nat.reduceLT, Nat.reduceAdd, Int.reduceBEq, Int.reduceBNe, Int.reduceEq, Int.reduceLE, Int.reduceLT, Int.reduceToNat, Nat.reduceLeDiff, Nat.reduceMul, Nat.reduceSub, hc, hmx, hA, hct] <;> fail) | exact rfl) (by first | (simp only [go_sem]; exact rfl) | (simp only [go_sem, ↓reduceIte, Nat.reduceEqDiff, reduceCtorEq, Nat.reduceLT, Nat.reduceAdd, Int.reduceBEq, Int.reduceBNe, Int.reduceEq, Int.reduceLE, Int.reduceLT, Int.reduceToNat, Nat.reduceLeDiff, Nat.reduceMul, Nat.reduceSub, hc, hmx, hA, hct] <;> fail) | exact rfl) | exact hR | exact q3 | exact q4 | exact q5 | exact q6 | exact q7 | exact q8 | exact q9 | exact q10 | exact u2 | exact u3 | exact u4 | exact u6 | exact u7)); (focus (first | rfl | simp [go_sem])); (focus (first | rfl | simp [go_sem]))) | (apply LOps.borrowFn; (focus (first | exact Goes.free | exact Goes.on rfl rfl (by with_reducible rfl) true (by decide))); (focus (exact rfl)); (focus (exact rfl)); (focus (simp only [go_sem, ↓reduceIte, Nat.reduceEqDiff]; exact rfl)); (focus (simp only [go_sem])); (focus (simp only [go_sem, ↓reduceIte, hA, hct]; exact rfl)); (focus (first | exact hv | exact Own.at (hT) (by first | rfl | simp [go_sem]) (by first | (simp only [go_sem]; exact rfl) | (simp only [go_sem, ↓reduceIte, Nat.reduceEqDiff, reduceCtorEq, Nat.reduceLT, Nat.reduceAdd, Int.reduceBEq, Int.reduceBNe, Int.reduceEq, Int.reduceLE, Int.reduceLT, Int.reduceToNat, Nat.reduceLeDiff, Nat.reduceMul, Nat.reduceSub, hc, hmx, hA, hct] <;> fail) | exact rfl) (by first | (simp only [go_sem, ↓reduceIte, Nat.reduceEqDiff, reduceCtorEq, Nat.reduceLT, Nat.reduceAdd, Int.reduceBEq, Int.reduceBNe, Int.reduceEq, Int.reduceLE, Int.reduceLT, Int.reduceToNat, Nat.reduceLeDiff, Nat.reduceMul, Nat.reduceSub, hc, hmx, hA, hct]; exact rfl) | (simp only [go_sem, ↓reduceIte, Nat.reduceEqDiff, reduceCtorEq, Nat.reduceLT, Nat.reduceAdd, Int.reduceBEq, Int.reduceBNe, Int.reduceEq, Int.reduceLE, Int.reduceLT, Int.reduceToNat, Nat.reduceLeDiff, Nat.reduceMul, Nat.reduceSub, hc, hmx, hA, hct] <;> fail) | exact rfl) (by first | (simp only [go_sem]; exact rfl) | (simp only [go_sem, ↓reduceIte, Nat.reduceEqDiff, reduceCtorEq, Nat.reduceLT, Nat.reduceAdd, Int.reduceBEq, Int.reduceBNe, Int.reduceEq, Int.reduceLE, Int.reduceLT, Int.reduceToNat, Nat.reduceLeDiff, Nat.reduceMul, Nat.reduceSub, hc, hmx, hA, hct] <;> fail) | exact rfl) | exact hR | exact q3 | exact q4 | exact q5 | exact q6 | exact q7 | exact q8 | exact q9 | exact q10 | exact u2 | exact u3 | exact u4 | exact u6 | exact u7)); (focus (first | rfl | simp [go_sem])); (focus (exact rfl))) | ((apply LOps.inline; (focus (first | exact Goes.free | exact Goes.on rfl rfl (by with_reducible rfl) true (by decide))); (focus (exact rfl)); (focus (exact rfl)); (focus (simp only [go_sem, ↓reduceIte, Nat.reduceEqDiff]; exact rfl)); (focus (simp only [go_sem]))); (first | (refine LCalls.mono (by first | exact hv | exact Own.at (hT) (by first | rfl | simp [go_sem]) (by first | (simp only [go_sem]; exact rfl) | (simp only [go_sem, ↓reduceIte, Nat.reduceEqDiff, reduceCtorEq, Nat.reduceLT, Nat.reduceAdd, Int.reduceBEq, Int.reduceBNe, Int.reduceEq, Int.reduceLE, Int.reduceLT, Int.reduceToNat, Nat.reduceLeDiff, Nat.reduceMul, Nat.reduceSub, hc, hmx, hA, hct] <;> fail) | exact rfl) (by first | (simp only [go_sem, Nat.reduceAdd]; exact rfl) | (simp only [go_sem, ↓reduceIte, Nat.reduceEqDiff, reduceCtorEq, Nat.reduceLT, Nat.reduceAdd, Int.reduceBEq, Int.reduceBNe, Int.reduceEq, Int.reduceLE, Int.reduceLT, Int.reduceToNat, Nat.reduceLeDiff, Nat.reduceMul, Nat.reduceSub, hc, hmx, hA, hct] <;> fail) | exact rfl) (by first | (simp only [go_sem]; exact rfl) | (simp only [go_sem, ↓reduceIte, Nat.reduceEqDiff, reduceCtorEq, Nat.reduceLT, Nat.reduceAdd, Int.reduceBEq, Int.reduceBNe, Int.reduceEq, Int.reduceLE, Int.reduceLT, Int.reduceToNat, Nat.reduceLeDiff, Nat.reduceMul, Nat.reduceSub, hc, hmx, hA, hct] <;> fail) | exact rfl) | exact hR | exact q3 | exact q4 | exact q5 | exact q6 | exact q7 | exact q8 | exact q9 | exact q10 | exact u2 | exact u3 | exact u4 | exact u6 | exact u7) ?_; (rintro _ _ ⟨rfl, rfl⟩)) | fail)) | fail)
  refine LK.loop (fun k : Nat => m - k) (fun k => k ≤ m) (fun k => ⟨200, [(0, sD f), (7, vb true), (8, .own 0 f.length 0 f.length), (9, .own 1 m 0 m), (35, vb true), (178, vi m), (179, vi k)]⟩) (fun k => [(0, .arr 3 (oF cF f)), (1, .arr 3 (oF cF (inc A k)))]) 0 (Nat.zero_le _) (by dsimp only; rw [inc_zero]; exact (Sub.by rfl rfl (by first | rfl | (simp only [subB, oF_all_under, LV.under, LO.under, List.all_cons, List.all_nil, decide_true, Nat.reduceLT, Bool.and_self]; done)))) ?_
  intro k hk J hJ
  have hil : (inc A k).length = m := by rw [inc_len, hA]
  rcases Nat.lt_or_ge k m with hlt | hge
  · obtain ⟨x, hx⟩ := idx_all (show k < A.length by omega)
    have i1 : ((k : Int) < (m : Int)) := by omega
    have hg := inc_get hx
    have hs : (inc A k).set k ⟨x.op, x.rd, IntKind.i64.wrap (x.who + 1)⟩ = inc A (k + 1) := inc_set hx
    have hw := wrapn (n := k) (by omega)
    have hp0 : 0 < m := by omega
    (repeat' first | refine LOps.done ?_ | (apply LOps.mv; (focus (first | exact Goes.free | exact Goes.on rfl rfl (by with_reducible rfl) true (by decide))); (focus (exact rfl)); (focus (exact rfl))) | (apply LOps.asg; (focus (first | exact Goes.free | exact Goes.on rfl rfl (by with_reducible rfl) true (by decide))); (focus (exact rfl)); (focus (exact rfl))) | (apply LOps.loc; (focus (first | exact Goes.free | exact Goes.on rfl rfl (by with_reducible rfl) true (by decide))); (focus (exact rfl)); (focus (exact rfl)); (focus (simp only [go_sem, ↓reduceIte, Nat.reduceEqDiff, reduceCtorEq, Nat.reduceLT, i1, hil, hg, hw, hp0]; with_reducible rfl))) | (apply LOps.loc0; (focus (first | exact Goes.free | exact Goes.on rfl rfl (by with_reducible rfl) true (by decide))); (focus (exact rfl)); (focus (simp only [go_sem, ↓reduceIte, Nat.reduceEqDiff, reduceCtorEq, Nat.reduceLT, Nat.reduceAdd, hil, hg, hs]; with_reducible rfl))) | refine LK.seq ?_ | refine LK.skip ?_ | refine LK.block ?_ | refine LK.blk ?_ | refine LK.fin ?_ | (apply LK.condT2; (focus (exact rfl)); (focus (with_reducible rfl)); (focus (first | with_reducible rfl | decide | (with_reducible exact Bool.true_or _) | (with_reducible exact congrArg (fun b => b || _) (Bool.true_or _))))) | refine LK.regc ?_ | fail)
    apply hJ
    exact ⟨k + 1, hlt, by omega, (Sub.by rfl rfl (by first | rfl | (simp only [subB, oF_all_under, LV.under, LO.under, List.all_cons, List.all_nil, decide_true, Nat.reduceLT, Bool.and_self]; done)))⟩
  · have i1 : ¬ ((k : Int) < (m : Int)) := by omega
    have ht : f.take f.length = f := List.take_of_length_le (Nat.le_refl _)
    (repeat' first | refine LOps.done ?_ | (apply LOps.mv; (focus (first | exact Goes.free | exact Goes.on rfl rfl (by with_reducible rfl) true (by decide))); (focus (exact rfl)); (focus (exact rfl))) | (apply LOps.asg; (focus (first | exact Goes.free | exact Goes.on rfl rfl (by with_reducible rfl) true (by decide))); (focus (exact rfl)); (focus (exact rfl))) | (apply LOps.loc; (focus (first | exact Goes.free | exact Goes.on rfl rfl (by with_reducible rfl) true (by decide))); (focus (exact rfl)); (focus (exact rfl)); (focus (simp only [go_sem, ↓reduceIte, Nat.reduceEqDiff, reduceCtorEq, i1]; with_reducible rfl))) | refine LK.seq ?_ | refine LK.ret' ?_ | refine LK.exit' rfl ?_ | (apply LK.condF2; (focus (exact rfl)); (focus (with_reducible rfl)); (focus (first | with_reducible rfl | decide | (with_reducible exact Bool.false_and _) | (with_reducible exact congrArg (fun b => b && _) (Bool.false_and _))))) | refine LK.regc ?_ | (apply retQ; (focus (first | exact lres_one rfl | exact lres_more rfl | (simp only [lres, lresv, Try.results5, go_sem, ↓reduceIte, Nat.reduceEqDiff, reduceCtorEq, Nat.reduceLT, Nat.reduceAdd, Int.reduceBEq, Int.reduceBNe, Int.reduceEq, Int.reduceLE, Int.reduceLT, Int.reduceToNat, Nat.reduceLeDiff, Nat.reduceMul, Nat.reduceSub, i1, ht]; exact rfl)))) | (apply LOps.borrowFn; (focus (first | exact Goes.free | exact Goes.on rfl rfl (by with_reducible rfl) true (by decide))); (focus (exact rfl)); (focus (exact rfl)); (focus (simp only [go_sem, ↓reduceIte, Nat.reduceEqDiff]; exact rfl)); (focus (simp only [go_sem])); (focus (simp only [go_sem, ↓reduceIte, ht]; exact rfl)); (focus (exact u5)); (focus (first | rfl | simp [go_sem])); (focus (exact rfl))) | fail)
    all_goals rfl
set_option maxHeartbeats 4000000 in
set_option maxRecDepth 20000 in
theorem does_bad (f : List Fd) (i id e : Int) (h : f.length ≤ 60)
    (hT : Fun Try.prog 10 [sD f, vi i] (.tup [sD [], vi e])) (hR : Fun Try.prog 17 [sD f, vi i] (.tup [sD [], vi e])) : Fun Try.prog 5 [sD f, vi i, vi id] (vb true) := by
  have hv := live_fun
  have hc : ¬ ((f.length : Int) > 60) := by omega
  have hmx : f.length ≤ maxLen ∧ f.length * 16 ≤ 140737488355328 := by simp only [maxLen]; omega
  have ht : f.take f.length = f := List.take_of_length_le (Nat.le_refl _)
  have q3 := shuts_fun f i (by omega)
  have q4 := rshut_fun f i (by omega)
  have q5 := arms_fun f i id (by omega)
  have q6 := rarm_fun f i id (by omega)
  have q7 := fires_fun f i (by omega)
  have q8 := rfire_fun f i (by omega)
  have q9 := drop_fun f id (by omega)
  have q10 := rdrop_fun f id (by omega)
  have u2 := rsame_fun [] [] (by decide)
  have u3 := rsame_fun (shL f i) (shL f i) (by have := shL_len f i; omega)
  have u4 := rsame_fun (arL f i id) (arL f i id) (by have := arL_len f i id; omega)
  have u6 := rsame_fun (fiL f i) (fiL f i) (by have := fiL_len f i; omega)
  have u7 := rsame_fun (drL f id) (drL f id) (by have := drL_len f id; omega)
  have u5 := rsame_fun f f (by omega)
  simp only [decide_true] at u2 u3 u4 u5 u6 u7
  generalize shL f i = b1 at *
  generalize shE f i = b2 at *
  generalize shW f i = b3 at *
  generalize arL f i id = b4 at *
  generalize arE f i id = b5 at *
  generalize arB f i id = b6 at *
  generalize fiL f i = b7 at *
  generalize drL f id = b8 at *
  generalize drE f id = b9 at *
  (refine LCalls.enter Try.func5 rfl (by simp [Try.ntmps5]) (LK.start ?_); simp only [Try.ntmps5, enterA, Nat.zero_add])
  (repeat' first | refine LOps.done ?_ | (apply LOps.mv; (focus (first | exact Goes.free | exact Goes.on rfl rfl (by with_reducible rfl) true (by decide))); (focus (exact rfl)); (focus (exact rfl))) | (apply LOps.asg; (focus (first | exact Goes.free | exact Goes.on rfl rfl (by with_reducible rfl) true (by decide))); (focus (exact rfl)); (focus (exact rfl))) | (apply LOps.ext; (focus (first | exact Goes.free | exact Goes.on rfl rfl (by with_reducible rfl) true (by decide))); (focus (exact rfl)); (focus (exact rfl)); (focus (exact rfl))) | (apply LOps.loc; (focus (first | exact Goes.free | exact Goes.on rfl rfl (by with_reducible rfl) true (by decide))); (focus (exact rfl)); (focus (exact rfl)); (focus (simp only [go_sem, ↓reduceIte, Nat.reduceEqDiff, reduceCtorEq, Nat.reduceLT, Nat.reduceAdd, Int.reduceLT, hc, hmx, Int.ofNat_zero, Int.reduceLT]; with_reducible rfl))) | refine LK.seq ?_ | refine LK.skip ?_ | refine LK.block ?_ | refine LK.ret' ?_ | refine LK.exit' rfl ?_ | (apply LK.condF2; (focus (exact rfl)); (focus (with_reducible rfl)); (focus (first | with_reducible rfl | decide | (with_reducible exact Bool.false_and _) | (with_reducible exact congrArg (fun b => b && _) (Bool.false_and _))))) | refine LK.regc ?_ | (apply retQ; (focus (first | exact lres_one rfl | exact lres_more rfl | (simp only [lres, lresv, Try.results5, go_sem, ↓reduceIte, Nat.reduceEqDiff, reduceCtorEq, Nat.reduceLT, Nat.reduceAdd, Int.reduceBEq, Int.reduceBNe, Int.reduceEq, Int.reduceLE, Int.reduceLT, Int.reduceToNat, Nat.reduceLeDiff, Nat.reduceMul, Nat.reduceSub, hc, hmx, ht, Int.ofNat_zero, wrap_small, Int.reduceAdd, Int.reduceSub, Int.reduceMul, Int.reduceMod, Int.reduceNeg, Int.reduceToNat, Int.reduceLT, Int.reduceLE, Int.reduceGT, Int.reduceGE, Int.zero_add, Int.add_zero, List.replicate_succ, List.replicate_zero, Nat.reduceSub]; exact rfl)))) | (apply LOps.locFn; (focus (first | exact Goes.free | exact Goes.on rfl rfl (by with_reducible rfl) true (by decide))); (focus (exact rfl)); (focus (exact rfl)); (focus (simp only [go_sem, ↓reduceIte, Nat.reduceEqDiff]; exact rfl)); (focus (simp only [go_sem])); (focus (first | exact hv | exact hT | exact hR | exact q3 | exact q4 | exact q5 | exact q6 | exact q7 | exact q8 | exact q9 | exact q10 | exact u5 | exact u2 | exact u3 | exact u4 | exact u6 | exact u7)); (focus (first | rfl | simp [go_sem])); (focus (first | rfl | simp [go_sem]))) | (apply LOps.borrowFn; (focus (first | exact Goes.free | exact Goes.on rfl rfl (by with_reducible rfl) true (by decide))); (focus (exact rfl)); (focus (exact rfl)); (focus (simp only [go_sem, ↓reduceIte, Nat.reduceEqDiff]; exact rfl)); (focus (simp only [go_sem])); (focus (simp only [go_sem, ↓reduceIte, ht]; exact rfl)); (focus (first | exact hv | exact hT | exact hR | exact q3 | exact q4 | exact q5 | exact q6 | exact q7 | exact q8 | exact q9 | exact q10 | exact u5 | exact u2 | exact u3 | exact u4 | exact u6 | exact u7)); (focus (first | rfl | simp [go_sem])); (focus (exact rfl))) | refine LK.rounds 1 ?_ | fail)
  all_goals rfl
theorem does_fun (f : List Fd) (i id : Int) : Fun Try.prog 5 [sD f, vi i, vi id] (vb true) := by
  by_cases h : f.length ≤ 60
  · have hR := ropen_fun f i (by omega)
    by_cases he : opE f i = 0
    · obtain ⟨h1, h2, h3, h4, h5⟩ := open_ok he
      rw [he, h3] at hR
      obtain ⟨k, rfl, hk, hx, h16⟩ := inF_at h1
      rw [Int.toNat_natCast] at hR
      exact does_ok f k id h _ f.length (by simp) (by omega) (open_own f k _ hx h2 (chk_ok h1.1) h16) hR
    · have hT := opens_fun f i (by omega)
      rw [opL, if_neg he] at hT hR
      exact does_bad f i id _ h hT hR
  · exact does_skip f i id h
end Go.Proofs.Ytgfkefekdmfcpaa
