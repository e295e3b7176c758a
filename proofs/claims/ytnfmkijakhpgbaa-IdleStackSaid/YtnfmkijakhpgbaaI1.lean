/- The walks of what the library does with slices of integers. -/
import Derived.Test.YtnfmkijakhpgbaaI0
set_option linter.unusedSimpArgs false
set_option linter.unusedVariables false
namespace Go.Proofs.Ytnfmkijakhpgbaa
open Go.Lw
attribute [local irreducible] LK LOps LW
theorem first_at {w : List Int} {id : Int} : (id ∉ w) ∨ ∃ i : Nat, w[i]? = some id ∧ ∀ (j : Nat) (x : Int), j < i → w[j]? = some x → x ≠ id := by
  induction w with
  | nil => exact .inl (by simp)
  | cons a w ih =>
    by_cases e : a = id
    · exact .inr ⟨0, by simp [e], fun j x hj => absurd hj (Nat.not_lt_zero _)⟩
    · rcases ih with h | ⟨i, h1, h2⟩
      · exact .inl (by simp [Ne.symm e, h])
      · refine .inr ⟨i + 1, by simpa using h1, fun j x hj hx => ?_⟩
        cases j with
        | zero => obtain rfl : a = x := by simpa using hx
                  exact e
        | succ j => exact h2 j x (by omega) (by simpa using hx)
/-- Where a number is. -/
def idxZ : List Int → Int → Int
  | [], _ => -1
  | x :: w, v => if v = x then 0 else if idxZ w v < 0 then -1 else idxZ w v + 1
theorem idxZ_no : ∀ {w : List Int} {v : Int}, v ∉ w → idxZ w v = -1
  | [], v, _ => rfl
  | x :: w, v, h => by
    have h1 : v ≠ x := by rintro rfl; simp at h
    have h2 : v ∉ w := fun hm => h (List.mem_cons_of_mem _ hm)
    simp [idxZ, h1, idxZ_no h2]
theorem idxZ_at : ∀ {w : List Int} {i : Nat} {v : Int}, w[i]? = some v → (∀ (j : Nat) (x : Int), j < i → w[j]? = some x → x ≠ v) → idxZ w v = i
  | [], i, v, h, _ => by simp at h
  | x :: w, 0, v, h, _ => by
    obtain rfl : x = v := by simpa using h
    simp [idxZ]
  | x :: w, i + 1, v, h, hf => by
    have h1 : v ≠ x := fun e => hf 0 x (by omega) rfl e.symm
    have ih := idxZ_at (w := w) (i := i) (v := v) (by simpa using h) fun j y hj hy => hf (j + 1) y (by omega) (by simpa using hy)
    simp only [idxZ, h1, ih, if_false]
    rw [if_neg (by omega)]; omega
set_option maxHeartbeats 4000000 in
set_option maxRecDepth 10000 in
theorem index_fun (w : List Int) (v : Int) (hl : w.length ≤ 100000) : Fun Try.prog 41 [sI w, vi v] (vi (idxZ w v)) := by
  rcases first_at (w := w) (id := v) with hno | ⟨i, hi, hlo⟩
  · rw [idxZ_no hno]
    (refine LCalls.enter Try.func41 rfl (by simp [Try.ntmps41]) (LK.start ?_); simp only [Try.ntmps41, enterA, Nat.zero_add])
    (repeat' first | refine LOps.done ?_ | (apply LOps.mv; (focus (first | exact Goes.free | exact Goes.on rfl rfl (by with_reducible rfl) true (by decide))); (focus (exact rfl)); (focus (exact rfl))) | (apply LOps.loc; (focus (first | exact Goes.free | exact Goes.on rfl rfl (by with_reducible rfl) true (by decide))); (focus (exact rfl)); (focus (exact rfl)); (focus (simp only [go_sem, ↓reduceIte]; with_reducible rfl))) | refine LK.seq ?_ | refine LK.block ?_ | refine LK.regc ?_ | fail)
    refine LK.loop (fun k : Nat => w.length - k) (fun k => k ≤ w.length) (fun k => ⟨19, [(0, sI w), (1, vi v), (7, vi w.length), (8, vi k)]⟩) (fun _ => []) 0 (Nat.zero_le _) (Sub.by rfl rfl rfl) ?_
    intro k hk J hJ
    rcases Nat.lt_or_ge k w.length with hlt | hge
    · obtain ⟨x, hx⟩ := idx_all hlt
      have h1 : ((k : Int) < (w.length : Int)) := by omega
      have hw := wrapn (n := k) (by omega)
      have hne : (v == x) = false := by
        have : v ≠ x := by rintro rfl; exact hno (List.mem_of_getElem? hx)
        simpa using this
      (repeat' first | refine LOps.done ?_ | (apply LOps.mv; (focus (first | exact Goes.free | exact Goes.on rfl rfl (by with_reducible rfl) true (by decide))); (focus (exact rfl)); (focus (exact rfl))) | (apply LOps.asg; (focus (first | exact Goes.free | exact Goes.on rfl rfl (by with_reducible rfl) true (by decide))); (focus (exact rfl)); (focus (exact rfl))) | (apply LOps.loc; (focus (first | exact Goes.free | exact Goes.on rfl rfl (by with_reducible rfl) true (by decide))); (focus (exact rfl)); (focus (exact rfl)); (focus (simp only [go_sem, ↓reduceIte, Nat.reduceEqDiff, Nat.reduceLT, h1, hx, hw, hne]; with_reducible rfl))) | refine LK.seq ?_ | refine LK.skip ?_ | refine LK.block ?_ | refine LK.blk ?_ | refine LK.fin ?_ | (apply LK.condT2; (focus (exact rfl)); (focus (with_reducible rfl)); (focus (first | with_reducible rfl | decide | (with_reducible exact Bool.true_or _) | (with_reducible exact congrArg (fun b => b || _) (Bool.true_or _))))) | (apply LK.condF2; (focus (exact rfl)); (focus (with_reducible rfl)); (focus (first | with_reducible rfl | decide | (with_reducible exact Bool.false_and _) | (with_reducible exact congrArg (fun b => b && _) (Bool.false_and _))))) | refine LK.regc ?_ | fail)
      apply hJ
      exact ⟨k + 1, hlt, by omega, Sub.by rfl rfl rfl⟩
    · have h1 : ¬ ((k : Int) < (w.length : Int)) := by omega
      (repeat' first | refine LOps.done ?_ | (apply LOps.loc; (focus (first | exact Goes.free | exact Goes.on rfl rfl (by with_reducible rfl) true (by decide))); (focus (exact rfl)); (focus (exact rfl)); (focus (simp only [go_sem, ↓reduceIte, Nat.reduceEqDiff, h1]; with_reducible rfl))) | refine LK.seq ?_ | refine LK.ret' ?_ | refine LK.exit' rfl ?_ | (apply LK.condF2; (focus (exact rfl)); (focus (with_reducible rfl)); (focus (first | with_reducible rfl | decide | (with_reducible exact Bool.false_and _) | (with_reducible exact congrArg (fun b => b && _) (Bool.false_and _))))) | refine LK.regc ?_ | (apply retQ; (focus (first | exact lres_one rfl | exact lres_more rfl | (simp only [lres, lresv, Try.results41, go_sem, ↓reduceIte, Nat.reduceEqDiff, reduceCtorEq, Nat.reduceLT, Nat.reduceAdd, Int.reduceBEq, Int.reduceBNe, Int.reduceEq, Int.reduceLE, Int.reduceLT, Int.reduceToNat, Nat.reduceLeDiff, Nat.reduceMul, Nat.reduceSub, h1]; exact rfl)))) | fail)
      all_goals rfl
  · rw [idxZ_at hi hlo]
    have hil := lt_of_get hi
    (refine LCalls.enter Try.func41 rfl (by simp [Try.ntmps41]) (LK.start ?_); simp only [Try.ntmps41, enterA, Nat.zero_add])
    (repeat' first | refine LOps.done ?_ | (apply LOps.mv; (focus (first | exact Goes.free | exact Goes.on rfl rfl (by with_reducible rfl) true (by decide))); (focus (exact rfl)); (focus (exact rfl))) | (apply LOps.loc; (focus (first | exact Goes.free | exact Goes.on rfl rfl (by with_reducible rfl) true (by decide))); (focus (exact rfl)); (focus (exact rfl)); (focus (simp only [go_sem, ↓reduceIte]; with_reducible rfl))) | refine LK.seq ?_ | refine LK.block ?_ | refine LK.regc ?_ | fail)
    refine LK.loop (fun k : Nat => w.length - k) (fun k => k ≤ i) (fun k => ⟨19, [(0, sI w), (1, vi v), (7, vi w.length), (8, vi k)]⟩) (fun _ => []) 0 (Nat.zero_le _) (Sub.by rfl rfl rfl) ?_
    intro k hk J hJ
    have h1 : ((k : Int) < (w.length : Int)) := by omega
    rcases Nat.lt_or_ge k i with hlt | hge
    · obtain ⟨x, hx⟩ := idx_all (show k < w.length by omega)
      have hw := wrapn (n := k) (by omega)
      have hne : (v == x) = false := by
        have : v ≠ x := fun e => hlo k x hlt hx e.symm
        simpa using this
      (repeat' first | refine LOps.done ?_ | (apply LOps.mv; (focus (first | exact Goes.free | exact Goes.on rfl rfl (by with_reducible rfl) true (by decide))); (focus (exact rfl)); (focus (exact rfl))) | (apply LOps.asg; (focus (first | exact Goes.free | exact Goes.on rfl rfl (by with_reducible rfl) true (by decide))); (focus (exact rfl)); (focus (exact rfl))) | (apply LOps.loc; (focus (first | exact Goes.free | exact Goes.on rfl rfl (by with_reducible rfl) true (by decide))); (focus (exact rfl)); (focus (exact rfl)); (focus (simp only [go_sem, ↓reduceIte, Nat.reduceEqDiff, Nat.reduceLT, h1, hx, hw, hne]; with_reducible rfl))) | refine LK.seq ?_ | refine LK.skip ?_ | refine LK.block ?_ | refine LK.blk ?_ | refine LK.fin ?_ | (apply LK.condT2; (focus (exact rfl)); (focus (with_reducible rfl)); (focus (first | with_reducible rfl | decide | (with_reducible exact Bool.true_or _) | (with_reducible exact congrArg (fun b => b || _) (Bool.true_or _))))) | (apply LK.condF2; (focus (exact rfl)); (focus (with_reducible rfl)); (focus (first | with_reducible rfl | decide | (with_reducible exact Bool.false_and _) | (with_reducible exact congrArg (fun b => b && _) (Bool.false_and _))))) | refine LK.regc ?_ | fail)
      apply hJ
      exact ⟨k + 1, hlt, by omega, Sub.by rfl rfl rfl⟩
    · obtain rfl : k = i := by omega
      (repeat' first | refine LOps.done ?_ | (apply LOps.mv; (focus (first | exact Goes.free | exact Goes.on rfl rfl (by with_reducible rfl) true (by decide))); (focus (exact rfl)); (focus (exact rfl))) | (apply LOps.asg; (focus (first | exact Goes.free | exact Goes.on rfl rfl (by with_reducible rfl) true (by decide))); (focus (exact rfl)); (focus (exact rfl))) | (apply LOps.loc; (focus (first | exact Goes.free | exact Goes.on rfl rfl (by with_reducible rfl) true (by decide))); (focus (exact rfl)); (focus (exact rfl)); (focus (simp only [go_sem, ↓reduceIte, Nat.reduceEqDiff, Nat.reduceLT, h1, hi]; with_reducible rfl))) | refine LK.seq ?_ | refine LK.skip ?_ | refine LK.block ?_ | refine LK.ret' ?_ | (apply LK.condT2; (focus (exact rfl)); (focus (with_reducible rfl)); (focus (first | with_reducible rfl | decide | (with_reducible exact Bool.true_or _) | (with_reducible exact congrArg (fun b => b || _) (Bool.true_or _))))) | refine LK.regc ?_ | (apply retQ; (focus (first | exact lres_one rfl | exact lres_more rfl | (simp only [lres, lresv, Try.results41, go_sem, ↓reduceIte, Nat.reduceEqDiff, reduceCtorEq, Nat.reduceLT, Nat.reduceAdd, Int.reduceBEq, Int.reduceBNe, Int.reduceEq, Int.reduceLE, Int.reduceLT, Int.reduceToNat, Nat.reduceLeDiff, Nat.reduceMul, Nat.reduceSub, h1, hi]; exact rfl)))) | fail)
      all_goals rfl
theorem idxZ_ge {w : List Int} {v : Int} : decide (idxZ w v ≥ 0) = decide (v ∈ w) := by
  rcases first_at (w := w) (id := v) with hno | ⟨i, hi, hlo⟩
  · rw [idxZ_no hno, decide_eq_false hno]; rfl
  · rw [idxZ_at hi hlo, decide_eq_true (List.mem_of_getElem? hi)]
    simp
set_option maxHeartbeats 4000000 in
set_option maxRecDepth 10000 in
theorem contains_fun (w : List Int) (v : Int) (hl : w.length ≤ 100000) : Fun Try.prog 37 [sI w, vi v] (vb (decide (v ∈ w))) := by
  have h := index_fun w v hl
  rw [← idxZ_ge]
  (refine LCalls.enter Try.func37 rfl (by simp [Try.ntmps37]) (LK.start ?_); simp only [Try.ntmps37, enterA, Nat.zero_add])
  (repeat' first | refine LOps.done ?_ | (apply LOps.mv; (focus (first | exact Goes.free | exact Goes.on rfl rfl (by with_reducible rfl) true (by decide))); (focus (exact rfl)); (focus (exact rfl))) | (apply LOps.asg; (focus (first | exact Goes.free | exact Goes.on rfl rfl (by with_reducible rfl) true (by decide))); (focus (exact rfl)); (focus (exact rfl))) | (apply LOps.loc; (focus (first | exact Goes.free | exact Goes.on rfl rfl (by with_reducible rfl) true (by decide))); (focus (exact rfl)); (focus (exact rfl)); (focus (simp only [go_sem, ↓reduceIte, reduceCtorEq]; with_reducible rfl))) | refine LK.seq ?_ | refine LK.ret' ?_ | refine LK.regc ?_ | (apply retQ; (focus (first | exact lres_one rfl | exact lres_more rfl | (simp only [lres, lresv, Try.results37, go_sem, ↓reduceIte, Nat.reduceEqDiff, reduceCtorEq, Nat.reduceLT, Nat.reduceAdd, Int.reduceBEq, Int.reduceBNe, Int.reduceEq, Int.reduceLE, Int.reduceLT, Int.reduceToNat, Nat.reduceLeDiff, Nat.reduceMul, Nat.reduceSub]; exact rfl)))) | (apply LOps.locFn; (focus (first | exact Goes.free | exact Goes.on rfl rfl (by with_reducible rfl) true (by decide))); (focus (exact rfl)); (focus (exact rfl)); (focus (simp only [go_sem, ↓reduceIte, Nat.reduceEqDiff]; exact rfl)); (focus (simp only [go_sem])); (focus (exact h)); (focus (first | rfl | simp [go_sem])); (focus (first | rfl | simp [go_sem]))) | fail)
  all_goals rfl
set_option maxHeartbeats 4000000 in
set_option maxRecDepth 10000 in
theorem equal_fun (p q : List Int) (hp : p.length ≤ 100000) : Fun Try.prog 30 [sI p, sI q] (vb (decide (p = q))) := by
  (refine LCalls.enter Try.func30 rfl (by simp [Try.ntmps30]) (LK.start ?_); simp only [Try.ntmps30, enterA, Nat.zero_add])
  (repeat' first | refine LOps.done ?_ | (apply LOps.mv; (focus (first | exact Goes.free | exact Goes.on rfl rfl (by with_reducible rfl) true (by decide))); (focus (exact rfl)); (focus (exact rfl))) | (apply LOps.loc; (focus (first | exact Goes.free | exact Goes.on rfl rfl (by with_reducible rfl) true (by decide))); (focus (exact rfl)); (focus (exact rfl)); (focus (simp only [go_sem, ↓reduceIte, Nat.reduceEqDiff]; with_reducible rfl))) | refine LK.seq ?_ | refine LK.regc ?_ | fail)
  by_cases hlen : p.length = q.length
  · have hc : ((p.length : Int) != (q.length : Int)) = false := by rw [hlen]; simp
    refine LK.condF2 rfl (by first | with_reducible rfl | rfl) (hc) ?_
    (repeat' first | refine LOps.done ?_ | (apply LOps.mv; (focus (first | exact Goes.free | exact Goes.on rfl rfl (by with_reducible rfl) true (by decide))); (focus (exact rfl)); (focus (exact rfl))) | (apply LOps.loc; (focus (first | exact Goes.free | exact Goes.on rfl rfl (by with_reducible rfl) true (by decide))); (focus (exact rfl)); (focus (exact rfl)); (focus (simp only [go_sem, ↓reduceIte]; with_reducible rfl))) | refine LK.seq ?_ | refine LK.skip ?_ | refine LK.block ?_ | refine LK.regc ?_ | fail)
    refine LK.loop (fun k : Nat => p.length - k) (fun k => k ≤ p.length ∧ p.take k = q.take k) (fun k => ⟨26, [(0, sI p), (1, sI q), (12, vi p.length), (13, vi k)]⟩) (fun _ => []) 0 ⟨Nat.zero_le _, rfl⟩ (Sub.by rfl rfl rfl) ?_
    rintro k ⟨hk, hsame⟩ J hJ
    rcases Nat.lt_or_ge k p.length with hlt | hge
    · obtain ⟨x, hx⟩ := idx_all hlt
      obtain ⟨y, hy⟩ := idx_all (show k < q.length by omega)
      have h1 : ((k : Int) < (p.length : Int)) := by omega
      have h2 : ((k : Int) < (q.length : Int)) := by omega
      have hw := wrapn (n := k) (by omega)
      (repeat' first | refine LOps.done ?_ | (apply LOps.mv; (focus (first | exact Goes.free | exact Goes.on rfl rfl (by with_reducible rfl) true (by decide))); (focus (exact rfl)); (focus (exact rfl))) | (apply LOps.asg; (focus (first | exact Goes.free | exact Goes.on rfl rfl (by with_reducible rfl) true (by decide))); (focus (exact rfl)); (focus (exact rfl))) | (apply LOps.loc; (focus (first | exact Goes.free | exact Goes.on rfl rfl (by with_reducible rfl) true (by decide))); (focus (exact rfl)); (focus (exact rfl)); (focus (simp only [go_sem, ↓reduceIte, Nat.reduceEqDiff, h1]; with_reducible rfl))) | refine LK.seq ?_ | refine LK.skip ?_ | refine LK.block ?_ | (apply LK.condT2; (focus (exact rfl)); (focus (with_reducible rfl)); (focus (first | with_reducible rfl | decide | (with_reducible exact Bool.true_or _) | (with_reducible exact congrArg (fun b => b || _) (Bool.true_or _))))) | refine LK.regc ?_ | (apply LK.drawn3; (focus (exact Ty.mixed)); (focus ((repeat' first | exact DRun.nil _ _ _ | (apply DRun.aopS; (focus (exact rfl)); (focus (first | exact rfl | (simp only [oF_idss, oF_ids, idss_MB, idss_MI, objsOf, idsOf, LV.ids, LV.idss, LO.ids, idss_pv, lookB_eq, List.any_nil, List.any_cons, cond_true, cond_false, List.flatten_cons, List.flatten_nil, Nat.reduceBEq, Bool.or_false, Bool.false_or, Bool.or_true, go_sem, ↓reduceIte, Nat.reduceEqDiff, reduceCtorEq, Nat.reduceLT, Nat.reduceAdd, Int.reduceBEq, Int.reduceBNe, Int.reduceEq, Int.reduceLE, Int.reduceLT, Int.reduceToNat, Nat.reduceLeDiff, Nat.reduceMul, Nat.reduceSub, h1, h2, hx, hy, hw]; exact rfl))); (focus (first | exact Goes.free | exact Goes.on rfl rfl (by with_reducible rfl) true (by decide))); (focus (simp only [go_sem, ↓reduceIte, Nat.reduceEqDiff, Nat.reduceLT, h1, h2, hx, hy]; exact rfl)); (focus (exact rfl)); (focus (first | decide +kernel | (simp only [evOk, ovOk, nvOk, keepOf, vis, LV.under, LV.idp, LO.under, LO.idp, List.all_cons, List.all_nil, List.any_nil, Bool.and_true, Bool.false_or, Bool.and_self]; done) | (simp [evOk, ovOk, nvOk, keepOf, vis, LV.under, LV.idp, LO.under, LO.idp]; done)))) | fail); done)); (focus kernel_rfl); (focus (first | exact puOk_none rfl | (simp [puOk, evShape, nvShape, look, oF_len, go_sem, ↓reduceIte, Nat.reduceEqDiff, reduceCtorEq, Nat.reduceLT, Nat.reduceAdd, Int.reduceBEq, Int.reduceBNe, Int.reduceEq, Int.reduceLE, Int.reduceLT, Int.reduceToNat, Nat.reduceLeDiff, Nat.reduceMul, Nat.reduceSub, h1, h2, hx, hy, hw]; done))); (focus (first | (simp only [go_sem, ↓reduceIte, Nat.reduceEqDiff, reduceCtorEq, Nat.reduceLT, Nat.reduceAdd, Int.reduceBEq, Int.reduceBNe, Int.reduceEq, Int.reduceLE, Int.reduceLT, Int.reduceToNat, Nat.reduceLeDiff, Nat.reduceMul, Nat.reduceSub, h1, h2, hx, hy, hw]; exact rfl) | exact rfl)); (focus (first | (simp only [go_sem, ↓reduceIte, Nat.reduceEqDiff, reduceCtorEq, Nat.reduceLT, Nat.reduceAdd, Int.reduceBEq, Int.reduceBNe, Int.reduceEq, Int.reduceLE, Int.reduceLT, Int.reduceToNat, Nat.reduceLeDiff, Nat.reduceMul, Nat.reduceSub, h1, h2, hx, hy, hw]; exact rfl) | exact rfl)); (focus (first | (simp only [go_sem, ↓reduceIte, Nat.reduceEqDiff, reduceCtorEq, Nat.reduceLT, Nat.reduceAdd, Int.reduceBEq, Int.reduceBNe, Int.reduceEq, Int.reduceLE, Int.reduceLT, Int.reduceToNat, Nat.reduceLeDiff, Nat.reduceMul, Nat.reduceSub, h1, h2, hx, hy, hw]; exact rfl) | exact rfl))) | fail)
      by_cases e : x = y
      · have hc : (x != y) = false := by simpa using e
        refine LK.condF2 rfl (by first | with_reducible rfl | rfl) (hc) ?_
        (repeat' first | refine LOps.done ?_ | (apply LOps.mv; (focus (first | exact Goes.free | exact Goes.on rfl rfl (by with_reducible rfl) true (by decide))); (focus (exact rfl)); (focus (exact rfl))) | (apply LOps.loc; (focus (first | exact Goes.free | exact Goes.on rfl rfl (by with_reducible rfl) true (by decide))); (focus (exact rfl)); (focus (exact rfl)); (focus (simp only [go_sem, ↓reduceIte, hw]; with_reducible rfl))) | refine LK.skip ?_ | refine LK.blk ?_ | refine LK.fin ?_ | refine LK.regc ?_ | fail)
        apply hJ
        exact ⟨k + 1, ⟨hlt, by rw [List.take_add_one, List.take_add_one, hsame, hx, hy, e]⟩, by omega, Sub.by rfl rfl rfl⟩
      · have hc : (x != y) = true := by simpa using e
        refine LK.condT2 rfl (by first | with_reducible rfl | rfl) (hc) ?_
        (repeat' first | refine LOps.done ?_ | (apply LOps.loc; (focus (first | exact Goes.free | exact Goes.on rfl rfl (by with_reducible rfl) true (by decide))); (focus (exact rfl)); (focus (exact rfl)); (focus (simp only [go_sem]; with_reducible rfl))) | refine LK.seq ?_ | refine LK.ret' ?_ | refine LK.regc ?_ | (apply retQ; (focus (first | exact lres_one rfl | exact lres_more rfl | (simp only [lres, lresv, Try.results30, go_sem, ↓reduceIte, Nat.reduceEqDiff, reduceCtorEq, Nat.reduceLT, Nat.reduceAdd, Int.reduceBEq, Int.reduceBNe, Int.reduceEq, Int.reduceLE, Int.reduceLT, Int.reduceToNat, Nat.reduceLeDiff, Nat.reduceMul, Nat.reduceSub, h1, h2, hx, hy, hw]; exact rfl)))) | fail)
        have : decide (p = q) = false := by
          rw [decide_eq_false_iff_not]
          rintro rfl
          rw [hx] at hy; exact e (Option.some.inj hy)
        rw [this]
    · have h1 : ¬ ((k : Int) < (p.length : Int)) := by omega
      (repeat' first | refine LOps.done ?_ | (apply LOps.loc; (focus (first | exact Goes.free | exact Goes.on rfl rfl (by with_reducible rfl) true (by decide))); (focus (exact rfl)); (focus (exact rfl)); (focus (simp only [go_sem, ↓reduceIte, Nat.reduceEqDiff, h1]; with_reducible rfl))) | refine LK.seq ?_ | refine LK.ret' ?_ | refine LK.exit' rfl ?_ | (apply LK.condF2; (focus (exact rfl)); (focus (with_reducible rfl)); (focus (first | with_reducible rfl | decide | (with_reducible exact Bool.false_and _) | (with_reducible exact congrArg (fun b => b && _) (Bool.false_and _))))) | refine LK.regc ?_ | (apply retQ; (focus (first | exact lres_one rfl | exact lres_more rfl | (simp only [lres, lresv, Try.results30, go_sem, ↓reduceIte, Nat.reduceEqDiff, reduceCtorEq, Nat.reduceLT, Nat.reduceAdd, Int.reduceBEq, Int.reduceBNe, Int.reduceEq, Int.reduceLE, Int.reduceLT, Int.reduceToNat, Nat.reduceLeDiff, Nat.reduceMul, Nat.reduceSub, h1]; exact rfl)))) | fail)
      have : p = q := by
        rw [List.take_of_length_le hge, List.take_of_length_le (by omega)] at hsame
        exact hsame
      subst this
      simp
  · have hc : ((p.length : Int) != (q.length : Int)) = true := by rw [bne_iff_ne]; omega
    refine LK.condT2 rfl (by first | with_reducible rfl | rfl) (hc) ?_
    (repeat' first | refine LOps.done ?_ | (apply LOps.loc; (focus (first | exact Goes.free | exact Goes.on rfl rfl (by with_reducible rfl) true (by decide))); (focus (exact rfl)); (focus (exact rfl)); (focus (simp only [go_sem]; with_reducible rfl))) | refine LK.seq ?_ | refine LK.ret' ?_ | refine LK.regc ?_ | (apply retQ; (focus (first | exact lres_one rfl | exact lres_more rfl | (simp only [lres, lresv, Try.results30, go_sem, ↓reduceIte, Nat.reduceEqDiff, reduceCtorEq, Nat.reduceLT, Nat.reduceAdd, Int.reduceBEq, Int.reduceBNe, Int.reduceEq, Int.reduceLE, Int.reduceLT, Int.reduceToNat, Nat.reduceLeDiff, Nat.reduceMul, Nat.reduceSub]; exact rfl)))) | fail)
    have : decide (p = q) = false := by rw [decide_eq_false_iff_not]; rintro rfl; exact hlen rfl
    rw [this]
set_option maxHeartbeats 4000000 in
set_option maxRecDepth 10000 in
theorem req_fun (p q : List Int) (hp : p.length ≤ 100000) : Fun Try.prog 36 [sI p, sI q] (vb (decide (p = q))) := by
  (refine LCalls.enter Try.func36 rfl (by simp [Try.ntmps36]) (LK.start ?_); simp only [Try.ntmps36, enterA, Nat.zero_add])
  (repeat' first | refine LOps.done ?_ | (apply LOps.mv; (focus (first | exact Goes.free | exact Goes.on rfl rfl (by with_reducible rfl) true (by decide))); (focus (exact rfl)); (focus (exact rfl))) | (apply LOps.loc; (focus (first | exact Goes.free | exact Goes.on rfl rfl (by with_reducible rfl) true (by decide))); (focus (exact rfl)); (focus (exact rfl)); (focus (simp only [go_sem, ↓reduceIte, Nat.reduceEqDiff]; with_reducible rfl))) | refine LK.seq ?_ | refine LK.regc ?_ | fail)
  by_cases hlen : p.length = q.length
  · have hc : ((p.length : Int) != (q.length : Int)) = false := by rw [hlen]; simp
    refine LK.condF2 rfl (by first | with_reducible rfl | rfl) (hc) ?_
    (repeat' first | refine LOps.done ?_ | (apply LOps.mv; (focus (first | exact Goes.free | exact Goes.on rfl rfl (by with_reducible rfl) true (by decide))); (focus (exact rfl)); (focus (exact rfl))) | (apply LOps.loc; (focus (first | exact Goes.free | exact Goes.on rfl rfl (by with_reducible rfl) true (by decide))); (focus (exact rfl)); (focus (exact rfl)); (focus (simp only [go_sem, ↓reduceIte]; with_reducible rfl))) | refine LK.seq ?_ | refine LK.skip ?_ | refine LK.block ?_ | refine LK.regc ?_ | fail)
    refine LK.loop (fun k : Nat => p.length - k) (fun k => k ≤ p.length ∧ p.take k = q.take k) (fun k => ⟨26, [(0, sI p), (1, sI q), (12, vi p.length), (13, vi k)]⟩) (fun _ => []) 0 ⟨Nat.zero_le _, rfl⟩ (Sub.by rfl rfl rfl) ?_
    rintro k ⟨hk, hsame⟩ J hJ
    rcases Nat.lt_or_ge k p.length with hlt | hge
    · obtain ⟨x, hx⟩ := idx_all hlt
      obtain ⟨y, hy⟩ := idx_all (show k < q.length by omega)
      have h1 : ((k : Int) < (p.length : Int)) := by omega
      have h2 : ((k : Int) < (q.length : Int)) := by omega
      have hw := wrapn (n := k) (by omega)
      (repeat' first | refine LOps.done ?_ | (apply LOps.mv; (focus (first | exact Goes.free | exact Goes.on rfl rfl (by with_reducible rfl) true (by decide))); (focus (exact rfl)); (focus (exact rfl))) | (apply LOps.asg; (focus (first | exact Goes.free | exact Goes.on rfl rfl (by with_reducible rfl) true (by decide))); (focus (exact rfl)); (focus (exact rfl))) | (apply LOps.loc; (focus (first | exact Goes.free | exact Goes.on rfl rfl (by with_reducible rfl) true (by decide))); (focus (exact rfl)); (focus (exact rfl)); (focus (simp only [go_sem, ↓reduceIte, Nat.reduceEqDiff, h1]; with_reducible rfl))) | refine LK.seq ?_ | refine LK.skip ?_ | refine LK.block ?_ | (apply LK.condT2; (focus (exact rfl)); (focus (with_reducible rfl)); (focus (first | with_reducible rfl | decide | (with_reducible exact Bool.true_or _) | (with_reducible exact congrArg (fun b => b || _) (Bool.true_or _))))) | refine LK.regc ?_ | (apply LK.drawn3; (focus (exact Ty.mixed)); (focus ((repeat' first | exact DRun.nil _ _ _ | (apply DRun.aopS; (focus (exact rfl)); (focus (first | exact rfl | (simp only [oF_idss, oF_ids, idss_MB, idss_MI, objsOf, idsOf, LV.ids, LV.idss, LO.ids, idss_pv, lookB_eq, List.any_nil, List.any_cons, cond_true, cond_false, List.flatten_cons, List.flatten_nil, Nat.reduceBEq, Bool.or_false, Bool.false_or, Bool.or_true, go_sem, ↓reduceIte, Nat.reduceEqDiff, reduceCtorEq, Nat.reduceLT, Nat.reduceAdd, Int.reduceBEq, Int.reduceBNe, Int.reduceEq, Int.reduceLE, Int.reduceLT, Int.reduceToNat, Nat.reduceLeDiff, Nat.reduceMul, Nat.reduceSub, h1, h2, hx, hy, hw]; exact rfl))); (focus (first | exact Goes.free | exact Goes.on rfl rfl (by with_reducible rfl) true (by decide))); (focus (simp only [go_sem, ↓reduceIte, Nat.reduceEqDiff, Nat.reduceLT, h1, h2, hx, hy]; exact rfl)); (focus (exact rfl)); (focus (first | decide +kernel | (simp only [evOk, ovOk, nvOk, keepOf, vis, LV.under, LV.idp, LO.under, LO.idp, List.all_cons, List.all_nil, List.any_nil, Bool.and_true, Bool.false_or, Bool.and_self]; done) | (simp [evOk, ovOk, nvOk, keepOf, vis, LV.under, LV.idp, LO.under, LO.idp]; done)))) | fail); done)); (focus kernel_rfl); (focus (first | exact puOk_none rfl | (simp [puOk, evShape, nvShape, look, oF_len, go_sem, ↓reduceIte, Nat.reduceEqDiff, reduceCtorEq, Nat.reduceLT, Nat.reduceAdd, Int.reduceBEq, Int.reduceBNe, Int.reduceEq, Int.reduceLE, Int.reduceLT, Int.reduceToNat, Nat.reduceLeDiff, Nat.reduceMul, Nat.reduceSub, h1, h2, hx, hy, hw]; done))); (focus (first | (simp only [go_sem, ↓reduceIte, Nat.reduceEqDiff, reduceCtorEq, Nat.reduceLT, Nat.reduceAdd, Int.reduceBEq, Int.reduceBNe, Int.reduceEq, Int.reduceLE, Int.reduceLT, Int.reduceToNat, Nat.reduceLeDiff, Nat.reduceMul, Nat.reduceSub, h1, h2, hx, hy, hw]; exact rfl) | exact rfl)); (focus (first | (simp only [go_sem, ↓reduceIte, Nat.reduceEqDiff, reduceCtorEq, Nat.reduceLT, Nat.reduceAdd, Int.reduceBEq, Int.reduceBNe, Int.reduceEq, Int.reduceLE, Int.reduceLT, Int.reduceToNat, Nat.reduceLeDiff, Nat.reduceMul, Nat.reduceSub, h1, h2, hx, hy, hw]; exact rfl) | exact rfl)); (focus (first | (simp only [go_sem, ↓reduceIte, Nat.reduceEqDiff, reduceCtorEq, Nat.reduceLT, Nat.reduceAdd, Int.reduceBEq, Int.reduceBNe, Int.reduceEq, Int.reduceLE, Int.reduceLT, Int.reduceToNat, Nat.reduceLeDiff, Nat.reduceMul, Nat.reduceSub, h1, h2, hx, hy, hw]; exact rfl) | exact rfl))) | fail)
      by_cases e : x = y
      · have hc : (x != y) = false := by simpa using e
        refine LK.condF2 rfl (by first | with_reducible rfl | rfl) (hc) ?_
        (repeat' first | refine LOps.done ?_ | (apply LOps.mv; (focus (first | exact Goes.free | exact Goes.on rfl rfl (by with_reducible rfl) true (by decide))); (focus (exact rfl)); (focus (exact rfl))) | (apply LOps.loc; (focus (first | exact Goes.free | exact Goes.on rfl rfl (by with_reducible rfl) true (by decide))); (focus (exact rfl)); (focus (exact rfl)); (focus (simp only [go_sem, ↓reduceIte, hw]; with_reducible rfl))) | refine LK.skip ?_ | refine LK.blk ?_ | refine LK.fin ?_ | refine LK.regc ?_ | fail)
        apply hJ
        exact ⟨k + 1, ⟨hlt, by rw [List.take_add_one, List.take_add_one, hsame, hx, hy, e]⟩, by omega, Sub.by rfl rfl rfl⟩
      · have hc : (x != y) = true := by simpa using e
        refine LK.condT2 rfl (by first | with_reducible rfl | rfl) (hc) ?_
        (repeat' first | refine LOps.done ?_ | (apply LOps.loc; (focus (first | exact Goes.free | exact Goes.on rfl rfl (by with_reducible rfl) true (by decide))); (focus (exact rfl)); (focus (exact rfl)); (focus (simp only [go_sem]; with_reducible rfl))) | refine LK.seq ?_ | refine LK.ret' ?_ | refine LK.regc ?_ | (apply retQ; (focus (first | exact lres_one rfl | exact lres_more rfl | (simp only [lres, lresv, Try.results36, go_sem, ↓reduceIte, Nat.reduceEqDiff, reduceCtorEq, Nat.reduceLT, Nat.reduceAdd, Int.reduceBEq, Int.reduceBNe, Int.reduceEq, Int.reduceLE, Int.reduceLT, Int.reduceToNat, Nat.reduceLeDiff, Nat.reduceMul, Nat.reduceSub, h1, h2, hx, hy, hw]; exact rfl)))) | fail)
        have : decide (p = q) = false := by
          rw [decide_eq_false_iff_not]
          rintro rfl
          rw [hx] at hy; exact e (Option.some.inj hy)
        rw [this]
    · have h1 : ¬ ((k : Int) < (p.length : Int)) := by omega
      (repeat' first | refine LOps.done ?_ | (apply LOps.loc; (focus (first | exact Goes.free | exact Goes.on rfl rfl (by with_reducible rfl) true (by decide))); (focus (exact rfl)); (focus (exact rfl)); (focus (simp only [go_sem, ↓reduceIte, Nat.reduceEqDiff, h1]; with_reducible rfl))) | refine LK.seq ?_ | refine LK.ret' ?_ | refine LK.exit' rfl ?_ | (apply LK.condF2; (focus (exact rfl)); (focus (with_reducible rfl)); (focus (first | with_reducible rfl | decide | (with_reducible exact Bool.false_and _) | (with_reducible exact congrArg (fun b => b && _) (Bool.false_and _))))) | refine LK.regc ?_ | (apply retQ; (focus (first | exact lres_one rfl | exact lres_more rfl | (simp only [lres, lresv, Try.results36, go_sem, ↓reduceIte, Nat.reduceEqDiff, reduceCtorEq, Nat.reduceLT, Nat.reduceAdd, Int.reduceBEq, Int.reduceBNe, Int.reduceEq, Int.reduceLE, Int.reduceLT, Int.reduceToNat, Nat.reduceLeDiff, Nat.reduceMul, Nat.reduceSub, h1]; exact rfl)))) | fail)
      have : p = q := by
        rw [List.take_of_length_le hge, List.take_of_length_le (by omega)] at hsame
        exact hsame
      subst this
      simp
  · have hc : ((p.length : Int) != (q.length : Int)) = true := by rw [bne_iff_ne]; omega
    refine LK.condT2 rfl (by first | with_reducible rfl | rfl) (hc) ?_
    (repeat' first | refine LOps.done ?_ | (apply LOps.loc; (focus (first | exact Goes.free | exact Goes.on rfl rfl (by with_reducible rfl) true (by decide))); (focus (exact rfl)); (focus (exact rfl)); (focus (simp only [go_sem]; with_reducible rfl))) | refine LK.seq ?_ | refine LK.ret' ?_ | refine LK.regc ?_ | (apply retQ; (focus (first | exact lres_one rfl | exact lres_more rfl | (simp only [lres, lresv, Try.results36, go_sem, ↓reduceIte, Nat.reduceEqDiff, reduceCtorEq, Nat.reduceLT, Nat.reduceAdd, Int.reduceBEq, Int.reduceBNe, Int.reduceEq, Int.reduceLE, Int.reduceLT, Int.reduceToNat, Nat.reduceLeDiff, Nat.reduceMul, Nat.reduceSub]; exact rfl)))) | fail)
    have : decide (p = q) = false := by rw [decide_eq_false_iff_not]; rintro rfl; exact hlen rfl
    rw [this]
set_option maxHeartbeats 4000000 in
set_option maxRecDepth 10000 in
theorem clone_own (l : List Int) (h : l.length ≤ 100000) : Own Try.prog 38 [sI l] (.own 0 l.length 0 l.length) 1 [(0, .arr 1 (oF (cI .i64) l))] := by
  unfold Own
  refine LCalls.kind (l := []) (r := []) (fun h0 => ?_) ?_
  · obtain rfl : l = [] := by cases l with | nil => rfl | cons _ _ => cases h0
    refine (LCalls.own0 1 (nx := 0) (m := []) ?_).mono ?_
    · (refine LCalls.enter Try.func38 rfl (by simp [Try.ntmps38]) (LK.start ?_); simp only [Try.ntmps38, enterA, List.nil_append])
      (repeat' first | refine LOps.done ?_ | (apply LOps.mv; (focus (first | exact Goes.free | exact Goes.on rfl rfl (by with_reducible rfl) true (by decide))); (focus (exact rfl)); (focus (exact rfl))) | (apply LOps.loc; (focus (first | exact Goes.free | exact Goes.on rfl rfl (by with_reducible rfl) true (by decide))); (focus (exact rfl)); (focus (exact rfl)); (focus (simp only [go_sem, ↓reduceIte]; with_reducible rfl))) | refine LK.seq ?_ | refine LK.ret' ?_ | (apply LK.condT2; (focus (exact rfl)); (focus (with_reducible rfl)); (focus (first | with_reducible rfl | decide | (with_reducible exact Bool.true_or _) | (with_reducible exact congrArg (fun b => b || _) (Bool.true_or _))))) | refine LK.regc ?_ | (apply retQ; (focus (first | exact lres_one rfl | exact lres_more rfl | (simp only [lres, lresv, Try.results38, go_sem, ↓reduceIte, Nat.reduceEqDiff, reduceCtorEq, Nat.reduceLT, Nat.reduceAdd, Int.reduceBEq, Int.reduceBNe, Int.reduceEq, Int.reduceLE, Int.reduceLT, Int.reduceToNat, Nat.reduceLeDiff, Nat.reduceMul, Nat.reduceSub]; exact rfl)))) | fail)
      all_goals exact ⟨rfl, rfl⟩
    · rintro v σ ⟨rfl, rfl⟩
      exact Own.end rfl rfl rfl rfl
  · have h1 : l.length ≤ maxLen ∧ l.length * 8 ≤ 140737488355328 := by simp only [maxLen]; omega
    (refine LCalls.enter Try.func38 rfl (by simp [Try.ntmps38]) (LK.start ?_); simp only [Try.ntmps38, enterA, List.nil_append])
    (repeat' first | refine LOps.done ?_ | (apply LOps.mv; (focus (first | exact Goes.free | exact Goes.on rfl rfl (by with_reducible rfl) true (by decide))); (focus (exact rfl)); (focus (exact rfl))) | (apply LOps.asg; (focus (first | exact Goes.free | exact Goes.on rfl rfl (by with_reducible rfl) true (by decide))); (focus (exact rfl)); (focus (exact rfl))) | (apply LOps.loc; (focus (first | exact Goes.free | exact Goes.on rfl rfl (by with_reducible rfl) true (by decide))); (focus (exact rfl)); (focus (exact rfl)); (focus (simp only [go_sem, ↓reduceIte, Nat.reduceEqDiff, Nat.reduceLT, h1]; with_reducible rfl))) | refine LK.seq ?_ | refine LK.skip ?_ | refine LK.ret' ?_ | (apply LK.condF2; (focus (exact rfl)); (focus (with_reducible rfl)); (focus (first | with_reducible rfl | decide | (with_reducible exact Bool.false_and _) | (with_reducible exact congrArg (fun b => b && _) (Bool.false_and _))))) | refine LK.regc ?_ | (apply retQ; (focus (first | exact lres_one rfl | exact lres_more rfl | (simp only [lres, lresv, Try.results38, go_sem, ↓reduceIte, Nat.reduceEqDiff, reduceCtorEq, Nat.reduceLT, Nat.reduceAdd, Int.reduceBEq, Int.reduceBNe, Int.reduceEq, Int.reduceLE, Int.reduceLT, Int.reduceToNat, Nat.reduceLeDiff, Nat.reduceMul, Nat.reduceSub, h1]; exact rfl)))) | fail)
    exact Own.end (by first | rfl | (simp only [go_sem, ↓reduceIte, Nat.reduceEqDiff, reduceCtorEq, Nat.reduceLT, Nat.reduceAdd, Int.reduceBEq, Int.reduceBNe, Int.reduceEq, Int.reduceLE, Int.reduceLT, Int.reduceToNat, Nat.reduceLeDiff, Nat.reduceMul, Nat.reduceSub])) rfl rfl (by first | exact rfl | (simp only [go_sem, ↓reduceIte, Nat.reduceEqDiff, reduceCtorEq, Nat.reduceLT, Nat.reduceAdd, Int.reduceBEq, Int.reduceBNe, Int.reduceEq, Int.reduceLE, Int.reduceLT, Int.reduceToNat, Nat.reduceLeDiff, Nat.reduceMul, Nat.reduceSub]; exact rfl))
end Go.Proofs.Ytnfmkijakhpgbaa
