/- The walks of chapter 14: the chapter's example; what admitting does; the law LodgeApart. -/
import Derived.Test.YtflcdaafhopkkaaL6
set_option linter.unusedSimpArgs false
set_option linter.unusedVariables false
namespace Go.Proofs.Ytflcdaafhopkkaa
open Go.Lw
attribute [local irreducible] LK LOps LW
set_option maxHeartbeats 4000000 in
set_option maxRecDepth 10000 in
theorem live_fun : Fun Try.prog 6 [] (vb true) := by
  have h1 := new_fun [3] [1] (by decide) (by decide)
  rw [show nwL [3] [1] = [⟨3, 1, 0, 0, 0⟩] by decide +kernel, show nwE [3] [1] = 0 by decide +kernel] at h1
  have h2 := admit_fun [⟨3, 1, 0, 0, 0⟩] 0 (by decide)
  rw [show adL [⟨3, 1, 0, 0, 0⟩] 0 = [⟨3, 1, 1, 0, 0⟩] by decide +kernel, show adE [⟨3, 1, 0, 0, 0⟩] 0 = 0 by decide +kernel] at h2
  have h3 := admit_fun [⟨3, 1, 1, 0, 0⟩] 0 (by decide)
  rw [show adL [⟨3, 1, 1, 0, 0⟩] 0 = [] by decide +kernel, show adE [⟨3, 1, 1, 0, 0⟩] 0 = 10 by decide +kernel] at h3
  have n1 : ((1 : Nat) : Int) = 1 := rfl
  (refine LCalls.enter Try.func6 rfl (by simp [Try.ntmps6]) (LK.start ?_); simp only [Try.ntmps6, enterA, Nat.zero_add, List.nil_append, List.cons_append])
  (repeat' first | refine LOps.done ?_ | refine LOps.scEnd rfl (by with_reducible rfl) | refine LOps.mv (by first | exact Goes.free | exact Goes.on rfl rfl (by with_reducible rfl) true (by decide)) rfl rfl ?_ | refine LOps.asg (by first | exact Goes.free | exact Goes.on rfl rfl (by with_reducible rfl) true (by decide)) rfl rfl ?_ | refine LOps.ext (by first | exact Goes.free | exact Goes.on rfl rfl (by with_reducible rfl) true (by decide)) rfl rfl rfl ?_ | refine LOps.loc (by first | exact Goes.free | exact Goes.on rfl rfl (by with_reducible rfl) true (by decide)) rfl rfl (by simp only [go_sem, ↓reduceIte, Nat.reduceEqDiff, reduceCtorEq, Nat.reduceLT, Nat.reduceAdd, Int.reduceBEq, Int.reduceBNe, Int.reduceEq, Int.reduceLE, Int.reduceLT, Int.reduceToNat, Nat.reduceLeDiff, Nat.reduceMul, Nat.reduceSub, n1]; with_reducible rfl) ?_ | refine LOps.loc0 (by first | exact Goes.free | exact Goes.on rfl rfl (by with_reducible rfl) true (by decide)) rfl (by simp only [go_sem, ↓reduceIte, Nat.reduceEqDiff, reduceCtorEq, Nat.reduceLT, Nat.reduceAdd, Int.reduceBEq, Int.reduceBNe, Int.reduceEq, Int.reduceLE, Int.reduceLT, Int.reduceToNat, Nat.reduceLeDiff, Nat.reduceMul, Nat.reduceSub, n1]; with_reducible rfl) ?_ | refine LOps.pass (by first | exact Goes.on rfl rfl (by with_reducible rfl) false (by decide) | exact Goes.undef rfl rfl (by with_reducible rfl)) rfl ?_ | refine LOps.pass0 (by first | exact Goes.on rfl rfl (by with_reducible rfl) false (by decide) | exact Goes.undef rfl rfl (by with_reducible rfl)) ?_ | refine LK.seq ?_ | refine LK.skip ?_ | refine LK.block ?_ | refine LK.blk ?_ | refine LK.fin ?_ | refine LR.step ?_ | refine LK.ret' ?_ | refine LK.exit' rfl ?_ | refine LK.condT2 rfl (by with_reducible rfl) (by first | with_reducible rfl | decide) ?_ | refine LK.condF2 rfl (by with_reducible rfl) (by first | with_reducible rfl | decide) ?_ | refine LK.cond2 rfl (by with_reducible rfl) ⟨fun hb => ?_⟩ ⟨fun hb => ?_⟩ | refine LK.regc ?_ | refine LK.done ?_ | refine retQ (by first | exact lres_one rfl | exact lres_more rfl | (simp only [lres, lresv, Try.results6, go_sem, ↓reduceIte, Nat.reduceEqDiff, reduceCtorEq, Nat.reduceLT, Nat.reduceAdd, Int.reduceBEq, Int.reduceBNe, Int.reduceEq, Int.reduceLE, Int.reduceLT, Int.reduceToNat, Nat.reduceLeDiff, Nat.reduceMul, Nat.reduceSub, n1]; exact rfl)) ?_ | refine endQ (by first | exact lres_one rfl | exact lres_more rfl | (simp only [lres, lresv, Try.results6, go_sem, ↓reduceIte, Nat.reduceEqDiff, reduceCtorEq, Nat.reduceLT, Nat.reduceAdd, Int.reduceBEq, Int.reduceBNe, Int.reduceEq, Int.reduceLE, Int.reduceLT, Int.reduceToNat, Nat.reduceLeDiff, Nat.reduceMul, Nat.reduceSub, n1]; exact rfl)) ?_ | refine LOps.locFn (by first | exact Goes.free | exact Goes.on rfl rfl (by with_reducible rfl) true (by decide)) rfl rfl (by simp only [go_sem, ↓reduceIte, Nat.reduceEqDiff, reduceCtorEq, Nat.reduceLT, Nat.reduceAdd, Int.reduceBEq, Int.reduceBNe, Int.reduceEq, Int.reduceLE, Int.reduceLT, Int.reduceToNat, Nat.reduceLeDiff, Nat.reduceMul, Nat.reduceSub, n1]; exact rfl) (by simp only [go_sem]) (by first | exact h1 | exact h2 | exact h3) (by first | rfl | simp [go_sem]) (by first | rfl | simp [go_sem]) ?_ | (refine LOps.thaw rfl rfl rfl rfl (by simp only [go_sem, ↓reduceIte, Nat.reduceEqDiff, reduceCtorEq, Nat.reduceLT, Nat.reduceAdd, Int.reduceBEq, Int.reduceBNe, Int.reduceEq, Int.reduceLE, Int.reduceLT, Int.reduceToNat, Nat.reduceLeDiff, Nat.reduceMul, Nat.reduceSub, n1]; exact rfl) (by simp only [go_sem, ↓reduceIte, Nat.reduceEqDiff, reduceCtorEq, Nat.reduceLT, Nat.reduceAdd, Int.reduceBEq, Int.reduceBNe, Int.reduceEq, Int.reduceLE, Int.reduceLT, Int.reduceToNat, Nat.reduceLeDiff, Nat.reduceMul, Nat.reduceSub, n1]; exact rfl) ?_; refine LOps.locFn (by first | exact Goes.free | exact Goes.on rfl rfl (by with_reducible rfl) true (by decide)) rfl rfl (by simp only [go_sem, ↓reduceIte, Nat.reduceEqDiff, reduceCtorEq, Nat.reduceLT, Nat.reduceAdd, Int.reduceBEq, Int.reduceBNe, Int.reduceEq, Int.reduceLE, Int.reduceLT, Int.reduceToNat, Nat.reduceLeDiff, Nat.reduceMul, Nat.reduceSub, n1]; exact rfl) (by simp only [go_sem]) (by first | exact h1 | exact h2 | exact h3) (by first | rfl | simp [go_sem]) (by first | rfl | simp [go_sem]) ?_) | (refine LOps.thaw rfl rfl rfl rfl (by simp only [go_sem, ↓reduceIte, Nat.reduceEqDiff, reduceCtorEq, Nat.reduceLT, Nat.reduceAdd, Int.reduceBEq, Int.reduceBNe, Int.reduceEq, Int.reduceLE, Int.reduceLT, Int.reduceToNat, Nat.reduceLeDiff, Nat.reduceMul, Nat.reduceSub, n1]; exact rfl) (by simp only [go_sem, ↓reduceIte, Nat.reduceEqDiff, reduceCtorEq, Nat.reduceLT, Nat.reduceAdd, Int.reduceBEq, Int.reduceBNe, Int.reduceEq, Int.reduceLE, Int.reduceLT, Int.reduceToNat, Nat.reduceLeDiff, Nat.reduceMul, Nat.reduceSub, n1]; exact rfl) ?_; refine LOps.thaw rfl rfl rfl rfl (by simp only [go_sem, ↓reduceIte, Nat.reduceEqDiff, reduceCtorEq, Nat.reduceLT, Nat.reduceAdd, Int.reduceBEq, Int.reduceBNe, Int.reduceEq, Int.reduceLE, Int.reduceLT, Int.reduceToNat, Nat.reduceLeDiff, Nat.reduceMul, Nat.reduceSub, n1]; exact rfl) (by simp only [go_sem, ↓reduceIte, Nat.reduceEqDiff, reduceCtorEq, Nat.reduceLT, Nat.reduceAdd, Int.reduceBEq, Int.reduceBNe, Int.reduceEq, Int.reduceLE, Int.reduceLT, Int.reduceToNat, Nat.reduceLeDiff, Nat.reduceMul, Nat.reduceSub, n1]; exact rfl) ?_; refine LOps.locFn (by first | exact Goes.free | exact Goes.on rfl rfl (by with_reducible rfl) true (by decide)) rfl rfl (by simp only [go_sem, ↓reduceIte, Nat.reduceEqDiff, reduceCtorEq, Nat.reduceLT, Nat.reduceAdd, Int.reduceBEq, Int.reduceBNe, Int.reduceEq, Int.reduceLE, Int.reduceLT, Int.reduceToNat, Nat.reduceLeDiff, Nat.reduceMul, Nat.reduceSub, n1]; exact rfl) (by simp only [go_sem]) (by first | exact h1 | exact h2 | exact h3) (by first | rfl | simp [go_sem]) (by first | rfl | simp [go_sem]) ?_) | (refine LOps.inline (by first | exact Goes.free | exact Goes.on rfl rfl (by with_reducible rfl) true (by decide)) rfl rfl (by simp only [go_sem, ↓reduceIte, Nat.reduceEqDiff, reduceCtorEq, Nat.reduceLT, Nat.reduceAdd, Int.reduceBEq, Int.reduceBNe, Int.reduceEq, Int.reduceLE, Int.reduceLT, Int.reduceToNat, Nat.reduceLeDiff, Nat.reduceMul, Nat.reduceSub, n1]; exact rfl) (by simp only [go_sem]) ?_; (first | (refine LCalls.mono (by first | exact h1 | exact h2 | exact h3) ?_; (rintro _ _ ⟨rfl, rfl⟩)) | (refine LCalls.enter Try.func6 rfl (by simp [Try.ntmps6]) (LK.start ?_); simp only [Try.ntmps6, enterA, Nat.zero_add]))) | (refine LOps.inline0 (by first | exact Goes.free | exact Goes.on rfl rfl (by with_reducible rfl) true (by decide)) rfl (by simp only [go_sem, ↓reduceIte, Nat.reduceEqDiff, reduceCtorEq, Nat.reduceLT, Nat.reduceAdd, Int.reduceBEq, Int.reduceBNe, Int.reduceEq, Int.reduceLE, Int.reduceLT, Int.reduceToNat, Nat.reduceLeDiff, Nat.reduceMul, Nat.reduceSub, n1]; exact rfl) (by simp only [go_sem]) ?_; (first | (refine LCalls.enter Try.func6 rfl (by simp [Try.ntmps6]) (LK.start ?_); simp only [Try.ntmps6, enterA, Nat.zero_add]))) | (apply LOps.and2; exact rfl; exact rfl; exact rfl; exact rfl; exact rfl; (focus (with_reducible rfl)); (focus (first | kernel_rfl | rfl))) | (apply LOps.or2; exact rfl; exact rfl; exact rfl; exact rfl; exact rfl; (focus (with_reducible rfl)); (focus (first | kernel_rfl | rfl))) | refine Under.mk (fun hg => ?_) | refine LOps.guard2 rfl rfl rfl (by with_reducible rfl) ?_ ?_ | fail)
  all_goals rfl
theorem chk_zero {l : List Ten} (h1 : 1 ≤ l.length) (h2 : l.length ≤ 16) (h3 : ∀ x ∈ l, oddT x = false) : chk l = 0 := by
  have hb : badT l = false := by
    have e : l.any oddT = false := by rw [List.any_eq_false]; exact fun x hx => by rw [h3 x hx]; simp
    simp only [badT, e, Bool.or_false, Bool.or_eq_false_iff, decide_eq_false_iff_not]; omega
  rw [chk, hb]; rfl
theorem chk_set {l : List Ten} {n : Nat} {y : Ten} (h : chk l = 0) (hy : oddT y = false) : chk (l.set n y) = 0 := by
  obtain ⟨h1, h2, h3⟩ := chk_len h
  refine chk_zero (by simpa using h1) (by simpa using h2) fun x hx => ?_
  rcases List.mem_or_eq_of_mem_set hx with hx | rfl
  · exact h3 x hx
  · exact hy
theorem chk_ne {l : List Ten} (h : chk l = 1) : ¬ chk l = 0 := by omega
theorem get_of {l : List Ten} {i : Int} (h : ¬ (i < 0 ∨ (l.length : Int) ≤ i)) : ∃ (n : Nat) (x : Ten), i = (n : Int) ∧ l[n]? = some x := by
  obtain ⟨k, rfl⟩ := Int.eq_ofNat_of_zero_le (show 0 ≤ i by omega)
  obtain ⟨x, hx⟩ := idx_all (show k < l.length by omega)
  exact ⟨k, x, rfl, hx⟩
theorem ad_inv {l : List Ten} {i : Int} (h : adE l i = 0) : chk l = 0 ∧ ∃ (n : Nat) (x : Ten), i = (n : Int) ∧ l[n]? = some x ∧ x.v ≠ x.q ∧ adL l i = l.set n { x with v := x.v + 1 } := by
  have h0 := h
  unfold adE at h
  split at h
  · cases h
  · rename_i hc
    split at h
    · cases h
    · rename_i hi
      obtain ⟨n, x, rfl, hx⟩ := get_of hi
      refine ⟨by rcases Classical.em (chk l = 0) with h | h; exact h; exact absurd (chk_one h) hc, n, x, rfl, hx, ?_, ?_⟩
      · simp only [Int.toNat_natCast, hx] at h
        split at h
        · cases h
        · assumption
      · simp only [adL, h0, if_true, Int.toNat_natCast, hx]
theorem ad_of {l : List Ten} {n : Nat} {x : Ten} (hc : chk l = 0) (hx : l[n]? = some x) (hv : x.v ≠ x.q) : adE l n = 0 ∧ adL l n = l.set n { x with v := x.v + 1 } := by
  have hlt := lt_of_get hx
  have e : adE l n = 0 := by
    unfold adE
    rw [if_neg (by omega), if_neg (by omega)]
    simp only [Int.toNat_natCast, hx, if_neg hv]
  exact ⟨e, by simp only [adL, e, if_true, Int.toNat_natCast, hx]⟩
theorem odd_up {x : Ten} (h : oddT x = false) (hv : x.v ≠ x.q) : oddT { x with v := x.v + 1 } = false := by
  have := not_odd h
  simp only [oddT, Bool.or_eq_false_iff, Bool.not_eq_false', win_iff]
  omega
theorem sumV_all (l : List Ten) : sumV l l.length = (l.map (·.v)).sum := by unfold sumV; rw [List.take_length]
theorem sum_set (f : Ten → Int) : ∀ (l : List Ten) (n : Nat) (x y : Ten), l[n]? = some x → ((l.set n y).map f).sum = (l.map f).sum - f x + f y
  | [], n, x, y, h => by simp at h
  | a :: l, 0, x, y, h => by obtain rfl : a = x := by simpa using h
                             simp; omega
  | a :: l, n + 1, x, y, h => by
    have := sum_set f l n x y (by simpa using h)
    simp only [List.set_cons_succ, List.map_cons, List.sum_cons, this]; omega
end Go.Proofs.Ytflcdaafhopkkaa
