/- The walks of chapter 14: the chapter's example; what admitting does; the law LodgeApart. -/
import Derived.Test.YtflcdaafhopkkaaL6
set_option linter.unusedSimpArgs false
set_option linter.unusedVariables false
namespace Go.Proofs.Ytflcdaafhopkkaa
open Go.Lw
attribute [local irreducible] LK LOps LW
set_option maxHeartbeats 4000000 in
set_option maxRecDepth 10000 in
theorem live_fun : Fun Try.prog 6 [] (vb true) := by
  have h1 := new_fun [3] [1] (by decide) (by decide)
  rw [show nwL [3] [1] = [⟨3, 1, 0, 0, 0⟩] by decide +kernel, show nwE [3] [1] = 0 by decide +kernel] at h1
  have h2 := admit_fun [⟨3, 1, 0, 0, 0⟩] 0 (by decide)
  rw [show adL [⟨3, 1, 0, 0, 0⟩] 0 = [⟨3, 1, 1, 0, 0⟩] by decide +kernel, show adE [⟨3, 1, 0, 0, 0⟩] 0 = 0 by decide +kernel] at h2
  have h3 := admit_fun [⟨3, 1, 1, 0, 0⟩] 0 (by decide)
  rw [show adL [⟨3, 1, 1, 0, 0⟩] 0 = [] by decide +kernel, show adE [⟨3, 1, 1, 0, 0⟩] 0 = 10 by decide +kernel] at h3
  have n1 : ((1 : Nat) : Int) = 1 := rfl
  (refine LCalls.enter Try.func6 rfl (by simp [Try.ntmps6]) (LK.start ?_); simp only [Try.ntmps6, enterA])
  (repeat' first | refine LOps.done ?_ | (apply LOps.mv; (focus (first | exact Goes.free | exact Goes.on rfl rfl (by with_reducible rfl) true (by decide))); (focus (exact rfl)); (focus (exact rfl))) | (apply LOps.asg; (focus (first | exact Goes.free | exact Goes.on rfl rfl (by with_reducible rfl) true (by decide))); (focus (exact rfl)); (focus (exact rfl))) | (apply LOps.ext; (focus (first | exact Goes.free | exact Goes.on rfl rfl (by with_reducible rfl) true (by decide))); (focus (exact rfl)); (focus (exact rfl)); (focus (exact rfl))) | (apply LOps.loc; (focus (first | exact Goes.free | exact Goes.on rfl rfl (by with_reducible rfl) true (by decide))); (focus (exact rfl)); (focus (exact rfl)); (focus (simp only [go_sem, ↓reduceIte, Nat.reduceEqDiff, reduceCtorEq, Nat.reduceLT, Nat.reduceAdd, Int.reduceLE, Int.reduceLT, Nat.reduceLeDiff, n1]; with_reducible rfl))) | refine LK.seq ?_ | refine LK.ret' ?_ | refine LK.regc ?_ | (apply retQ; (focus (first | exact lres_one rfl | exact lres_more rfl | (simp only [lres, lresv, Try.results6, go_sem, ↓reduceIte, Nat.reduceEqDiff, reduceCtorEq, Nat.reduceLT, Nat.reduceAdd, Int.reduceBEq, Int.reduceBNe, Int.reduceEq, Int.reduceLE, Int.reduceLT, Int.reduceToNat, Nat.reduceLeDiff, Nat.reduceMul, Nat.reduceSub, n1]; exact rfl)))) | (apply LOps.locFn; (focus (first | exact Goes.free | exact Goes.on rfl rfl (by with_reducible rfl) true (by decide))); (focus (exact rfl)); (focus (exact rfl)); (focus (simp only [go_sem, ↓reduceIte, Nat.reduceEqDiff]; exact rfl)); (focus (simp only [go_sem])); (focus (first | exact h1 | exact h2 | exact h3)); (focus (first | rfl | simp [go_sem])); (focus (first | rfl | simp [go_sem]))) | ((apply LOps.thaw; (focus (exact rfl)); (focus (exact rfl)); (focus (exact rfl)); (focus (exact rfl)); (focus (simp only [go_sem, ↓reduceIte]; exact rfl)); (focus (simp only [go_sem, ↓reduceIte, reduceCtorEq]; exact rfl))); (apply LOps.thaw; (focus (exact rfl)); (focus (exact rfl)); (focus (exact rfl)); (focus (exact rfl)); (focus (simp only [go_sem, ↓reduceIte]; exact rfl)); (focus (simp only [go_sem, ↓reduceIte]; exact rfl))); (apply LOps.locFn; (focus (first | exact Goes.free | exact Goes.on rfl rfl (by with_reducible rfl) true (by decide))); (focus (exact rfl)); (focus (exact rfl)); (focus (simp only [go_sem, ↓reduceIte, Nat.reduceEqDiff]; exact rfl)); (focus (simp only [go_sem])); (focus (first | exact h1 | exact h2 | exact h3)); (focus (first | rfl | simp [go_sem])); (focus (first | rfl | simp [go_sem])))) | fail)
  all_goals rfl
theorem chk_zero {l : List Ten} (h1 : 1 ≤ l.length) (h2 : l.length ≤ 16) (h3 : ∀ x ∈ l, oddT x = false) : chk l = 0 := by
  have hb : badT l = false := by
    have e : l.any oddT = false := by rw [List.any_eq_false]; exact fun x hx => by rw [h3 x hx]; simp
    simp only [badT, e, Bool.or_false, Bool.or_eq_false_iff, decide_eq_false_iff_not]; omega
  rw [chk, hb]; rfl
theorem chk_set {l : List Ten} {n : Nat} {y : Ten} (h : chk l = 0) (hy : oddT y = false) : chk (l.set n y) = 0 := by
  obtain ⟨h1, h2, h3⟩ := chk_len h
  refine chk_zero (by simpa using h1) (by simpa using h2) fun x hx => ?_
  rcases List.mem_or_eq_of_mem_set hx with hx | rfl
  · exact h3 x hx
  · exact hy
theorem chk_ne {l : List Ten} (h : chk l = 1) : ¬ chk l = 0 := by omega
theorem get_of {l : List Ten} {i : Int} (h : ¬ (i < 0 ∨ (l.length : Int) ≤ i)) : ∃ (n : Nat) (x : Ten), i = (n : Int) ∧ l[n]? = some x := by
  obtain ⟨k, rfl⟩ := Int.eq_ofNat_of_zero_le (show 0 ≤ i by omega)
  obtain ⟨x, hx⟩ := idx_all (show k < l.length by omega)
  exact ⟨k, x, rfl, hx⟩
theorem ad_inv {l : List Ten} {i : Int} (h : adE l i = 0) : chk l = 0 ∧ ∃ (n : Nat) (x : Ten), i = (n : Int) ∧ l[n]? = some x ∧ x.v ≠ x.q ∧ adL l i = l.set n { x with v := x.v + 1 } := by
  have h0 := h
  unfold adE at h
  split at h
  · cases h
  · rename_i hc
    split at h
    · cases h
    · rename_i hi
      obtain ⟨n, x, rfl, hx⟩ := get_of hi
      refine ⟨by rcases Classical.em (chk l = 0) with h | h; exact h; exact absurd (chk_one h) hc, n, x, rfl, hx, ?_, ?_⟩
      · simp only [Int.toNat_natCast, hx] at h
        split at h
        · cases h
        · assumption
      · simp only [adL, h0, if_true, Int.toNat_natCast, hx]
theorem ad_of {l : List Ten} {n : Nat} {x : Ten} (hc : chk l = 0) (hx : l[n]? = some x) (hv : x.v ≠ x.q) : adE l n = 0 ∧ adL l n = l.set n { x with v := x.v + 1 } := by
  have hlt := lt_of_get hx
  have e : adE l n = 0 := by
    unfold adE
    rw [if_neg (by omega), if_neg (by omega)]
    simp only [Int.toNat_natCast, hx, if_neg hv]
  exact ⟨e, by simp only [adL, e, if_true, Int.toNat_natCast, hx]⟩
theorem odd_up {x : Ten} (h : oddT x = false) (hv : x.v ≠ x.q) : oddT { x with v := x.v + 1 } = false := by
  have := not_odd h
  simp only [oddT, Bool.or_eq_false_iff, Bool.not_eq_false', win_iff]
  omega
theorem sumV_all (l : List Ten) : sumV l l.length = (l.map (·.v)).sum := by unfold sumV; rw [List.take_length]
theorem sum_set (f : Ten → Int) : ∀ (l : List Ten) (n : Nat) (x y : Ten), l[n]? = some x → ((l.set n y).map f).sum = (l.map f).sum - f x + f y
  | [], n, x, y, h => by simp at h
  | a :: l, 0, x, y, h => by obtain rfl : a = x := by simpa using h
                             simp; omega
  | a :: l, n + 1, x, y, h => by
    have := sum_set f l n x y (by simpa using h)
    simp only [List.set_cons_succ, List.map_cons, List.sum_cons, this]; omega
end Go.Proofs.Ytflcdaafhopkkaa
