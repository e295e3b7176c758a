/- Chapter 15: the example; FairBack. -/
import Derived.Test.YteecmlhmddgkkaaF6
set_option linter.unusedSimpArgs false
set_option linter.unusedVariables false
namespace Go.Proofs.Yteecmlhmddgkkaa
open Go.Lw
attribute [local irreducible] LK LOps LW
abbrev two (a b : Int) : List Ten := [⟨1, 1, 0, a, 0⟩, ⟨2, 1, 0, b, 0⟩]
theorem two_least (a b i : Int) (h1 : lsV (two a b) [true, true] = i) (h2 : lsE (two a b) [true, true] = 0) : Fun Try.prog 10 [sT (two a b), sB [true, true]] (.tup [vi i, vi 0]) := by
  have := least_fun (two a b) [true, true] (by simp) (by decide)
  rwa [h1, h2] at this
theorem two_charge (a b i c d : Int) (h1 : chL (two a b) i 1 = two c d) (h2 : chE (two a b) i 1 = 0) : Fun Try.prog 11 [sT (two a b), vi i, vi 1] (.tup [sT (two c d), vi 0]) := by
  have := charge_fun (two a b) i 1 (by simp) (by decide)
  rwa [h1, h2] at this
set_option maxHeartbeats 4000000 in
set_option maxRecDepth 20000 in
theorem live_fun : Fun Try.prog 8 [] (vb true) := by
  have hn := new_fun [1, 2] [1, 1] (by decide) (by decide)
  rw [show nwL [1, 2] [1, 1] = two 0 0 by decide +kernel, show nwE [1, 2] [1, 1] = 0 by decide +kernel] at hn
  have a0 := two_least 0 0 0 (by decide +kernel) (by decide +kernel)
  have b0 := two_charge 0 0 0 720720 0 (by decide +kernel) (by decide +kernel)
  have a1 := two_least 720720 0 1 (by decide +kernel) (by decide +kernel)
  have b1 := two_charge 720720 0 1 720720 360360 (by decide +kernel) (by decide +kernel)
  have a2 := two_least 720720 360360 1 (by decide +kernel) (by decide +kernel)
  have b2 := two_charge 720720 360360 1 720720 720720 (by decide +kernel) (by decide +kernel)
  have a3 := two_least 720720 720720 0 (by decide +kernel) (by decide +kernel)
  have b3 := two_charge 720720 720720 0 1441440 720720 (by decide +kernel) (by decide +kernel)
  have a4 := two_least 1441440 720720 1 (by decide +kernel) (by decide +kernel)
  have b4 := two_charge 1441440 720720 1 1441440 1081080 (by decide +kernel) (by decide +kernel)
  have a5 := two_least 1441440 1081080 1 (by decide +kernel) (by decide +kernel)
  have b5 := two_charge 1441440 1081080 1 1441440 1441440 (by decide +kernel) (by decide +kernel)
  have n6 : ((6 : Nat) : Int) = 6 := rfl
  (refine LCalls.enter Try.func8 rfl (by simp [Try.ntmps8]) (LK.start ?_); simp only [Try.ntmps8, enterA])
  (repeat' first | refine LOps.done ?_ | (apply LOps.mv; (focus (first | exact Goes.free | exact Goes.on rfl rfl (by with_reducible rfl) true (by decide))); (focus (exact rfl)); (focus (exact rfl))) | (apply LOps.asg; (focus (first | exact Goes.free | exact Goes.on rfl rfl (by with_reducible rfl) true (by decide))); (focus (exact rfl)); (focus (exact rfl))) | (apply LOps.ext; (focus (first | exact Goes.free | exact Goes.on rfl rfl (by with_reducible rfl) true (by decide))); (focus (exact rfl)); (focus (exact rfl)); (focus (exact rfl))) | (apply LOps.loc; (focus (first | exact Goes.free | exact Goes.on rfl rfl (by with_reducible rfl) true (by decide))); (focus (exact rfl)); (focus (exact rfl)); (focus (simp only [go_sem, ↓reduceIte, Nat.reduceEqDiff, reduceCtorEq, Nat.reduceLT, Nat.reduceAdd, Int.reduceBNe, Int.reduceLE, Int.reduceLT, Int.reduceToNat, Nat.reduceLeDiff, n6, wrap_small, Int.reduceAdd, Int.reduceToNat, Int.reduceLT, Int.reduceLE, Int.zero_add]; with_reducible rfl))) | refine LK.seq ?_ | refine LK.skip ?_ | refine LK.block ?_ | refine LK.blk ?_ | refine LK.fin ?_ | refine LK.ret' ?_ | refine LK.exit' rfl ?_ | (apply LK.condT2; (focus (exact rfl)); (focus (with_reducible rfl)); (focus (first | with_reducible rfl | decide | (with_reducible exact Bool.true_or _) | (with_reducible exact congrArg (fun b => b || _) (Bool.true_or _))))) | (apply LK.condF2; (focus (exact rfl)); (focus (with_reducible rfl)); (focus (first | with_reducible rfl | decide | (with_reducible exact Bool.false_and _) | (with_reducible exact congrArg (fun b => b && _) (Bool.false_and _))))) | refine LK.regc ?_ | (apply retQ; (focus (first | exact lres_one rfl | exact lres_more rfl | (simp only [lres, lresv, Try.results8, go_sem, ↓reduceIte, Nat.reduceEqDiff, reduceCtorEq, Nat.reduceLT, Nat.reduceAdd, Int.reduceBEq, Int.reduceBNe, Int.reduceEq, Int.reduceLE, Int.reduceLT, Int.reduceToNat, Nat.reduceLeDiff, Nat.reduceMul, Nat.reduceSub, n6, wrap_small, Int.reduceAdd, Int.reduceSub, Int.reduceMul, Int.reduceMod, Int.reduceNeg, Int.reduceToNat, Int.reduceLT, Int.reduceLE, Int.reduceGT, Int.reduceGE, Int.zero_add, Int.add_zero, List.replicate_succ, List.replicate_zero, Nat.reduceSub]; exact rfl)))) | (apply LOps.locFn; (focus (first | exact Goes.free | exact Goes.on rfl rfl (by with_reducible rfl) true (by decide))); (focus (exact rfl)); (focus (exact rfl)); (focus (simp only [go_sem, ↓reduceIte, Nat.reduceEqDiff]; exact rfl)); (focus (simp only [go_sem])); (focus (first | exact hn | exact a0 | exact b0 | exact a1 | exact b1 | exact a2 | exact b2 | exact a3 | exact b3 | exact a4 | exact b4 | exact a5 | exact b5)); (focus (first | rfl | simp [go_sem])); (focus (first | rfl | simp [go_sem]))) | (apply LOps.borrowFn; (focus (first | exact Goes.free | exact Goes.on rfl rfl (by with_reducible rfl) true (by decide))); (focus (exact rfl)); (focus (exact rfl)); (focus (simp only [go_sem, ↓reduceIte, Nat.reduceEqDiff]; exact rfl)); (focus (simp only [go_sem])); (focus (simp only [go_sem, ↓reduceIte, Nat.reduceEqDiff, reduceCtorEq, Nat.reduceAdd]; exact rfl)); (focus (first | exact hn | exact a0 | exact b0 | exact a1 | exact b1 | exact a2 | exact b2 | exact a3 | exact b3 | exact a4 | exact b4 | exact a5 | exact b5)); (focus (first | rfl | simp [go_sem])); (focus (exact rfl))) | ((apply LOps.thaw; (focus (exact rfl)); (focus (exact rfl)); (focus (exact rfl)); (focus (exact rfl)); (focus (simp only [go_sem, ↓reduceIte, Nat.reduceAdd]; exact rfl)); (focus (simp only [go_sem, ↓reduceIte, reduceCtorEq]; exact rfl))); (apply LOps.thaw; (focus (exact rfl)); (focus (exact rfl)); (focus (exact rfl)); (focus (exact rfl)); (focus (simp only [go_sem, ↓reduceIte, Nat.reduceAdd]; exact rfl)); (focus (simp only [go_sem, ↓reduceIte]; exact rfl))); (apply LOps.locFn; (focus (first | exact Goes.free | exact Goes.on rfl rfl (by with_reducible rfl) true (by decide))); (focus (exact rfl)); (focus (exact rfl)); (focus (simp only [go_sem, ↓reduceIte, Nat.reduceEqDiff]; exact rfl)); (focus (simp only [go_sem])); (focus (first | exact hn | exact a0 | exact b0 | exact a1 | exact b1 | exact a2 | exact b2 | exact a3 | exact b3 | exact a4 | exact b4 | exact a5 | exact b5)); (focus (first | rfl | simp [go_sem])); (focus (first | rfl | simp [go_sem])))) | refine LK.rounds 7 ?_ | fail)
  all_goals rfl
theorem odd_tag {x : Ten} {t : Int} (h : oddT x = false) (h0 : 0 ≤ t) (h1 : t ≤ 1152921504606846976) : oddT { x with tag := t } = false := by
  simp only [oddT, Bool.or_eq_false_iff, Bool.not_eq_false', win_iff] at h ⊢
  omega
theorem co_small {w u : Int} (hw : 1 ≤ w ∧ w ≤ 16) (hu : 0 ≤ u ∧ u ≤ 4294967296) : coE w u = 0 ∧ coC w u = u * (720720 / w) ∧ 0 ≤ u * (720720 / w) ∧ u * (720720 / w) ≤ 4294967296 * 720720 := by
  obtain ⟨_, q2, q3⟩ := quo_w (w := w) (by omega)
  have h0 : 0 ≤ u * (720720 / w) := Int.mul_nonneg (by omega) (by omega)
  have h1 : u * (720720 / w) ≤ 4294967296 * 720720 := Int.mul_le_mul hu.2 q3 (by omega) (by omega)
  have e : coE w u = 0 := by rw [coE, if_neg (by omega), if_neg (by omega)]
  exact ⟨e, by rw [coC, e, if_pos rfl], h0, h1⟩
theorem ch_at {l : List Ten} {n : Nat} {x : Ten} {u : Int} (hc : chk l = 0) (hx : l[n]? = some x) (he : coE x.w u = 0) : chE l n u = (if 1152921504606846976 - x.tag < coC x.w u then 4 else 0) ∧ chL l n u = (if 1152921504606846976 - x.tag < coC x.w u then [] else l.set n { x with tag := x.tag + coC x.w u }) := by
  have ha := at_of hc hx
  have e1 : chE l n u = (if 1152921504606846976 - x.tag < coC x.w u then 4 else 0) := by
    simp only [chE, ha, ne_eq, not_true_eq_false, if_false, Int.toNat_natCast, hx, he]
  refine ⟨e1, ?_⟩
  rw [chL, e1]
  split
  · rw [if_neg (by omega)]
  · rw [if_pos rfl]; simp only [Int.toNat_natCast, hx]
theorem rf_at {l : List Ten} {n : Nat} {x : Ten} {u : Int} (hc : chk l = 0) (hx : l[n]? = some x) (he : coE x.w u = 0) (hb : coC x.w u ≤ x.tag) : rfE l n u = 0 ∧ rfL l n u = l.set n { x with tag := x.tag - coC x.w u } := by
  have ha := at_of hc hx
  have e1 : rfE l n u = 0 := by
    simp only [rfE, ha, ne_eq, not_true_eq_false, if_false, Int.toNat_natCast, hx, he]
    rw [if_neg (by omega), if_neg (by omega)]
  refine ⟨e1, ?_⟩
  rw [rfL, e1, if_pos rfl]; simp only [Int.toNat_natCast, hx]
theorem set_same {l : List Ten} {n : Nat} {x : Ten} (h : l[n]? = some x) : l.set n x = l := by
  obtain ⟨hn, e⟩ := List.getElem?_eq_some_iff.1 h
  subst e
  exact List.set_getElem_self hn
theorem ch_more {l : List Ten} {i a b : Int} (ha : 0 ≤ a ∧ a ≤ 1073741824) (hb : 0 ≤ b ∧ b ≤ 1073741824) (h : chE l i a ≠ 0) : chE l i (a + b) = chE l i a := by
  by_cases hat : atE l i = 0
  · obtain ⟨hc, n, x, rfl, hi, hx, ho⟩ := at_inv hat
    have hno := not_odd ho
    obtain ⟨s1, s2, s3, s4⟩ := co_small (w := x.w) (u := a) (by omega) (by omega)
    obtain ⟨t1, t2, t3, t4⟩ := co_small (w := x.w) (u := a + b) (by omega) (by omega)
    obtain ⟨r1, r2, r3, r4⟩ := co_small (w := x.w) (u := b) (by omega) (by omega)
    rw [(ch_at hc hx s1).1, s2] at h ⊢
    rw [(ch_at hc hx t1).1, t2, Int.add_mul]
    split at h
    · rw [if_pos (by omega), if_pos (by assumption)]
    · exact absurd rfl h
  · rw [chE, chE, if_pos hat, if_pos hat]
theorem ch_two {l : List Ten} {i a b : Int} (ha : 0 ≤ a ∧ a ≤ 1073741824) (hb : 0 ≤ b ∧ b ≤ 1073741824) (h : chE l i a = 0) : chE (chL l i a) i b = chE l i (a + b) ∧ chL (chL l i a) i b = chL l i (a + b) ∧ rfE (chL l i a) i a = 0 ∧ rfL (chL l i a) i a = l := by
  have hat : atE l i = 0 := by
    by_cases hat : atE l i = 0
    · exact hat
    · rw [chE, if_pos hat] at h; exact h
  obtain ⟨hc, n, x, rfl, hi, hx, ho⟩ := at_inv hat
  have hno := not_odd ho
  obtain ⟨s1, s2, s3, s4⟩ := co_small (w := x.w) (u := a) (by omega) (by omega)
  obtain ⟨t1, t2, t3, t4⟩ := co_small (w := x.w) (u := a + b) (by omega) (by omega)
  obtain ⟨r1, r2, r3, r4⟩ := co_small (w := x.w) (u := b) (by omega) (by omega)
  obtain ⟨c1, c2⟩ := ch_at hc hx s1
  obtain ⟨c3, c4⟩ := ch_at hc hx t1
  rw [s2] at c1 c2
  rw [t2, Int.add_mul] at c3 c4
  rw [c1] at h
  have hle : ¬ (1152921504606846976 - x.tag < a * (720720 / x.w)) := by
    intro hh; rw [if_pos hh] at h; cases h
  rw [if_neg hle] at c2
  have hx2 : (l.set n { x with tag := x.tag + a * (720720 / x.w) })[n]? = some { x with tag := x.tag + a * (720720 / x.w) } := List.getElem?_set_self hi
  have hc2 : chk (l.set n { x with tag := x.tag + a * (720720 / x.w) }) = 0 := chk_set hc (odd_tag ho (by omega) (by omega))
  obtain ⟨d1, d2⟩ := ch_at (u := b) hc2 hx2 r1
  obtain ⟨e1, e2⟩ := rf_at (u := a) hc2 hx2 s1 (by simp only [s2]; omega)
  rw [c2, c3, c4, d1, d2, e1, e2]
  simp only [r2, s2]
  refine ⟨?_, ?_, trivial, ?_⟩
  · by_cases hb2 : 1152921504606846976 - x.tag < a * (720720 / x.w) + b * (720720 / x.w)
    · rw [if_pos hb2, if_pos (by omega)]
    · rw [if_neg hb2, if_neg (by omega)]
  · by_cases hb2 : 1152921504606846976 - x.tag < a * (720720 / x.w) + b * (720720 / x.w)
    · rw [if_pos hb2, if_pos (by omega)]
    · rw [if_neg hb2, if_neg (by omega), List.set_set, Int.add_assoc]
  · rw [List.set_set, Int.add_sub_cancel]
    exact set_same hx
theorem co_double {k m : Int} (hk : 1 ≤ k ∧ k ≤ 8) (hm : 0 ≤ m ∧ m ≤ 1073741824) : coC k m = 2 * coC (2 * k) m := by
  rw [(co_small (w := k) (u := m) (by omega) (by omega)).2.1, (co_small (w := 2 * k) (u := m) (by omega) (by omega)).2.1]
  have : k = 1 ∨ k = 2 ∨ k = 3 ∨ k = 4 ∨ k = 5 ∨ k = 6 ∨ k = 7 ∨ k = 8 := by omega
  rcases this with rfl | rfl | rfl | rfl | rfl | rfl | rfl | rfl <;> omega
theorem chL_len (l : List Ten) (i u : Int) : (chL l i u).length ≤ l.length := by
  unfold chL
  split
  · split <;> simp
  · simp
theorem rfL_len (l : List Ten) (i u : Int) : (rfL l i u).length ≤ l.length := by
  unfold rfL
  split
  · split <;> simp
  · simp
end Go.Proofs.Yteecmlhmddgkkaa
