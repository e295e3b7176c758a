/- The walks of chapter 16: the law PickAlone. -/
import Derived.Test.YtflfhgpcmocilaaK14
import Derived.Test.YtflfhgpcmocilaaK11
set_option linter.unusedSimpArgs false
set_option linter.unusedVariables false
namespace Go.Proofs.Ytflfhgpcmocilaa
open Go.Lw
attribute [local irreducible] LK LOps LW
theorem unB_obytes : ∀ l : List Int, unB (oF (cI .u8) l) = some l
  | [] => rfl
  | x :: l => by
    have := unB_obytes l
    simp [oF, rF, cI, unB] at this ⊢
    exact this
attribute [local go_sem] unB_obytes
def eqB (l l' : List Int) : Bool := (strOfNums l).toList == (strOfNums l').toList
theorem eqB_self (l : List Int) : eqB l l = true := by simp [eqB]
set_option maxHeartbeats 4000000 in
set_option maxRecDepth 10000 in
theorem sameR_fun (l l' : List Int) (a a' : Int) : Fun Try.prog 13 [dv l a, dv l' a'] (vb (eqB l l' && a == a')) := by
  (refine LCalls.enter Try.func13 rfl (by simp [Try.ntmps13]) (LK.start ?_); simp only [Try.ntmps13, enterA, Nat.zero_add])
  (repeat' first | refine LOps.done ?_ | (apply LOps.mv; (focus (first | exact Goes.free | exact Goes.on rfl rfl (by with_reducible rfl) true (by decide))); (focus (exact rfl)); (focus (exact rfl))) | (apply LOps.asg; (focus (first | exact Goes.free | exact Goes.on rfl rfl (by with_reducible rfl) true (by decide))); (focus (exact rfl)); (focus (exact rfl))) | (apply LOps.loc; (focus (first | exact Goes.free | exact Goes.on rfl rfl (by with_reducible rfl) true (by decide))); (focus (exact rfl)); (focus (exact rfl)); (focus (simp only [go_sem, ↓reduceIte, Nat.reduceEqDiff, reduceCtorEq, Nat.reduceLT, Nat.reduceAdd]; with_reducible rfl))) | (apply LOps.pass; (focus (first | exact Goes.on rfl rfl (by with_reducible rfl) false (by decide) | exact Goes.undef rfl rfl (by with_reducible rfl))); (focus (exact rfl))) | (apply LOps.scEnd; (focus (exact rfl)); (focus (with_reducible rfl))) | refine LK.seq ?_ | refine LK.ret' ?_ | refine LK.regc ?_ | (apply retQ; (focus (first | exact lres_one rfl | exact lres_more rfl | (simp only [lres, lresv, Try.results13, go_sem, ↓reduceIte, Nat.reduceEqDiff, reduceCtorEq, Nat.reduceLT, Nat.reduceAdd, Int.reduceBEq, Int.reduceBNe, Int.reduceEq, Int.reduceLE, Int.reduceLT, Int.reduceToNat, Nat.reduceLeDiff, Nat.reduceMul, Nat.reduceSub]; exact rfl)))) | (apply LOps.and2; exact rfl; exact rfl; exact rfl; exact rfl; exact rfl; (focus (with_reducible rfl)); (focus (first | kernel_rfl | rfl))) | refine Under.mk (fun hg => ?_) | fail)
  all_goals rfl
theorem octets_of {l : List Int} (h : ∀ n ∈ l, (Lit.int .u8 n).wf = true) : octB l := by
  intro x hx
  have := h x hx
  simp [Lit.wf, IntKind.min, IntKind.max, IntKind.bits, IntKind.signed] at this
  omega
def mx (y : Int) : Int := if y < 1 then 1 else y
/-- Others that have something where these have. -/
def oth (has more : List Int) : Nat → List Int
  | 0 => List.replicate has.length 0
  | k + 1 => if 0 < (has[k]?).getD 0 then (oth has more k).set k (mx ((more[k]?).getD 0)) else oth has more k
theorem oth_len (has more : List Int) : ∀ k, (oth has more k).length = has.length
  | 0 => by simp [oth]
  | k + 1 => by
    rw [oth]
    split
    · rw [List.length_set]; exact oth_len has more k
    · exact oth_len has more k
theorem oth_hi (has more : List Int) : ∀ (k j : Nat), k ≤ j → j < has.length → (oth has more k)[j]? = some 0
  | 0, j, _, h => by rw [oth, List.getElem?_replicate, if_pos h]
  | k + 1, j, hk, h => by
    rw [oth]
    split
    · rw [List.getElem?_set_ne (by omega)]; exact oth_hi has more k j (by omega) h
    · exact oth_hi has more k j (by omega) h
theorem oth_get (has more : List Int) : ∀ (k j : Nat), j < k → j < has.length → (oth has more k)[j]? = some (if 0 < (has[j]?).getD 0 then mx ((more[j]?).getD 0) else 0)
  | 0, j, h, _ => absurd h (Nat.not_lt_zero _)
  | k + 1, j, hk, h => by
    rw [oth]
    by_cases e : j = k
    · subst e
      split
      · rw [List.getElem?_set_self (by rw [oth_len]; exact h)]
      · exact oth_hi has more j j (Nat.le_refl _) h
    · split
      · rw [List.getElem?_set_ne (by omega)]; exact oth_get has more k j (by omega) h
      · exact oth_get has more k j (by omega) h
theorem mx_pos (y : Int) : 1 ≤ mx y := by unfold mx; split <;> omega
theorem thief_same {w w' : List Int} (h : ∀ v, hasV w v = hasV w' v) : ∀ p, thief w p = thief w' p
  | [] => rfl
  | v :: r => by
    have hv := h v
    simp only [hasV] at hv
    rw [thief, thief, thief_same h r]
    by_cases c : 0 < (w[v.toNat]?).getD 0
    · have c2 : 0 < (w'[v.toNat]?).getD 0 := by simpa [c] using hv.symm
      rw [if_pos c, if_pos c2]
    · have c2 : ¬ 0 < (w'[v.toNat]?).getD 0 := by
        intro c2; simp [c, c2] at hv
      rw [if_neg c, if_neg c2]
theorem min_ok {w : List Int} (h : 1 ≤ w.length) (hp : ∀ (j : Nat) (x : Int), w[j]? = some x → 0 ≤ x) : ¬ minV w < 0 := by
  intro hm
  obtain ⟨j, x, _, hx, hn⟩ := (minTo_neg (w := w) (k := w.length - 1) (by omega)).1 hm
  have := hp j x hx
  omega
theorem st_same (l has has' : List Int) (a me : Int) (hl : has'.length = has.length) (h1 : ∀ (j : Nat) (x : Int), has[j]? = some x → 0 ≤ x) (h2 : ∀ (j : Nat) (x : Int), has'[j]? = some x → 0 ≤ x) (hv : ∀ v, hasV has' v = hasV has v) :
    stE l has' a me = stE l has a me ∧ stN l has' a me = stN l has a me ∧ stL l has' a me = stL l has a me ∧ stA l has' a me = stA l has a me := by
  have e : stE l has' a me = stE l has a me := by
    unfold stE
    rw [hl]
    by_cases c : vE l a has.length me = 0
    · obtain ⟨k, j, e1, e2, hk, hj1, hj2, hme, hmn, ev, el, ea⟩ := vOk_inv c
      have m1 := min_ok (w := has) (by omega) h1
      have m2 := min_ok (w := has') (by omega) h2
      rw [if_pos c, if_pos c, if_neg m1, if_neg m2, thief_same hv]
    · rw [if_neg c, if_neg c]
  refine ⟨e, ?_, ?_, ?_⟩
  · unfold stN; rw [e, hl, thief_same hv]
  · unfold stL; rw [e]
  · unfold stA; rw [e, hl]
set_option maxHeartbeats 4000000 in
set_option maxRecDepth 10000 in
theorem alone_skip (l has more : List Int) (a me : Int) (h : 1000 < l.length ∨ 60 < has.length ∨ more.length < has.length) : Fun Try.prog 5 [dv l a, sI has, sI more, vi me] (vb true) := by
  have hc : (decide ((l.length : Int) > 1000) || decide ((has.length : Int) > 60) || decide ((more.length : Int) < (has.length : Int))) = true := by simp only [Bool.or_eq_true, decide_eq_true_eq]; omega
  (refine LCalls.enter Try.func5 rfl (by simp [Try.ntmps5]) (LK.start ?_); simp only [Try.ntmps5, enterA, Nat.zero_add])
  (repeat' first | refine LOps.done ?_ | (apply LOps.mv; (focus (first | exact Goes.free | exact Goes.on rfl rfl (by with_reducible rfl) true (by decide))); (focus (exact rfl)); (focus (exact rfl))) | (apply LOps.asg; (focus (first | exact Goes.free | exact Goes.on rfl rfl (by with_reducible rfl) true (by decide))); (focus (exact rfl)); (focus (exact rfl))) | (apply LOps.loc; (focus (first | exact Goes.free | exact Goes.on rfl rfl (by with_reducible rfl) true (by decide))); (focus (exact rfl)); (focus (exact rfl)); (focus (simp only [go_sem, ↓reduceIte, Nat.reduceEqDiff, reduceCtorEq, Nat.reduceLT, Nat.reduceAdd]; with_reducible rfl))) | (apply LOps.pass; (focus (first | exact Goes.on rfl rfl (by with_reducible rfl) false (by decide) | exact Goes.undef rfl rfl (by with_reducible rfl))); (focus (exact rfl))) | (apply LOps.scEnd; (focus (exact rfl)); (focus (with_reducible rfl))) | refine LK.seq ?_ | refine LK.skip ?_ | (apply LK.condF2; (focus (exact rfl)); (focus (with_reducible rfl)); (focus (first | with_reducible rfl | decide | (with_reducible exact Bool.false_and _) | (with_reducible exact congrArg (fun b => b && _) (Bool.false_and _))))) | refine LK.regc ?_ | (apply LOps.locFn; (focus (first | exact Goes.free | exact Goes.on rfl rfl (by with_reducible rfl) true (by decide))); (focus (exact rfl)); (focus (exact rfl)); (focus (simp only [go_sem]; exact rfl)); (focus (simp only [go_sem])); (focus (exact live_fun)); (focus (first | rfl | simp [go_sem])); (focus (first | rfl | simp [go_sem]))) | (apply LOps.or2; exact rfl; exact rfl; exact rfl; exact rfl; exact rfl; (focus (with_reducible rfl)); (focus (first | kernel_rfl | rfl))) | refine Under.mk (fun hg => ?_) | fail)
  refine LK.condT2 rfl (by first | with_reducible rfl | rfl) (hc) ?_
  (repeat' first | refine LOps.done ?_ | (apply LOps.mv; (focus (first | exact Goes.free | exact Goes.on rfl rfl (by with_reducible rfl) true (by decide))); (focus (exact rfl)); (focus (exact rfl))) | (apply LOps.asg; (focus (first | exact Goes.free | exact Goes.on rfl rfl (by with_reducible rfl) true (by decide))); (focus (exact rfl)); (focus (exact rfl))) | refine LK.seq ?_ | refine LK.ret' ?_ | refine LK.regc ?_ | (apply retQ; (focus (first | exact lres_one rfl | exact lres_more rfl | (simp only [lres, lresv, Try.results5, go_sem, ↓reduceIte, Nat.reduceEqDiff, reduceCtorEq, Nat.reduceLT, Nat.reduceAdd, Int.reduceBEq, Int.reduceBNe, Int.reduceEq, Int.reduceLE, Int.reduceLT, Int.reduceToNat, Nat.reduceLeDiff, Nat.reduceMul, Nat.reduceSub]; exact rfl)))) | fail)
  all_goals rfl
set_option maxHeartbeats 4000000 in
set_option maxRecDepth 10000 in
theorem alone_neg (l has more : List Int) (a me : Int) (h : ¬ (1000 < l.length ∨ 60 < has.length ∨ more.length < has.length)) (i : Nat) (y : Int) (hy : has[i]? = some y) (hyn : y < 0) (hlo : ∀ (j : Nat) (x : Int), j < i → has[j]? = some x → 0 ≤ x) : Fun Try.prog 5 [dv l a, sI has, sI more, vi me] (vb true) := by
  have hc : (decide ((l.length : Int) > 1000) || decide ((has.length : Int) > 60) || decide ((more.length : Int) < (has.length : Int))) = false := by simp only [Bool.or_eq_false_iff, decide_eq_false_iff_not]; omega
  have hm1 : has.length ≤ maxLen := by simp only [maxLen]; omega
  have hm2 : 8 * has.length ≤ 281474976710656 := by omega
  have hil := lt_of_get hy
  (refine LCalls.enter Try.func5 rfl (by simp [Try.ntmps5]) (LK.start ?_); simp only [Try.ntmps5, enterA, Nat.zero_add])
  (repeat' first | refine LOps.done ?_ | (apply LOps.mv; (focus (first | exact Goes.free | exact Goes.on rfl rfl (by with_reducible rfl) true (by decide))); (focus (exact rfl)); (focus (exact rfl))) | (apply LOps.asg; (focus (first | exact Goes.free | exact Goes.on rfl rfl (by with_reducible rfl) true (by decide))); (focus (exact rfl)); (focus (exact rfl))) | (apply LOps.loc; (focus (first | exact Goes.free | exact Goes.on rfl rfl (by with_reducible rfl) true (by decide))); (focus (exact rfl)); (focus (exact rfl)); (focus (simp only [go_sem, ↓reduceIte, Nat.reduceEqDiff, reduceCtorEq, Nat.reduceLT, Nat.reduceAdd]; with_reducible rfl))) | (apply LOps.pass; (focus (first | exact Goes.on rfl rfl (by with_reducible rfl) false (by decide) | exact Goes.undef rfl rfl (by with_reducible rfl))); (focus (exact rfl))) | (apply LOps.scEnd; (focus (exact rfl)); (focus (with_reducible rfl))) | refine LK.seq ?_ | refine LK.skip ?_ | (apply LK.condF2; (focus (exact rfl)); (focus (with_reducible rfl)); (focus (first | with_reducible rfl | decide | (with_reducible exact Bool.false_and _) | (with_reducible exact congrArg (fun b => b && _) (Bool.false_and _))))) | refine LK.regc ?_ | (apply LOps.locFn; (focus (first | exact Goes.free | exact Goes.on rfl rfl (by with_reducible rfl) true (by decide))); (focus (exact rfl)); (focus (exact rfl)); (focus (simp only [go_sem]; exact rfl)); (focus (simp only [go_sem])); (focus (exact live_fun)); (focus (first | rfl | simp [go_sem])); (focus (first | rfl | simp [go_sem]))) | (apply LOps.or2; exact rfl; exact rfl; exact rfl; exact rfl; exact rfl; (focus (with_reducible rfl)); (focus (first | kernel_rfl | rfl))) | refine Under.mk (fun hg => ?_) | fail)
  refine LK.condF2 rfl (by first | with_reducible rfl | rfl) (hc) ?_
  (repeat' first | refine LOps.done ?_ | (apply LOps.mv; (focus (first | exact Goes.free | exact Goes.on rfl rfl (by with_reducible rfl) true (by decide))); (focus (exact rfl)); (focus (exact rfl))) | (apply LOps.asg; (focus (first | exact Goes.free | exact Goes.on rfl rfl (by with_reducible rfl) true (by decide))); (focus (exact rfl)); (focus (exact rfl))) | (apply LOps.loc; (focus (first | exact Goes.free | exact Goes.on rfl rfl (by with_reducible rfl) true (by decide))); (focus (exact rfl)); (focus (exact rfl)); (focus (simp only [go_sem, ↓reduceIte, reduceCtorEq, Nat.reduceLT, Nat.reduceAdd, hm1, hm2]; with_reducible rfl))) | refine LK.seq ?_ | refine LK.skip ?_ | refine LK.block ?_ | refine LK.regc ?_ | fail)
  refine LK.loop (fun k : Nat => has.length - k) (fun k => k ≤ i) (fun k => ⟨95, [(1, sI has), (2, sI more), (9, vb true), (10, .own 1 has.length 0 has.length), (42, sI has), (43, vi has.length), (44, vi k)]⟩) (fun k => [(1, .arr 1 (oF (cI .i64) (oth has more k)))]) 0 (Nat.zero_le _) (by dsimp only [oth]; exact (Sub.by rfl rfl (by first | rfl | (simp only [subB, oF_all_under, LV.under, LO.under, List.all_cons, List.all_nil, decide_true, Nat.reduceLT, Bool.and_self]; done)))) ?_
  intro k hk J hJ
  obtain ⟨x, hx⟩ := idx_all (show k < has.length by omega)
  have i1 : ((k : Int) < (has.length : Int)) := by omega
  rcases Nat.lt_or_ge k i with hlt | hge
  · obtain ⟨u, hu⟩ := idx_all (show k < more.length by omega)
    have i2 : ((k : Int) < (more.length : Int)) := by omega
    have hw := wrapn (n := k) (by omega)
    have hol := oth_len has more k
    obtain ⟨z, hz⟩ := idx_all (show k < (oth has more k).length by omega)
    have c1 : ¬ (x < 0) := by have := hlo k x hlt hx; omega
    by_cases hp : 0 < x
    · have c2 : x > 0 := hp
      have hs : (oth has more k).set k (if u < 1 then 1 else u) = oth has more (k + 1) := by rw [oth, hx, hu]; simp [hp, mx]
      (repeat' first | refine LOps.done ?_ | (apply LOps.mv; (focus (first | exact Goes.free | exact Goes.on rfl rfl (by with_reducible rfl) true (by decide))); (focus (exact rfl)); (focus (exact rfl))) | (apply LOps.asg; (focus (first | exact Goes.free | exact Goes.on rfl rfl (by with_reducible rfl) true (by decide))); (focus (exact rfl)); (focus (exact rfl))) | (apply LOps.loc; (focus (first | exact Goes.free | exact Goes.on rfl rfl (by with_reducible rfl) true (by decide))); (focus (exact rfl)); (focus (exact rfl)); (focus (simp only [go_sem, ↓reduceIte, Nat.reduceEqDiff, Nat.reduceLT, i1, i2, hx, hu, hw, hol, c1, c2]; with_reducible rfl))) | (apply LOps.loc0; (focus (first | exact Goes.free | exact Goes.on rfl rfl (by with_reducible rfl) true (by decide))); (focus (exact rfl)); (focus (simp only [go_sem, ↓reduceIte, Nat.reduceEqDiff, Nat.reduceLT, hol, hz, hs]; with_reducible rfl))) | refine LK.seq ?_ | refine LK.skip ?_ | refine LK.block ?_ | refine LK.blk ?_ | refine LK.fin ?_ | (apply LK.condT2; (focus (exact rfl)); (focus (with_reducible rfl)); (focus (first | with_reducible rfl | decide | (with_reducible exact Bool.true_or _) | (with_reducible exact congrArg (fun b => b || _) (Bool.true_or _))))) | (apply LK.condF2; (focus (exact rfl)); (focus (with_reducible rfl)); (focus (first | with_reducible rfl | decide | (with_reducible exact Bool.false_and _) | (with_reducible exact congrArg (fun b => b && _) (Bool.false_and _))))) | refine LK.regc ?_ | fail)
      apply hJ
      exact ⟨k + 1, hlt, by omega, (Sub.by rfl rfl (by first | rfl | (simp only [subB, oF_all_under, LV.under, LO.under, List.all_cons, List.all_nil, decide_true, Nat.reduceLT, Bool.and_self]; done)))⟩
    · have c2 : ¬ (x > 0) := hp
      have hs : oth has more (k + 1) = oth has more k := by rw [oth, hx]; simp [hp]
      (repeat' first | refine LOps.done ?_ | (apply LOps.mv; (focus (first | exact Goes.free | exact Goes.on rfl rfl (by with_reducible rfl) true (by decide))); (focus (exact rfl)); (focus (exact rfl))) | (apply LOps.asg; (focus (first | exact Goes.free | exact Goes.on rfl rfl (by with_reducible rfl) true (by decide))); (focus (exact rfl)); (focus (exact rfl))) | (apply LOps.loc; (focus (first | exact Goes.free | exact Goes.on rfl rfl (by with_reducible rfl) true (by decide))); (focus (exact rfl)); (focus (exact rfl)); (focus (simp only [go_sem, ↓reduceIte, Nat.reduceEqDiff, Nat.reduceLT, i1, hx, hw, c1, c2]; with_reducible rfl))) | refine LK.seq ?_ | refine LK.skip ?_ | refine LK.block ?_ | refine LK.blk ?_ | refine LK.fin ?_ | (apply LK.condT2; (focus (exact rfl)); (focus (with_reducible rfl)); (focus (first | with_reducible rfl | decide | (with_reducible exact Bool.true_or _) | (with_reducible exact congrArg (fun b => b || _) (Bool.true_or _))))) | (apply LK.condF2; (focus (exact rfl)); (focus (with_reducible rfl)); (focus (first | with_reducible rfl | decide | (with_reducible exact Bool.false_and _) | (with_reducible exact congrArg (fun b => b && _) (Bool.false_and _))))) | refine LK.regc ?_ | fail)
      apply hJ
      refine ⟨k + 1, hlt, by omega, ?_⟩
      dsimp only
      rw [hs]
      exact (Sub.by rfl rfl (by first | rfl | (simp only [subB, oF_all_under, LV.under, LO.under, List.all_cons, List.all_nil, decide_true, Nat.reduceLT, Bool.and_self]; done)))
  · obtain rfl : k = i := by omega
    rw [hx] at hy
    obtain rfl := Option.some.inj hy
    (repeat' first | refine LOps.done ?_ | (apply LOps.mv; (focus (first | exact Goes.free | exact Goes.on rfl rfl (by with_reducible rfl) true (by decide))); (focus (exact rfl)); (focus (exact rfl))) | (apply LOps.asg; (focus (first | exact Goes.free | exact Goes.on rfl rfl (by with_reducible rfl) true (by decide))); (focus (exact rfl)); (focus (exact rfl))) | (apply LOps.loc; (focus (first | exact Goes.free | exact Goes.on rfl rfl (by with_reducible rfl) true (by decide))); (focus (exact rfl)); (focus (exact rfl)); (focus (simp only [go_sem, ↓reduceIte, Nat.reduceEqDiff, Nat.reduceLT, i1, hx, hyn]; with_reducible rfl))) | refine LK.seq ?_ | refine LK.skip ?_ | refine LK.block ?_ | refine LK.ret' ?_ | (apply LK.condT2; (focus (exact rfl)); (focus (with_reducible rfl)); (focus (first | with_reducible rfl | decide | (with_reducible exact Bool.true_or _) | (with_reducible exact congrArg (fun b => b || _) (Bool.true_or _))))) | refine LK.regc ?_ | (apply retQ; (focus (first | exact lres_one rfl | exact lres_more rfl | (simp only [lres, lresv, Try.results5, go_sem, ↓reduceIte, Nat.reduceEqDiff, reduceCtorEq, Nat.reduceLT, Nat.reduceAdd, Int.reduceBEq, Int.reduceBNe, Int.reduceEq, Int.reduceLE, Int.reduceLT, Int.reduceToNat, Nat.reduceLeDiff, Nat.reduceMul, Nat.reduceSub, i1, hx, hyn]; exact rfl)))) | fail)
    all_goals rfl
set_option maxHeartbeats 4000000 in
set_option maxRecDepth 10000 in
theorem alone_ok (l has more : List Int) (a me : Int) (h : ¬ (1000 < l.length ∨ 60 < has.length ∨ more.length < has.length)) (hb : octB l) (hlo : ∀ (j : Nat) (x : Int), has[j]? = some x → 0 ≤ x) : Fun Try.prog 5 [dv l a, sI has, sI more, vi me] (vb true) := by
  have hc : (decide ((l.length : Int) > 1000) || decide ((has.length : Int) > 60) || decide ((more.length : Int) < (has.length : Int))) = false := by simp only [Bool.or_eq_false_iff, decide_eq_false_iff_not]; omega
  have hm1 : has.length ≤ maxLen := by simp only [maxLen]; omega
  have hm2 : 8 * has.length ≤ 281474976710656 := by omega
  have s1 := steal_fun l has a me hb (by omega) (by omega)
  have s2 := steal_fun l (oth has more has.length) a me hb (by omega) (by rw [oth_len]; omega)
  have hgo : ∀ (j : Nat) (x : Int), (oth has more has.length)[j]? = some x → 0 ≤ x := by
    intro j x hx
    have hj := lt_of_get hx
    rw [oth_len] at hj
    rw [oth_get has more has.length j hj hj] at hx
    have := Option.some.inj hx
    have := mx_pos ((more[j]?).getD 0)
    split at * <;> omega
  have hhv : ∀ v, hasV (oth has more has.length) v = hasV has v := by
    intro v
    unfold hasV
    rcases Nat.lt_or_ge v.toNat has.length with hj | hj
    · rw [oth_get has more has.length v.toNat hj hj, Option.getD_some]
      have := mx_pos ((more[v.toNat]?).getD 0)
      by_cases c : 0 < (has[v.toNat]?).getD 0
      · rw [if_pos c]; simp [c]; omega
      · rw [if_neg c]; simp [c]
    · rw [List.getElem?_eq_none hj, List.getElem?_eq_none (by rw [oth_len]; exact hj)]
  obtain ⟨e1, e2, e3, e4⟩ := st_same l has (oth has more has.length) a me (oth_len _ _ _) hlo hgo hhv
  rw [e1, e2, e3, e4] at s2
  have s3 := sameR_fun (stL l has a me) (stL l has a me) (stA l has a me) (stA l has a me)
  rw [eqB_self] at s3
  (refine LCalls.enter Try.func5 rfl (by simp [Try.ntmps5]) (LK.start ?_); simp only [Try.ntmps5, enterA, Nat.zero_add])
  (repeat' first | refine LOps.done ?_ | (apply LOps.mv; (focus (first | exact Goes.free | exact Goes.on rfl rfl (by with_reducible rfl) true (by decide))); (focus (exact rfl)); (focus (exact rfl))) | (apply LOps.asg; (focus (first | exact Goes.free | exact Goes.on rfl rfl (by with_reducible rfl) true (by decide))); (focus (exact rfl)); (focus (exact rfl))) | (apply LOps.loc; (focus (first | exact Goes.free | exact Goes.on rfl rfl (by with_reducible rfl) true (by decide))); (focus (exact rfl)); (focus (exact rfl)); (focus (simp only [go_sem, ↓reduceIte, Nat.reduceEqDiff, reduceCtorEq, Nat.reduceLT, Nat.reduceAdd]; with_reducible rfl))) | (apply LOps.pass; (focus (first | exact Goes.on rfl rfl (by with_reducible rfl) false (by decide) | exact Goes.undef rfl rfl (by with_reducible rfl))); (focus (exact rfl))) | (apply LOps.scEnd; (focus (exact rfl)); (focus (with_reducible rfl))) | refine LK.seq ?_ | refine LK.skip ?_ | (apply LK.condF2; (focus (exact rfl)); (focus (with_reducible rfl)); (focus (first | with_reducible rfl | decide | (with_reducible exact Bool.false_and _) | (with_reducible exact congrArg (fun b => b && _) (Bool.false_and _))))) | refine LK.regc ?_ | (apply LOps.locFn; (focus (first | exact Goes.free | exact Goes.on rfl rfl (by with_reducible rfl) true (by decide))); (focus (exact rfl)); (focus (exact rfl)); (focus (simp only [go_sem]; exact rfl)); (focus (simp only [go_sem])); (focus (exact live_fun)); (focus (first | rfl | simp [go_sem])); (focus (first | rfl | simp [go_sem]))) | (apply LOps.or2; exact rfl; exact rfl; exact rfl; exact rfl; exact rfl; (focus (with_reducible rfl)); (focus (first | kernel_rfl | rfl))) | refine Under.mk (fun hg => ?_) | fail)
  refine LK.condF2 rfl (by first | with_reducible rfl | rfl) (hc) ?_
  (repeat' first | refine LOps.done ?_ | (apply LOps.mv; (focus (first | exact Goes.free | exact Goes.on rfl rfl (by with_reducible rfl) true (by decide))); (focus (exact rfl)); (focus (exact rfl))) | (apply LOps.asg; (focus (first | exact Goes.free | exact Goes.on rfl rfl (by with_reducible rfl) true (by decide))); (focus (exact rfl)); (focus (exact rfl))) | (apply LOps.loc; (focus (first | exact Goes.free | exact Goes.on rfl rfl (by with_reducible rfl) true (by decide))); (focus (exact rfl)); (focus (exact rfl)); (focus (simp only [go_sem, ↓reduceIte, reduceCtorEq, Nat.reduceLT, Nat.reduceAdd, hm1, hm2]; with_reducible rfl))) | refine LK.seq ?_ | refine LK.skip ?_ | refine LK.block ?_ | refine LK.regc ?_ | fail)
  refine LK.loop (fun k : Nat => has.length - k) (fun k => k ≤ has.length) (fun k => ⟨95, [(1, sI has), (2, sI more), (3, vi me), (4, .ptr 0 1 0 0), (9, vb true), (10, .own 1 has.length 0 has.length), (42, sI has), (43, vi has.length), (44, vi k)]⟩) (fun k => [(0, .arr 2 [[sU l, vi a]]), (1, .arr 1 (oF (cI .i64) (oth has more k)))]) 0 (Nat.zero_le _) (by dsimp only [oth]; exact (Sub.by rfl rfl (by first | rfl | (simp only [subB, oF_all_under, LV.under, LO.under, List.all_cons, List.all_nil, decide_true, Nat.reduceLT, Bool.and_self]; done)))) ?_
  intro k hk J hJ
  have hol := oth_len has more k
  rcases Nat.lt_or_ge k has.length with hlt | hge
  · obtain ⟨x, hx⟩ := idx_all hlt
    have i1 : ((k : Int) < (has.length : Int)) := by omega
    obtain ⟨u, hu⟩ := idx_all (show k < more.length by omega)
    have i2 : ((k : Int) < (more.length : Int)) := by omega
    have hw := wrapn (n := k) (by omega)
    obtain ⟨z, hz⟩ := idx_all (show k < (oth has more k).length by omega)
    have c1 : ¬ (x < 0) := by have := hlo k x hx; omega
    by_cases hp : 0 < x
    · have c2 : x > 0 := hp
      have hs : (oth has more k).set k (if u < 1 then 1 else u) = oth has more (k + 1) := by rw [oth, hx, hu]; simp [hp, mx]
      (repeat' first | refine LOps.done ?_ | (apply LOps.mv; (focus (first | exact Goes.free | exact Goes.on rfl rfl (by with_reducible rfl) true (by decide))); (focus (exact rfl)); (focus (exact rfl))) | (apply LOps.asg; (focus (first | exact Goes.free | exact Goes.on rfl rfl (by with_reducible rfl) true (by decide))); (focus (exact rfl)); (focus (exact rfl))) | (apply LOps.loc; (focus (first | exact Goes.free | exact Goes.on rfl rfl (by with_reducible rfl) true (by decide))); (focus (exact rfl)); (focus (exact rfl)); (focus (simp only [go_sem, ↓reduceIte, Nat.reduceEqDiff, reduceCtorEq, Nat.reduceLT, i1, i2, hx, hu, hw, hol, c1, c2]; with_reducible rfl))) | (apply LOps.loc0; (focus (first | exact Goes.free | exact Goes.on rfl rfl (by with_reducible rfl) true (by decide))); (focus (exact rfl)); (focus (simp only [go_sem, ↓reduceIte, Nat.reduceEqDiff, reduceCtorEq, Nat.reduceLT, hol, hz, hs]; with_reducible rfl))) | refine LK.seq ?_ | refine LK.skip ?_ | refine LK.block ?_ | refine LK.blk ?_ | refine LK.fin ?_ | (apply LK.condT2; (focus (exact rfl)); (focus (with_reducible rfl)); (focus (first | with_reducible rfl | decide | (with_reducible exact Bool.true_or _) | (with_reducible exact congrArg (fun b => b || _) (Bool.true_or _))))) | (apply LK.condF2; (focus (exact rfl)); (focus (with_reducible rfl)); (focus (first | with_reducible rfl | decide | (with_reducible exact Bool.false_and _) | (with_reducible exact congrArg (fun b => b && _) (Bool.false_and _))))) | refine LK.regc ?_ | fail)
      apply hJ
      exact ⟨k + 1, hlt, by omega, (Sub.by rfl rfl (by first | rfl | (simp only [subB, oF_all_under, LV.under, LO.under, List.all_cons, List.all_nil, decide_true, Nat.reduceLT, Bool.and_self]; done)))⟩
    · have c2 : ¬ (x > 0) := hp
      have hs : oth has more (k + 1) = oth has more k := by rw [oth, hx]; simp [hp]
      (repeat' first | refine LOps.done ?_ | (apply LOps.mv; (focus (first | exact Goes.free | exact Goes.on rfl rfl (by with_reducible rfl) true (by decide))); (focus (exact rfl)); (focus (exact rfl))) | (apply LOps.asg; (focus (first | exact Goes.free | exact Goes.on rfl rfl (by with_reducible rfl) true (by decide))); (focus (exact rfl)); (focus (exact rfl))) | (apply LOps.loc; (focus (first | exact Goes.free | exact Goes.on rfl rfl (by with_reducible rfl) true (by decide))); (focus (exact rfl)); (focus (exact rfl)); (focus (simp only [go_sem, ↓reduceIte, Nat.reduceEqDiff, Nat.reduceLT, i1, hx, hw, c1, c2]; with_reducible rfl))) | refine LK.seq ?_ | refine LK.skip ?_ | refine LK.block ?_ | refine LK.blk ?_ | refine LK.fin ?_ | (apply LK.condT2; (focus (exact rfl)); (focus (with_reducible rfl)); (focus (first | with_reducible rfl | decide | (with_reducible exact Bool.true_or _) | (with_reducible exact congrArg (fun b => b || _) (Bool.true_or _))))) | (apply LK.condF2; (focus (exact rfl)); (focus (with_reducible rfl)); (focus (first | with_reducible rfl | decide | (with_reducible exact Bool.false_and _) | (with_reducible exact congrArg (fun b => b && _) (Bool.false_and _))))) | refine LK.regc ?_ | fail)
      apply hJ
      refine ⟨k + 1, hlt, by omega, ?_⟩
      dsimp only
      rw [hs]
      exact (Sub.by rfl rfl (by first | rfl | (simp only [subB, oF_all_under, LV.under, LO.under, List.all_cons, List.all_nil, decide_true, Nat.reduceLT, Bool.and_self]; done)))
  · obtain rfl : k = has.length := by omega
    have i1 : ¬ ((has.length : Int) < (has.length : Int)) := by omega
    have ht : (oth has more has.length).take has.length = oth has more has.length := List.take_of_length_le (by omega)
    (repeat' first | refine LOps.done ?_ | (apply LOps.mv; (focus (first | exact Goes.free | exact Goes.on rfl rfl (by with_reducible rfl) true (by decide))); (focus (exact rfl)); (focus (exact rfl))) | (apply LOps.asg; (focus (first | exact Goes.free | exact Goes.on rfl rfl (by with_reducible rfl) true (by decide))); (focus (exact rfl)); (focus (exact rfl))) | (apply LOps.ext; (focus (first | exact Goes.free | exact Goes.on rfl rfl (by with_reducible rfl) true (by decide))); (focus (exact rfl)); (focus (exact rfl)); (focus (exact rfl))) | (apply LOps.loc; (focus (first | exact Goes.free | exact Goes.on rfl rfl (by with_reducible rfl) true (by decide))); (focus (exact rfl)); (focus (exact rfl)); (focus (simp only [go_sem, ↓reduceIte, Nat.reduceEqDiff, reduceCtorEq, Nat.reduceLT, Nat.reduceAdd, i1]; with_reducible rfl))) | (apply LOps.loc0; (focus (first | exact Goes.free | exact Goes.on rfl rfl (by with_reducible rfl) true (by decide))); (focus (exact rfl)); (focus (simp only [go_sem, ↓reduceIte, Nat.reduceEqDiff, reduceCtorEq, Nat.reduceLT, Nat.reduceAdd]; with_reducible rfl))) | refine LK.seq ?_ | refine LK.ret' ?_ | refine LK.exit' rfl ?_ | (apply LK.condF2; (focus (exact rfl)); (focus (with_reducible rfl)); (focus (first | with_reducible rfl | decide | (with_reducible exact Bool.false_and _) | (with_reducible exact congrArg (fun b => b && _) (Bool.false_and _))))) | refine LK.regc ?_ | (apply retQ; (focus (first | exact lres_one rfl | exact lres_more rfl | (simp only [lres, lresv, Try.results5, go_sem, ↓reduceIte, Nat.reduceEqDiff, reduceCtorEq, Nat.reduceLT, Nat.reduceAdd, Int.reduceBEq, Int.reduceBNe, Int.reduceEq, Int.reduceLE, Int.reduceLT, Int.reduceToNat, Nat.reduceLeDiff, Nat.reduceMul, Nat.reduceSub, i1, hol, ht]; exact rfl)))) | (apply LOps.locFn; (focus (first | exact Goes.free | exact Goes.on rfl rfl (by with_reducible rfl) true (by decide))); (focus (exact rfl)); (focus (exact rfl)); (focus (simp only [go_sem, ↓reduceIte, Nat.reduceEqDiff]; exact rfl)); (focus (simp only [go_sem])); (focus (first | exact s1 | exact s2 | exact s3)); (focus (first | rfl | simp [go_sem])); (focus (first | rfl | simp [go_sem]))) | ((apply LOps.thaw; (focus (exact rfl)); (focus (exact rfl)); (focus (exact rfl)); (focus (exact rfl)); (focus (simp only [go_sem, ↓reduceIte, reduceCtorEq, hol, ht]; exact rfl)); (focus (simp only [go_sem, ↓reduceIte, Nat.reduceEqDiff, reduceCtorEq]; exact rfl))); (apply LOps.locFn; (focus (first | exact Goes.free | exact Goes.on rfl rfl (by with_reducible rfl) true (by decide))); (focus (exact rfl)); (focus (exact rfl)); (focus (simp only [go_sem, ↓reduceIte, Nat.reduceEqDiff]; exact rfl)); (focus (simp only [go_sem])); (focus (first | exact s1 | exact s2 | exact s3)); (focus (first | rfl | simp [go_sem])); (focus (first | rfl | simp [go_sem])))) | fail)
    all_goals simp
theorem alone_fun (l has more : List Int) (a me : Int) (hb : octB l) : Fun Try.prog 5 [dv l a, sI has, sI more, vi me] (vb true) := by
  by_cases h : 1000 < l.length ∨ 60 < has.length ∨ more.length < has.length
  · exact alone_skip l has more a me h
  · rcases first_of (w := has) (p := fun x => decide (x < 0)) with hno | ⟨i, y, h1, h2, h3⟩
    · refine alone_ok l has more a me h hb fun j x hx => ?_
      have := hno x (List.mem_of_getElem? hx)
      simp only [decide_eq_false_iff_not] at this; omega
    · refine alone_neg l has more a me h i y h1 (by simpa using h2) fun j x hj hx => ?_
      have := h3 j x hj hx
      simp only [decide_eq_false_iff_not] at this; omega
end Go.Proofs.Ytflfhgpcmocilaa
