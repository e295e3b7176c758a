/- The walks of chapter 17: what the exported functions answer; the chapter's example; Count; the law IdleCounts. -/
import Derived.Test.YtnfmkijakhpgbaaI6
set_option linter.unusedSimpArgs false
set_option linter.unusedVariables false
namespace Go.Proofs.Ytnfmkijakhpgbaa
open Go.Lw
attribute [local irreducible] LK LOps LW
/-- Spin. -/
def spB (a s : List Int) (i : Int) : Bool := if bcE a s i [0] = 0 then fit (a.set i.toNat 1) else false
def spA (a s : List Int) (i : Int) : List Int := if bcE a s i [0] = 0 then (if fit (a.set i.toNat 1) = true then a.set i.toNat 1 else (a.set i.toNat 1).set i.toNat 0) else []
def spS (a s : List Int) (i : Int) : List Int := if bcE a s i [0] = 0 then wo s i else []
/-- Found. -/
def foE (a s : List Int) (i : Int) : Int := bcE a s i [0, 1, 2]
def foA (a s : List Int) (i : Int) : List Int := if foE a s i = 0 then a.set i.toNat 0 else []
def foS (a s : List Int) (i : Int) : List Int := if foE a s i = 0 then wo s i else []
/-- Announce. -/
def anE (a s : List Int) (i : Int) : Int := bcE a s i [0, 1]
def anA (a s : List Int) (i : Int) : List Int := if anE a s i = 0 then a.set i.toNat 2 else []
def anS (a s : List Int) (i : Int) : List Int := if anE a s i = 0 then s ++ [i] else []
/-- Park. -/
def pkE (a s : List Int) (i : Int) : Int := if bcE a s i [2] = 0 then (if fit (a.set i.toNat 3) = true then 0 else 9) else bcE a s i [2]
def pkA (a s : List Int) (i : Int) : List Int := if pkE a s i = 0 then a.set i.toNat 3 else []
def pkS (a s : List Int) (i : Int) : List Int := if pkE a s i = 0 then s else []
/-- Wake. -/
def lastI (s : List Int) : Int := s.getD (s.length - 1) 0
def wkE (a s : List Int) : Int := if chk a s = 1 then 1 else if s = [] then 5 else 0
def wkI (a s : List Int) : Int := if wkE a s = 0 then lastI s else 0
def wkA (a s : List Int) : List Int := if wkE a s = 0 then a.set (lastI s).toNat 0 else []
def wkS (a s : List Int) : List Int := if wkE a s = 0 then wo s (lastI s) else []
theorem spin_fun (a s : List Int) (i : Int) (hl : a.length ≤ 100000) (hs : s.length ≤ 100000) : Fun Try.prog 18 [dv a s, vi i] (.tup [vb (spB a s i), dv (spA a s i) (spS a s i), vi (bcE a s i [0])]) := by
  by_cases h : bcE a s i [0] = 0
  · obtain ⟨ho, n, x, rfl, hx, hm⟩ := bc_inv h
    obtain ⟨m1, m2, S, h1, h2, h3, h4⟩ := become_own a s [0] n a.length 1 x ho rfl hx hm (by decide) (by omega)
    have := lt_of_get hx
    have := spin_ok a s n a.length m1 m2 _ _ S _ (by simp) (by omega) h1 h2 h3 h4
    simpa [spB, spA, spS, h, bcS] using this
  · have := spin_err a s i _ h (become_err a s [0] i 1 hl hs (by decide) h)
    simpa [spB, spA, spS, h] using this
theorem found_fun (a s : List Int) (i : Int) (hl : a.length ≤ 100000) (hs : s.length ≤ 100000) : Fun Try.prog 12 [dv a s, vi i] (.tup [dv (foA a s i) (foS a s i), vi (foE a s i)]) := by
  by_cases h : foE a s i = 0
  · obtain ⟨ho, n, x, rfl, hx, hm⟩ := bc_inv h
    obtain ⟨m1, m2, S, h1, h2, h3, h4⟩ := become_own a s [0, 1, 2] n a.length 0 x ho rfl hx hm (by decide) (by omega)
    have := found_ok a s n a.length m1 m2 _ _ S _ (by simp) h1 h2 h3 h4
    simpa [foA, foS, h, bcS] using this
  · have := found_err a s i _ (become_err a s [0, 1, 2] i 0 hl hs (by decide) h)
    rw [foA, foS, if_neg h, if_neg h]; exact this
theorem ann_fun (a s : List Int) (i : Int) (hl : a.length ≤ 100000) (hs : s.length ≤ 100000) : Fun Try.prog 11 [dv a s, vi i] (.tup [dv (anA a s i) (anS a s i), vi (anE a s i)]) := by
  by_cases h : anE a s i = 0
  · obtain ⟨ho, n, x, rfl, hx, hm⟩ := bc_inv h
    obtain ⟨m1, m2, S, h1, h2, h3, h4⟩ := become_own a s [0, 1] n a.length 2 x ho rfl hx hm (by decide) (by omega)
    have := ann_ok a s n a.length m1 m2 _ _ S _ (by simp) h1 h2 h3 h4
    simpa [anA, anS, h, bcS] using this
  · have := ann_err a s i _ (become_err a s [0, 1] i 2 hl hs (by decide) h)
    rw [anA, anS, if_neg h, if_neg h]; exact this
theorem park_fun (a s : List Int) (i : Int) (hl : a.length ≤ 100000) (hs : s.length ≤ 100000) : Fun Try.prog 15 [dv a s, vi i] (.tup [dv (pkA a s i) (pkS a s i), vi (pkE a s i)]) := by
  by_cases h : bcE a s i [2] = 0
  · obtain ⟨ho, n, x, rfl, hx, hm⟩ := bc_inv h
    obtain ⟨m1, m2, S, h1, h2, h3, h4⟩ := become_own a s [2] n a.length 3 x ho rfl hx hm (by decide) (by omega)
    cases hf : fit (a.set n 3) with
    | true =>
      rw [hf] at h4
      have := park_ok a s n a.length m1 m2 _ S _ (by simp) h1 h2 h3 h4
      simpa [pkA, pkS, pkE, h, hf, bcS] using this
    | false =>
      rw [hf] at h4
      have := park_no a s n a.length m1 m2 _ S h4
      simpa [pkA, pkS, pkE, h, hf] using this
  · have := park_err a s i _ h (become_err a s [2] i 3 hl hs (by decide) h)
    simpa [pkA, pkS, pkE, h] using this
theorem okI_last {a s : List Int} (h : okI a s) (hs : s ≠ []) : ∃ (p n : Nat) (x : Int), s.length = p + 1 ∧ lastI s = (n : Int) ∧ s[p]? = some (n : Int) ∧ a[n]? = some x ∧ x ∈ [2, 3] := by
  obtain ⟨o1, o2, o3, o4, o5, o6, o7⟩ := h
  have hp : 0 < s.length := List.length_pos_iff.2 hs
  obtain ⟨y, hy⟩ := idx_all (show s.length - 1 < s.length by omega)
  obtain ⟨q1, q2, q3⟩ := o6 y (List.mem_of_getElem? hy)
  obtain ⟨n, rfl⟩ := Int.eq_ofNat_of_zero_le q1
  obtain ⟨x, hx⟩ := idx_all (show n < a.length by omega)
  rw [Int.toNat_natCast, getD_of hx] at q3
  have := o1 x (List.mem_of_getElem? hx)
  refine ⟨s.length - 1, n, x, by omega, ?_, hy, hx, ?_⟩
  · simp [lastI, List.getD_eq_getElem?_getD, hy]
  · have : x = 2 ∨ x = 3 := by omega
    rcases this with rfl | rfl <;> simp
theorem wake_fun (a s : List Int) (hl : a.length ≤ 100000) (hs : s.length ≤ 100000) : Fun Try.prog 13 [dv a s] (.tup [vi (wkI a s), dv (wkA a s) (wkS a s), vi (wkE a s)]) := by
  have hck := check_fun a s hl hs
  by_cases ho : okI a s
  · rw [chk_ok ho] at hck
    by_cases he : s = []
    · subst he
      have e : wkE a [] = 5 := by rw [wkE, chk_ok ho]; rfl
      simp only [wkI, wkA, wkS, e]
      exact wake_none a hck
    · have e : wkE a s = 0 := by rw [wkE, chk_ok ho, if_neg (by omega), if_neg he]
      obtain ⟨p, n, x, hp, hla, hpn, hx, hm⟩ := okI_last ho he
      obtain ⟨m1, m2, S, h1, h2, h3, h4⟩ := become_own a s [2, 3] n a.length 0 x ho rfl hx hm (by decide) (by omega)
      have := wake_ok a s n a.length m1 m2 p _ _ S _ hck hp hpn (by simp) h1 h2 h3 (by omega) h4
      simpa [wkI, wkA, wkS, e, hla, bcS] using this
  · rw [chk_no ho] at hck
    have e : wkE a s = 1 := by rw [wkE, chk_no ho, if_pos rfl]
    simp only [wkI, wkA, wkS, e]
    exact wake_bad a s hck
set_option maxHeartbeats 4000000 in
set_option maxRecDepth 10000 in
theorem live_fun : Fun Try.prog 7 [] (vb true) := by
  have h1 := new_fun 2 (by decide) (by decide)
  rw [show List.replicate 2 (0 : Int) = [0, 0] from rfl, show (((2 : Nat) : Int)) = 2 from rfl] at h1
  have h2 := spin_fun [0, 0] [] 0 (by decide) (by decide)
  rw [show spB [0, 0] [] 0 = true by decide +kernel, show spA [0, 0] [] 0 = [1, 0] by decide +kernel, show spS [0, 0] [] 0 = [] by decide +kernel, show bcE [0, 0] [] 0 [0] = 0 by decide +kernel] at h2
  have h3 := spin_fun [1, 0] [] 1 (by decide) (by decide)
  rw [show spB [1, 0] [] 1 = false by decide +kernel, show spA [1, 0] [] 1 = [1, 0] by decide +kernel, show spS [1, 0] [] 1 = [] by decide +kernel, show bcE [1, 0] [] 1 [0] = 0 by decide +kernel] at h3
  have h4 := check_fun [1, 0] [] (by decide) (by decide)
  rw [show chk [1, 0] [] = 0 by decide +kernel] at h4
  (refine LCalls.enter Try.func7 rfl (by simp [Try.ntmps7]) (LK.start ?_); simp only [Try.ntmps7, enterA])
  (repeat' first | refine LOps.done ?_ | (apply LOps.mv; (focus (first | exact Goes.free | exact Goes.on rfl rfl (by with_reducible rfl) true (by decide))); (focus (exact rfl)); (focus (exact rfl))) | (apply LOps.asg; (focus (first | exact Goes.free | exact Goes.on rfl rfl (by with_reducible rfl) true (by decide))); (focus (exact rfl)); (focus (exact rfl))) | (apply LOps.ext; (focus (first | exact Goes.free | exact Goes.on rfl rfl (by with_reducible rfl) true (by decide))); (focus (exact rfl)); (focus (exact rfl)); (focus (exact rfl))) | (apply LOps.loc; (focus (first | exact Goes.free | exact Goes.on rfl rfl (by with_reducible rfl) true (by decide))); (focus (exact rfl)); (focus (exact rfl)); (focus (simp only [go_sem, ↓reduceIte, Nat.reduceEqDiff, reduceCtorEq, Nat.reduceLT, Nat.reduceAdd]; with_reducible rfl))) | (apply LOps.loc0; (focus (first | exact Goes.free | exact Goes.on rfl rfl (by with_reducible rfl) true (by decide))); (focus (exact rfl)); (focus (simp only [go_sem, ↓reduceIte, Nat.reduceEqDiff, Nat.reduceLT, Nat.reduceAdd]; with_reducible rfl))) | refine LK.seq ?_ | refine LK.ret' ?_ | refine LK.regc ?_ | (apply retQ; (focus (first | exact lres_one rfl | exact lres_more rfl | (simp only [lres, lresv, Try.results7, go_sem, ↓reduceIte, Nat.reduceEqDiff, reduceCtorEq, Nat.reduceLT, Nat.reduceAdd, Int.reduceBEq, Int.reduceBNe, Int.reduceEq, Int.reduceLE, Int.reduceLT, Int.reduceToNat, Nat.reduceLeDiff, Nat.reduceMul, Nat.reduceSub]; exact rfl)))) | (apply LOps.locFn; (focus (first | exact Goes.free | exact Goes.on rfl rfl (by with_reducible rfl) true (by decide))); (focus (exact rfl)); (focus (exact rfl)); (focus (simp only [go_sem, ↓reduceIte]; exact rfl)); (focus (simp only [go_sem])); (focus (first | exact h1 | exact h2 | exact h3 | exact h4)); (focus (first | rfl | simp [go_sem])); (focus (first | rfl | simp [go_sem]))) | fail)
  all_goals rfl
set_option maxHeartbeats 4000000 in
set_option maxRecDepth 10000 in
theorem count_bad (a s : List Int) (w : Int) (hck : Fun Try.prog 9 [dv a s] (vi 1)) : Fun Try.prog 8 [dv a s, vi w] (.tup [vi 0, vi 1]) := by
  (refine LCalls.enter Try.func8 rfl (by simp [Try.ntmps8]) (LK.start ?_); simp only [Try.ntmps8, enterA, Nat.zero_add])
  (repeat' first | refine LOps.done ?_ | (apply LOps.mv; (focus (first | exact Goes.free | exact Goes.on rfl rfl (by with_reducible rfl) true (by decide))); (focus (exact rfl)); (focus (exact rfl))) | (apply LOps.loc; (focus (first | exact Goes.free | exact Goes.on rfl rfl (by with_reducible rfl) true (by decide))); (focus (exact rfl)); (focus (exact rfl)); (focus (simp only [go_sem, ↓reduceIte, reduceCtorEq, Nat.reduceLT, Nat.reduceAdd, Int.reduceBNe]; with_reducible rfl))) | (apply LOps.pass; (focus (first | exact Goes.on rfl rfl (by with_reducible rfl) false (by decide) | exact Goes.undef rfl rfl (by with_reducible rfl))); (focus (exact rfl))) | refine LK.seq ?_ | refine LK.ret' ?_ | (apply LK.condT2; (focus (exact rfl)); (focus (with_reducible rfl)); (focus (first | with_reducible rfl | decide | (with_reducible exact Bool.true_or _) | (with_reducible exact congrArg (fun b => b || _) (Bool.true_or _))))) | refine LK.regc ?_ | (apply retQ; (focus (first | exact lres_one rfl | exact lres_more rfl | (simp only [lres, lresv, Try.results8, go_sem, ↓reduceIte, Nat.reduceEqDiff, reduceCtorEq, Nat.reduceLT, Nat.reduceAdd, Int.reduceBEq, Int.reduceBNe, Int.reduceEq, Int.reduceLE, Int.reduceLT, Int.reduceToNat, Nat.reduceLeDiff, Nat.reduceMul, Nat.reduceSub]; exact rfl)))) | (apply LOps.locFn; (focus (first | exact Goes.free | exact Goes.on rfl rfl (by with_reducible rfl) true (by decide))); (focus (exact rfl)); (focus (exact rfl)); (focus (simp only [go_sem, ↓reduceIte]; exact rfl)); (focus (simp only [go_sem])); (focus (exact hck)); (focus (first | rfl | simp [go_sem])); (focus (first | rfl | simp [go_sem]))) | fail)
  all_goals rfl
set_option maxHeartbeats 4000000 in
set_option maxRecDepth 10000 in
theorem count_far (a s : List Int) (w : Int) (hck : Fun Try.prog 9 [dv a s] (vi 0)) (h : w < 0 ∨ 3 < w) : Fun Try.prog 8 [dv a s, vi w] (.tup [vi 0, vi 1]) := by
  have hc : (decide (w < 0) || decide (w > 3)) = true := by simp only [Bool.or_eq_true, decide_eq_true_eq]; omega
  (refine LCalls.enter Try.func8 rfl (by simp [Try.ntmps8]) (LK.start ?_); simp only [Try.ntmps8, enterA, Nat.zero_add])
  (repeat' first | refine LOps.done ?_ | (apply LOps.mv; (focus (first | exact Goes.free | exact Goes.on rfl rfl (by with_reducible rfl) true (by decide))); (focus (exact rfl)); (focus (exact rfl))) | (apply LOps.loc; (focus (first | exact Goes.free | exact Goes.on rfl rfl (by with_reducible rfl) true (by decide))); (focus (exact rfl)); (focus (exact rfl)); (focus (simp only [go_sem, ↓reduceIte, Nat.reduceEqDiff, reduceCtorEq, Nat.reduceLT, Nat.reduceAdd, Int.reduceBNe]; with_reducible rfl))) | (apply LOps.pass; (focus (first | exact Goes.on rfl rfl (by with_reducible rfl) false (by decide) | exact Goes.undef rfl rfl (by with_reducible rfl))); (focus (exact rfl))) | (apply LOps.scEnd; (focus (exact rfl)); (focus (with_reducible rfl))) | refine LK.seq ?_ | refine LK.regc ?_ | (apply LOps.locFn; (focus (first | exact Goes.free | exact Goes.on rfl rfl (by with_reducible rfl) true (by decide))); (focus (exact rfl)); (focus (exact rfl)); (focus (simp only [go_sem, ↓reduceIte]; exact rfl)); (focus (simp only [go_sem])); (focus (exact hck)); (focus (first | rfl | simp [go_sem])); (focus (first | rfl | simp [go_sem]))) | (apply LOps.or2; exact rfl; exact rfl; exact rfl; exact rfl; exact rfl; (focus (with_reducible rfl)); (focus (first | kernel_rfl | rfl))) | refine Under.mk (fun hg => ?_) | fail)
  refine LK.condT2 rfl (by first | with_reducible rfl | rfl) (hc) ?_
  (repeat' first | refine LOps.done ?_ | (apply LOps.loc; (focus (first | exact Goes.free | exact Goes.on rfl rfl (by with_reducible rfl) true (by decide))); (focus (exact rfl)); (focus (exact rfl)); (focus (simp only [go_sem]; with_reducible rfl))) | refine LK.seq ?_ | refine LK.ret' ?_ | refine LK.regc ?_ | (apply retQ; (focus (first | exact lres_one rfl | exact lres_more rfl | (simp only [lres, lresv, Try.results8, go_sem, ↓reduceIte, Nat.reduceEqDiff, reduceCtorEq, Nat.reduceLT, Nat.reduceAdd, Int.reduceBEq, Int.reduceBNe, Int.reduceEq, Int.reduceLE, Int.reduceLT, Int.reduceToNat, Nat.reduceLeDiff, Nat.reduceMul, Nat.reduceSub]; exact rfl)))) | fail)
  all_goals rfl
set_option maxHeartbeats 4000000 in
set_option maxRecDepth 10000 in
theorem count_ok (a s : List Int) (w : Int) (ho : okI a s) (h : 0 ≤ w ∧ w ≤ 3) (hck : Fun Try.prog 9 [dv a s] (vi 0)) : Fun Try.prog 8 [dv a s, vi w] (.tup [vi (num a w), vi 0]) := by
  have hct := counted_ok a s (by have := ho.2.2.1; omega) ho.1
  have hc : w = 0 ∨ w = 1 ∨ w = 2 ∨ w = 3 := by omega
  rcases hc with rfl | rfl | rfl | rfl <;>
  · (refine LCalls.enter Try.func8 rfl (by simp [Try.ntmps8]) (LK.start ?_); simp only [Try.ntmps8, enterA, Nat.zero_add])
    (repeat' first | refine LOps.done ?_ | (apply LOps.mv; (focus (first | exact Goes.free | exact Goes.on rfl rfl (by with_reducible rfl) true (by decide))); (focus (exact rfl)); (focus (exact rfl))) | (apply LOps.asg; (focus (first | exact Goes.free | exact Goes.on rfl rfl (by with_reducible rfl) true (by decide))); (focus (exact rfl)); (focus (exact rfl))) | (apply LOps.ext; (focus (first | exact Goes.free | exact Goes.on rfl rfl (by with_reducible rfl) true (by decide))); (focus (exact rfl)); (focus (exact rfl)); (focus (exact rfl))) | (apply LOps.loc; (focus (first | exact Goes.free | exact Goes.on rfl rfl (by with_reducible rfl) true (by decide))); (focus (exact rfl)); (focus (exact rfl)); (focus (simp only [go_sem, ↓reduceIte, Nat.reduceEqDiff, reduceCtorEq, Nat.reduceLT, Nat.reduceAdd, Int.reduceBNe, Int.reduceLE, Int.reduceLT, Int.reduceToNat, n4, Int.reduceGT]; with_reducible rfl))) | (apply LOps.loc0; (focus (first | exact Goes.free | exact Goes.on rfl rfl (by with_reducible rfl) true (by decide))); (focus (exact rfl)); (focus (simp only [go_sem, ↓reduceIte, Nat.reduceEqDiff, reduceCtorEq, Nat.reduceLT, Nat.reduceAdd]; with_reducible rfl))) | refine LK.seq ?_ | refine LK.skip ?_ | refine LK.ret' ?_ | (apply LK.condF2; (focus (exact rfl)); (focus (with_reducible rfl)); (focus (first | with_reducible rfl | decide | (with_reducible exact Bool.false_and _) | (with_reducible exact congrArg (fun b => b && _) (Bool.false_and _))))) | refine LK.regc ?_ | (apply retQ; (focus (first | exact lres_one rfl | exact lres_more rfl | (simp only [lres, lresv, Try.results8, go_sem, ↓reduceIte, Nat.reduceEqDiff, reduceCtorEq, Nat.reduceLT, Nat.reduceAdd, Int.reduceBEq, Int.reduceBNe, Int.reduceEq, Int.reduceLE, Int.reduceLT, Int.reduceToNat, Nat.reduceLeDiff, Nat.reduceMul, Nat.reduceSub, n4, Int.reduceGT]; exact rfl)))) | (apply LOps.locFn; (focus (first | exact Goes.free | exact Goes.on rfl rfl (by with_reducible rfl) true (by decide))); (focus (exact rfl)); (focus (exact rfl)); (focus (simp only [go_sem, ↓reduceIte]; exact rfl)); (focus (simp only [go_sem])); (focus (first | exact hck | exact hct)); (focus (first | rfl | simp [go_sem])); (focus (first | rfl | simp [go_sem]))) | fail)
    all_goals rfl
set_option maxHeartbeats 4000000 in
set_option maxRecDepth 10000 in
theorem counts_skip (a s : List Int) (h : 100 < a.length ∨ 100 < s.length) : Fun Try.prog 3 [dv a s] (vb true) := by
  have hc : (decide ((a.length : Int) > 100) || decide ((s.length : Int) > 100)) = true := by simp only [Bool.or_eq_true, decide_eq_true_eq]; omega
  (refine LCalls.enter Try.func3 rfl (by simp [Try.ntmps3]) (LK.start ?_); simp only [Try.ntmps3, enterA])
  (repeat' first | refine LOps.done ?_ | (apply LOps.mv; (focus (first | exact Goes.free | exact Goes.on rfl rfl (by with_reducible rfl) true (by decide))); (focus (exact rfl)); (focus (exact rfl))) | (apply LOps.asg; (focus (first | exact Goes.free | exact Goes.on rfl rfl (by with_reducible rfl) true (by decide))); (focus (exact rfl)); (focus (exact rfl))) | (apply LOps.loc; (focus (first | exact Goes.free | exact Goes.on rfl rfl (by with_reducible rfl) true (by decide))); (focus (exact rfl)); (focus (exact rfl)); (focus (simp only [go_sem, ↓reduceIte, Nat.reduceEqDiff, reduceCtorEq, Nat.reduceLT, Nat.reduceAdd]; with_reducible rfl))) | (apply LOps.pass; (focus (first | exact Goes.on rfl rfl (by with_reducible rfl) false (by decide) | exact Goes.undef rfl rfl (by with_reducible rfl))); (focus (exact rfl))) | (apply LOps.scEnd; (focus (exact rfl)); (focus (with_reducible rfl))) | refine LK.seq ?_ | refine LK.skip ?_ | (apply LK.condF2; (focus (exact rfl)); (focus (with_reducible rfl)); (focus (first | with_reducible rfl | decide | (with_reducible exact Bool.false_and _) | (with_reducible exact congrArg (fun b => b && _) (Bool.false_and _))))) | refine LK.regc ?_ | (apply LOps.locFn; (focus (first | exact Goes.free | exact Goes.on rfl rfl (by with_reducible rfl) true (by decide))); (focus (exact rfl)); (focus (exact rfl)); (focus (simp only [go_sem]; exact rfl)); (focus (simp only [go_sem])); (focus (exact live_fun)); (focus (first | rfl | simp [go_sem])); (focus (first | rfl | simp [go_sem]))) | (apply LOps.or2; exact rfl; exact rfl; exact rfl; exact rfl; exact rfl; (focus (with_reducible rfl)); (focus (first | kernel_rfl | rfl))) | refine Under.mk (fun hg => ?_) | fail)
  refine LK.condT2 rfl (by first | with_reducible rfl | rfl) (hc) ?_
  (repeat' first | refine LOps.done ?_ | (apply LOps.mv; (focus (first | exact Goes.free | exact Goes.on rfl rfl (by with_reducible rfl) true (by decide))); (focus (exact rfl)); (focus (exact rfl))) | (apply LOps.asg; (focus (first | exact Goes.free | exact Goes.on rfl rfl (by with_reducible rfl) true (by decide))); (focus (exact rfl)); (focus (exact rfl))) | refine LK.seq ?_ | refine LK.ret' ?_ | refine LK.regc ?_ | (apply retQ; (focus (first | exact lres_one rfl | exact lres_more rfl | (simp only [lres, lresv, Try.results3, go_sem, ↓reduceIte, Nat.reduceEqDiff, reduceCtorEq, Nat.reduceLT, Nat.reduceAdd, Int.reduceBEq, Int.reduceBNe, Int.reduceEq, Int.reduceLE, Int.reduceLT, Int.reduceToNat, Nat.reduceLeDiff, Nat.reduceMul, Nat.reduceSub]; exact rfl)))) | fail)
  all_goals rfl
set_option maxHeartbeats 4000000 in
set_option maxRecDepth 10000 in
theorem counts_bad (a s : List Int) (h1 : a.length ≤ 100) (h2 : s.length ≤ 100) (ho : ¬ okI a s) : Fun Try.prog 3 [dv a s] (vb true) := by
  have hc : (decide ((a.length : Int) > 100) || decide ((s.length : Int) > 100)) = false := by simp only [Bool.or_eq_false_iff, decide_eq_false_iff_not]; omega
  have hck := check_fun a s (by omega) (by omega)
  rw [chk_no ho] at hck
  have hn := count_bad a s 0 hck
  (refine LCalls.enter Try.func3 rfl (by simp [Try.ntmps3]) (LK.start ?_); simp only [Try.ntmps3, enterA])
  (repeat' first | refine LOps.done ?_ | (apply LOps.mv; (focus (first | exact Goes.free | exact Goes.on rfl rfl (by with_reducible rfl) true (by decide))); (focus (exact rfl)); (focus (exact rfl))) | (apply LOps.asg; (focus (first | exact Goes.free | exact Goes.on rfl rfl (by with_reducible rfl) true (by decide))); (focus (exact rfl)); (focus (exact rfl))) | (apply LOps.loc; (focus (first | exact Goes.free | exact Goes.on rfl rfl (by with_reducible rfl) true (by decide))); (focus (exact rfl)); (focus (exact rfl)); (focus (simp only [go_sem, ↓reduceIte, Nat.reduceEqDiff, reduceCtorEq, Nat.reduceLT, Nat.reduceAdd]; with_reducible rfl))) | (apply LOps.pass; (focus (first | exact Goes.on rfl rfl (by with_reducible rfl) false (by decide) | exact Goes.undef rfl rfl (by with_reducible rfl))); (focus (exact rfl))) | (apply LOps.scEnd; (focus (exact rfl)); (focus (with_reducible rfl))) | refine LK.seq ?_ | refine LK.skip ?_ | (apply LK.condF2; (focus (exact rfl)); (focus (with_reducible rfl)); (focus (first | with_reducible rfl | decide | (with_reducible exact Bool.false_and _) | (with_reducible exact congrArg (fun b => b && _) (Bool.false_and _))))) | refine LK.regc ?_ | (apply LOps.locFn; (focus (first | exact Goes.free | exact Goes.on rfl rfl (by with_reducible rfl) true (by decide))); (focus (exact rfl)); (focus (exact rfl)); (focus (simp only [go_sem]; exact rfl)); (focus (simp only [go_sem])); (focus (exact live_fun)); (focus (first | rfl | simp [go_sem])); (focus (first | rfl | simp [go_sem]))) | (apply LOps.or2; exact rfl; exact rfl; exact rfl; exact rfl; exact rfl; (focus (with_reducible rfl)); (focus (first | kernel_rfl | rfl))) | refine Under.mk (fun hg => ?_) | fail)
  refine LK.condF2 rfl (by first | with_reducible rfl | rfl) (hc) ?_
  (repeat' first | refine LOps.done ?_ | (apply LOps.mv; (focus (first | exact Goes.free | exact Goes.on rfl rfl (by with_reducible rfl) true (by decide))); (focus (exact rfl)); (focus (exact rfl))) | (apply LOps.asg; (focus (first | exact Goes.free | exact Goes.on rfl rfl (by with_reducible rfl) true (by decide))); (focus (exact rfl)); (focus (exact rfl))) | (apply LOps.ext; (focus (first | exact Goes.free | exact Goes.on rfl rfl (by with_reducible rfl) true (by decide))); (focus (exact rfl)); (focus (exact rfl)); (focus (exact rfl))) | (apply LOps.loc; (focus (first | exact Goes.free | exact Goes.on rfl rfl (by with_reducible rfl) true (by decide))); (focus (exact rfl)); (focus (exact rfl)); (focus (simp only [go_sem, ↓reduceIte, Nat.reduceEqDiff, reduceCtorEq, Nat.reduceLT, Nat.reduceAdd, Int.reduceBNe, Int.reduceLT, Int.reduceLT]; with_reducible rfl))) | refine LK.seq ?_ | refine LK.skip ?_ | refine LK.block ?_ | refine LK.ret' ?_ | (apply LK.condT2; (focus (exact rfl)); (focus (with_reducible rfl)); (focus (first | with_reducible rfl | decide | (with_reducible exact Bool.true_or _) | (with_reducible exact congrArg (fun b => b || _) (Bool.true_or _))))) | refine LK.regc ?_ | (apply retQ; (focus (first | exact lres_one rfl | exact lres_more rfl | (simp only [lres, lresv, Try.results3, go_sem, ↓reduceIte, Nat.reduceEqDiff, reduceCtorEq, Nat.reduceLT, Nat.reduceAdd, Int.reduceBEq, Int.reduceBNe, Int.reduceEq, Int.reduceLE, Int.reduceLT, Int.reduceToNat, Nat.reduceLeDiff, Nat.reduceMul, Nat.reduceSub, n4, wrap_small, Int.reduceAdd, Int.reduceSub, Int.reduceMul, Int.reduceMod, Int.reduceNeg, Int.reduceToNat, Int.reduceLT, Int.reduceLE, Int.reduceGT, Int.reduceGE, Int.zero_add, Int.add_zero, List.replicate_succ, List.replicate_zero, Nat.reduceSub]; exact rfl)))) | (apply LOps.locFn; (focus (first | exact Goes.free | exact Goes.on rfl rfl (by with_reducible rfl) true (by decide))); (focus (exact rfl)); (focus (exact rfl)); (focus (simp only [go_sem, ↓reduceIte, Nat.reduceEqDiff]; exact rfl)); (focus (simp only [go_sem])); (focus (first | exact hn | exact hck)); (focus (first | rfl | simp [go_sem])); (focus (first | rfl | simp [go_sem]))) | refine LK.rounds 5 ?_ | fail)
  all_goals rfl
set_option maxHeartbeats 4000000 in
set_option maxRecDepth 10000 in
theorem counts_ok (a s : List Int) (h1 : a.length ≤ 100) (h2 : s.length ≤ 100) (ho : okI a s) : Fun Try.prog 3 [dv a s] (vb true) := by
  have hc : (decide ((a.length : Int) > 100) || decide ((s.length : Int) > 100)) = false := by simp only [Bool.or_eq_false_iff, decide_eq_false_iff_not]; omega
  have hck := check_fun a s (by omega) (by omega)
  rw [chk_ok ho] at hck
  have k0 := count_ok a s 0 ho (by omega) hck
  have k1 := count_ok a s 1 ho (by omega) hck
  have k2 := count_ok a s 2 ho (by omega) hck
  have k3 := count_ok a s 3 ho (by omega) hck
  have hsum := num_sum ho.1
  have hst := ho.2.2.2.2.1
  have hft := ho.2.2.2.1
  simp only [fit, decide_eq_true_eq] at hft
  generalize num a 0 = c0 at *
  generalize num a 1 = c1 at *
  generalize num a 2 = c2 at *
  generalize num a 3 = c3 at *
  have w0 : IntKind.i64.wrap ((c0 : Nat) : Int) = (c0 : Int) := by rw [IntKind.wrap_i64]; omega
  have w1 : IntKind.i64.wrap ((c0 : Int) + (c1 : Int)) = ((c0 + c1 : Nat) : Int) := by rw [IntKind.wrap_i64]; omega
  have w2 : IntKind.i64.wrap (((c0 + c1 : Nat) : Int) + (c2 : Int)) = ((c0 + c1 + c2 : Nat) : Int) := by rw [IntKind.wrap_i64]; omega
  have w3 : IntKind.i64.wrap (((c0 + c1 + c2 : Nat) : Int) + (c3 : Int)) = ((c0 + c1 + c2 + c3 : Nat) : Int) := by rw [IntKind.wrap_i64]; omega
  have w4 : IntKind.i64.wrap ((c2 : Int) + (c3 : Int)) = ((c2 + c3 : Nat) : Int) := by rw [IntKind.wrap_i64]; omega
  have w5 : IntKind.i64.wrap (2 * (c1 : Int)) = ((2 * c1 : Nat) : Int) := by rw [IntKind.wrap_i64]; omega
  have w6 : IntKind.i64.wrap (((c0 + c1 + c2 + c3 : Nat) : Int) - (c3 : Int)) = ((c0 + c1 + c2 : Nat) : Int) := by rw [IntKind.wrap_i64]; omega
  have w7 : IntKind.i64.wrap (((c0 + c1 + c2 : Nat) : Int) + 1) = ((c0 + c1 + c2 + 1 : Nat) : Int) := by rw [IntKind.wrap_i64]; omega
  have e1 : (((c0 + c1 + c2 + c3 : Nat) : Int) == (a.length : Int)) = true := by rw [beq_iff_eq]; omega
  have e2 : ((s.length : Int) == ((c2 + c3 : Nat) : Int)) = true := by rw [beq_iff_eq]; omega
  have e3 : (((2 * c1 : Nat) : Int) ≤ ((c0 + c1 + c2 + 1 : Nat) : Int)) := by omega
  (refine LCalls.enter Try.func3 rfl (by simp [Try.ntmps3]) (LK.start ?_); simp only [Try.ntmps3, enterA])
  (repeat' first | refine LOps.done ?_ | (apply LOps.mv; (focus (first | exact Goes.free | exact Goes.on rfl rfl (by with_reducible rfl) true (by decide))); (focus (exact rfl)); (focus (exact rfl))) | (apply LOps.asg; (focus (first | exact Goes.free | exact Goes.on rfl rfl (by with_reducible rfl) true (by decide))); (focus (exact rfl)); (focus (exact rfl))) | (apply LOps.loc; (focus (first | exact Goes.free | exact Goes.on rfl rfl (by with_reducible rfl) true (by decide))); (focus (exact rfl)); (focus (exact rfl)); (focus (simp only [go_sem, ↓reduceIte, Nat.reduceEqDiff, reduceCtorEq, Nat.reduceLT, Nat.reduceAdd]; with_reducible rfl))) | (apply LOps.pass; (focus (first | exact Goes.on rfl rfl (by with_reducible rfl) false (by decide) | exact Goes.undef rfl rfl (by with_reducible rfl))); (focus (exact rfl))) | (apply LOps.scEnd; (focus (exact rfl)); (focus (with_reducible rfl))) | refine LK.seq ?_ | refine LK.skip ?_ | (apply LK.condF2; (focus (exact rfl)); (focus (with_reducible rfl)); (focus (first | with_reducible rfl | decide | (with_reducible exact Bool.false_and _) | (with_reducible exact congrArg (fun b => b && _) (Bool.false_and _))))) | refine LK.regc ?_ | (apply LOps.locFn; (focus (first | exact Goes.free | exact Goes.on rfl rfl (by with_reducible rfl) true (by decide))); (focus (exact rfl)); (focus (exact rfl)); (focus (simp only [go_sem]; exact rfl)); (focus (simp only [go_sem])); (focus (exact live_fun)); (focus (first | rfl | simp [go_sem])); (focus (first | rfl | simp [go_sem]))) | (apply LOps.or2; exact rfl; exact rfl; exact rfl; exact rfl; exact rfl; (focus (with_reducible rfl)); (focus (first | kernel_rfl | rfl))) | refine Under.mk (fun hg => ?_) | fail)
  refine LK.condF2 rfl (by first | with_reducible rfl | rfl) (hc) ?_
  (repeat' first | refine LOps.done ?_ | (apply LOps.mv; (focus (first | exact Goes.free | exact Goes.on rfl rfl (by with_reducible rfl) true (by decide))); (focus (exact rfl)); (focus (exact rfl))) | (apply LOps.asg; (focus (first | exact Goes.free | exact Goes.on rfl rfl (by with_reducible rfl) true (by decide))); (focus (exact rfl)); (focus (exact rfl))) | (apply LOps.ext; (focus (first | exact Goes.free | exact Goes.on rfl rfl (by with_reducible rfl) true (by decide))); (focus (exact rfl)); (focus (exact rfl)); (focus (exact rfl))) | (apply LOps.loc; (focus (first | exact Goes.free | exact Goes.on rfl rfl (by with_reducible rfl) true (by decide))); (focus (exact rfl)); (focus (exact rfl)); (focus (simp only [go_sem, ↓reduceIte, Nat.reduceEqDiff, reduceCtorEq, Nat.reduceLT, Nat.reduceAdd, Int.reduceBNe, Int.reduceLE, Int.reduceLT, Int.reduceToNat, n4, w0, w1, w2, w3, w4, w5, w6, w7, e1, e2, e3, wrap_small, Int.reduceAdd, Int.reduceToNat, Int.reduceLT, Int.reduceLE, Int.zero_add]; with_reducible rfl))) | (apply LOps.loc0; (focus (first | exact Goes.free | exact Goes.on rfl rfl (by with_reducible rfl) true (by decide))); (focus (exact rfl)); (focus (simp only [go_sem, ↓reduceIte, Nat.reduceEqDiff, reduceCtorEq, Nat.reduceLT, Nat.reduceAdd, Nat.reduceLeDiff]; with_reducible rfl))) | refine LK.seq ?_ | refine LK.skip ?_ | refine LK.block ?_ | refine LK.blk ?_ | refine LK.fin ?_ | refine LK.ret' ?_ | refine LK.exit' rfl ?_ | (apply LK.condT2; (focus (exact rfl)); (focus (with_reducible rfl)); (focus (first | with_reducible rfl | decide | (with_reducible exact Bool.true_or _) | (with_reducible exact congrArg (fun b => b || _) (Bool.true_or _))))) | (apply LK.condF2; (focus (exact rfl)); (focus (with_reducible rfl)); (focus (first | with_reducible rfl | decide | (with_reducible exact Bool.false_and _) | (with_reducible exact congrArg (fun b => b && _) (Bool.false_and _))))) | refine LK.regc ?_ | (apply retQ; (focus (first | exact lres_one rfl | exact lres_more rfl | (simp only [lres, lresv, Try.results3, go_sem, ↓reduceIte, Nat.reduceEqDiff, reduceCtorEq, Nat.reduceLT, Nat.reduceAdd, Int.reduceBEq, Int.reduceBNe, Int.reduceEq, Int.reduceLE, Int.reduceLT, Int.reduceToNat, Nat.reduceLeDiff, Nat.reduceMul, Nat.reduceSub, n4, w0, w1, w2, w3, w4, w5, w6, w7, e1, e2, e3, wrap_small, Int.reduceAdd, Int.reduceSub, Int.reduceMul, Int.reduceMod, Int.reduceNeg, Int.reduceToNat, Int.reduceLT, Int.reduceLE, Int.reduceGT, Int.reduceGE, Int.zero_add, Int.add_zero, List.replicate_succ, List.replicate_zero, Nat.reduceSub]; exact rfl)))) | (apply LOps.locFn; (focus (first | exact Goes.free | exact Goes.on rfl rfl (by with_reducible rfl) true (by decide))); (focus (exact rfl)); (focus (exact rfl)); (focus (simp only [go_sem, ↓reduceIte, Nat.reduceEqDiff]; exact rfl)); (focus (simp only [go_sem])); (focus (first | exact k0 | exact k1 | exact k2 | exact k3)); (focus (first | rfl | simp [go_sem])); (focus (first | rfl | simp [go_sem]))) | refine LK.rounds 5 ?_ | fail)
  all_goals rfl
theorem counts_fun (a s : List Int) : Fun Try.prog 3 [dv a s] (vb true) := by
  by_cases h : 100 < a.length ∨ 100 < s.length
  · exact counts_skip a s h
  · by_cases ho : okI a s
    · exact counts_ok a s (by omega) (by omega) ho
    · exact counts_bad a s (by omega) (by omega) ho
end Go.Proofs.Ytnfmkijakhpgbaa
