/- The walks of chapter 17: the law IdleBack. -/
import Derived.Test.YtnfmkijakhpgbaaI7
set_option linter.unusedSimpArgs false
set_option linter.unusedVariables false
namespace Go.Proofs.Ytnfmkijakhpgbaa
open Go.Lw
attribute [local irreducible] LK LOps LW
theorem inS_set {a s : List Int} (h : inS a s) (n : Nat) {v : Int} (hv : 2 ≤ v) : inS (a.set n v) s := by
  refine ⟨fun i hi => ?_, h.2⟩
  obtain ⟨q1, q2, q3⟩ := h.1 i hi
  refine ⟨q1, by rw [List.length_set]; exact q2, ?_⟩
  by_cases e : n = i.toNat
  · subst e
    have : i.toNat < a.length := by omega
    simp [List.getD_eq_getElem?_getD, this, hv]
  · simpa [List.getD_eq_getElem?_getD, List.getElem?_set_ne e] using q3
theorem out_of {a s : List Int} (h : inS a s) {n : Nat} {x : Int} (hx : a[n]? = some x) (hlt : x < 2) : (n : Int) ∉ s := by
  intro hm
  have := (h.1 n hm).2.2
  rw [Int.toNat_natCast, getD_of hx] at this
  omega
theorem okI_ann {a s : List Int} {n : Nat} {x : Int} (h : okI a s) (hx : a[n]? = some x) (hm : x ∈ [(0 : Int), 1]) : okI (a.set n 2) (s ++ [(n : Int)]) := by
  obtain ⟨o1, o2, o3, o4, o5, o6⟩ := h
  have hlt := lt_of_get hx
  have hc : x = 0 ∨ x = 1 := by simpa using hm
  have hno := out_of o6 hx (by omega)
  simp only [fit, decide_eq_true_eq] at o4
  have e0 := num_set (l := a) (i := n) 2 0 hx
  have e1 := num_set (l := a) (i := n) 2 1 hx
  have e2 := num_set (l := a) (i := n) 2 2 hx
  have e3 := num_set (l := a) (i := n) 2 3 hx
  refine ⟨inR_set o1 n (by omega), by simpa using o2, by simpa using o3, ?_, ?_, ?_, ?_⟩
  · simp only [fit, decide_eq_true_eq]
    rcases hc with rfl | rfl <;> simp at e0 e1 e2 e3 <;> omega
  · rw [List.length_append, List.length_singleton]
    rcases hc with rfl | rfl <;> simp at e0 e1 e2 e3 <;> omega
  · intro i hi
    rcases List.mem_append.1 hi with hi | hi
    · exact (inS_set o6 n (Int.le_refl 2)).1 i hi
    · obtain rfl : i = (n : Int) := by simpa using hi
      refine ⟨by omega, by rw [List.length_set]; omega, ?_⟩
      simp [List.getD_eq_getElem?_getD, hlt]
  · rw [List.nodup_append]
    refine ⟨o6.2, by simp, fun p hp q hq => ?_⟩
    obtain rfl : q = (n : Int) := by simpa using hq
    rintro rfl; exact hno hp
theorem okI_park {a s : List Int} {n : Nat} (h : okI a s) (hx : a[n]? = some 2) (hf : fit (a.set n 3) = true) : okI (a.set n 3) s := by
  obtain ⟨o1, o2, o3, o4, o5, o6⟩ := h
  have e2 := num_set (l := a) (i := n) 3 2 hx
  have e3 := num_set (l := a) (i := n) 3 3 hx
  simp at e2 e3
  refine ⟨inR_set o1 n (by omega), by simpa using o2, by simpa using o3, hf, by omega, inS_set o6 n (by omega)⟩
theorem lastI_push (s : List Int) (i : Int) : lastI (s ++ [i]) = i := by
  simp [lastI, List.getD_eq_getElem?_getD]
theorem set_self {a : List Int} {n : Nat} {x : Int} (hx : a[n]? = some x) : a.set n x = a := by
  apply List.ext_getElem?
  intro j
  by_cases hj : n = j
  · subst hj; rw [List.getElem?_set_self (lt_of_get hx), hx]
  · rw [List.getElem?_set_ne hj]
set_option maxHeartbeats 4000000 in
set_option maxRecDepth 10000 in
theorem back_skip (a s : List Int) (i : Int) (h : 100 < a.length) : Fun Try.prog 5 [dv a s, vi i] (vb true) := by
  have hc : ((a.length : Int) > 100) := by omega
  (refine LCalls.enter Try.func5 rfl (by simp [Try.ntmps5]) (LK.start ?_); simp only [Try.ntmps5, enterA, Nat.zero_add])
  (repeat' first | refine LOps.done ?_ | (apply LOps.mv; (focus (first | exact Goes.free | exact Goes.on rfl rfl (by with_reducible rfl) true (by decide))); (focus (exact rfl)); (focus (exact rfl))) | (apply LOps.asg; (focus (first | exact Goes.free | exact Goes.on rfl rfl (by with_reducible rfl) true (by decide))); (focus (exact rfl)); (focus (exact rfl))) | (apply LOps.loc; (focus (first | exact Goes.free | exact Goes.on rfl rfl (by with_reducible rfl) true (by decide))); (focus (exact rfl)); (focus (exact rfl)); (focus (simp only [go_sem, ↓reduceIte, reduceCtorEq, Nat.reduceLT, Nat.reduceAdd, hc]; with_reducible rfl))) | (apply LOps.pass; (focus (first | exact Goes.on rfl rfl (by with_reducible rfl) false (by decide) | exact Goes.undef rfl rfl (by with_reducible rfl))); (focus (exact rfl))) | refine LK.seq ?_ | refine LK.skip ?_ | refine LK.ret' ?_ | (apply LK.condT2; (focus (exact rfl)); (focus (with_reducible rfl)); (focus (first | with_reducible rfl | decide | (with_reducible exact Bool.true_or _) | (with_reducible exact congrArg (fun b => b || _) (Bool.true_or _))))) | (apply LK.condF2; (focus (exact rfl)); (focus (with_reducible rfl)); (focus (first | with_reducible rfl | decide | (with_reducible exact Bool.false_and _) | (with_reducible exact congrArg (fun b => b && _) (Bool.false_and _))))) | refine LK.regc ?_ | (apply retQ; (focus (first | exact lres_one rfl | exact lres_more rfl | (simp only [lres, lresv, Try.results5, go_sem, ↓reduceIte, Nat.reduceEqDiff, reduceCtorEq, Nat.reduceLT, Nat.reduceAdd, Int.reduceBEq, Int.reduceBNe, Int.reduceEq, Int.reduceLE, Int.reduceLT, Int.reduceToNat, Nat.reduceLeDiff, Nat.reduceMul, Nat.reduceSub, hc]; exact rfl)))) | (apply LOps.locFn; (focus (first | exact Goes.free | exact Goes.on rfl rfl (by with_reducible rfl) true (by decide))); (focus (exact rfl)); (focus (exact rfl)); (focus (simp only [go_sem]; exact rfl)); (focus (simp only [go_sem])); (focus (exact live_fun)); (focus (first | rfl | simp [go_sem])); (focus (first | rfl | simp [go_sem]))) | fail)
  all_goals rfl
set_option maxHeartbeats 4000000 in
set_option maxRecDepth 10000 in
theorem back_bad (a s : List Int) (i : Int) (h : a.length ≤ 100) (hck : Fun Try.prog 9 [dv a s] (vi 1)) : Fun Try.prog 5 [dv a s, vi i] (vb true) := by
  have hc : ¬ ((a.length : Int) > 100) := by omega
  (refine LCalls.enter Try.func5 rfl (by simp [Try.ntmps5]) (LK.start ?_); simp only [Try.ntmps5, enterA, Nat.zero_add])
  (repeat' first | refine LOps.done ?_ | (apply LOps.mv; (focus (first | exact Goes.free | exact Goes.on rfl rfl (by with_reducible rfl) true (by decide))); (focus (exact rfl)); (focus (exact rfl))) | (apply LOps.asg; (focus (first | exact Goes.free | exact Goes.on rfl rfl (by with_reducible rfl) true (by decide))); (focus (exact rfl)); (focus (exact rfl))) | (apply LOps.loc; (focus (first | exact Goes.free | exact Goes.on rfl rfl (by with_reducible rfl) true (by decide))); (focus (exact rfl)); (focus (exact rfl)); (focus (simp only [go_sem, ↓reduceIte, Nat.reduceEqDiff, reduceCtorEq, Nat.reduceLT, Nat.reduceAdd, Int.reduceBNe, hc]; with_reducible rfl))) | refine LK.seq ?_ | refine LK.skip ?_ | refine LK.ret' ?_ | (apply LK.condT2; (focus (exact rfl)); (focus (with_reducible rfl)); (focus (first | with_reducible rfl | decide | (with_reducible exact Bool.true_or _) | (with_reducible exact congrArg (fun b => b || _) (Bool.true_or _))))) | (apply LK.condF2; (focus (exact rfl)); (focus (with_reducible rfl)); (focus (first | with_reducible rfl | decide | (with_reducible exact Bool.false_and _) | (with_reducible exact congrArg (fun b => b && _) (Bool.false_and _))))) | refine LK.regc ?_ | (apply retQ; (focus (first | exact lres_one rfl | exact lres_more rfl | (simp only [lres, lresv, Try.results5, go_sem, ↓reduceIte, Nat.reduceEqDiff, reduceCtorEq, Nat.reduceLT, Nat.reduceAdd, Int.reduceBEq, Int.reduceBNe, Int.reduceEq, Int.reduceLE, Int.reduceLT, Int.reduceToNat, Nat.reduceLeDiff, Nat.reduceMul, Nat.reduceSub, hc]; exact rfl)))) | (apply LOps.locFn; (focus (first | exact Goes.free | exact Goes.on rfl rfl (by with_reducible rfl) true (by decide))); (focus (exact rfl)); (focus (exact rfl)); (focus (simp only [go_sem, ↓reduceIte]; exact rfl)); (focus (simp only [go_sem])); (focus (first | exact live_fun | exact hck)); (focus (first | rfl | simp [go_sem])); (focus (first | rfl | simp [go_sem]))) | fail)
  all_goals rfl
set_option maxHeartbeats 4000000 in
set_option maxRecDepth 10000 in
theorem back_err (a s : List Int) (i e : Int) (h : a.length ≤ 100) (hck : Fun Try.prog 9 [dv a s] (vi 0)) (he : e ≠ 0) (ha : Fun Try.prog 11 [dv a s, vi i] (.tup [dv [] [], vi e])) : Fun Try.prog 5 [dv a s, vi i] (vb true) := by
  have hc : ¬ ((a.length : Int) > 100) := by omega
  have h0 := bne0 he
  (refine LCalls.enter Try.func5 rfl (by simp [Try.ntmps5]) (LK.start ?_); simp only [Try.ntmps5, enterA, Nat.zero_add])
  (repeat' first | refine LOps.done ?_ | (apply LOps.mv; (focus (first | exact Goes.free | exact Goes.on rfl rfl (by with_reducible rfl) true (by decide))); (focus (exact rfl)); (focus (exact rfl))) | (apply LOps.asg; (focus (first | exact Goes.free | exact Goes.on rfl rfl (by with_reducible rfl) true (by decide))); (focus (exact rfl)); (focus (exact rfl))) | (apply LOps.ext; (focus (first | exact Goes.free | exact Goes.on rfl rfl (by with_reducible rfl) true (by decide))); (focus (exact rfl)); (focus (exact rfl)); (focus (exact rfl))) | (apply LOps.loc; (focus (first | exact Goes.free | exact Goes.on rfl rfl (by with_reducible rfl) true (by decide))); (focus (exact rfl)); (focus (exact rfl)); (focus (simp only [go_sem, ↓reduceIte, Nat.reduceEqDiff, reduceCtorEq, Nat.reduceLT, Nat.reduceAdd, Int.reduceBNe, hc, h0, Int.ofNat_zero]; with_reducible rfl))) | (apply LOps.loc0; (focus (first | exact Goes.free | exact Goes.on rfl rfl (by with_reducible rfl) true (by decide))); (focus (exact rfl)); (focus (simp only [go_sem, ↓reduceIte, Nat.reduceEqDiff, reduceCtorEq, Nat.reduceLT, Nat.reduceAdd]; with_reducible rfl))) | refine LK.seq ?_ | refine LK.skip ?_ | refine LK.ret' ?_ | (apply LK.condT2; (focus (exact rfl)); (focus (with_reducible rfl)); (focus (first | with_reducible rfl | decide | (with_reducible exact Bool.true_or _) | (with_reducible exact congrArg (fun b => b || _) (Bool.true_or _))))) | (apply LK.condF2; (focus (exact rfl)); (focus (with_reducible rfl)); (focus (first | with_reducible rfl | decide | (with_reducible exact Bool.false_and _) | (with_reducible exact congrArg (fun b => b && _) (Bool.false_and _))))) | refine LK.regc ?_ | (apply retQ; (focus (first | exact lres_one rfl | exact lres_more rfl | (simp only [lres, lresv, Try.results5, go_sem, ↓reduceIte, Nat.reduceEqDiff, reduceCtorEq, Nat.reduceLT, Nat.reduceAdd, Int.reduceBEq, Int.reduceBNe, Int.reduceEq, Int.reduceLE, Int.reduceLT, Int.reduceToNat, Nat.reduceLeDiff, Nat.reduceMul, Nat.reduceSub, hc, h0, Int.ofNat_zero]; exact rfl)))) | (apply LOps.locFn; (focus (first | exact Goes.free | exact Goes.on rfl rfl (by with_reducible rfl) true (by decide))); (focus (exact rfl)); (focus (exact rfl)); (focus (simp only [go_sem, ↓reduceIte, Nat.reduceEqDiff]; exact rfl)); (focus (simp only [go_sem])); (focus (first | exact live_fun | exact hck | exact ha)); (focus (first | rfl | simp [go_sem])); (focus (first | rfl | simp [go_sem]))) | fail)
  all_goals rfl
set_option maxHeartbeats 4000000 in
set_option maxRecDepth 10000 in
theorem back_ok (a s A1 S1 B P : List Int) (n : Nat) (x : Int) (h : a.length ≤ 100) (hx : a[n]? = some x) (hck : Fun Try.prog 9 [dv a s] (vi 0)) (ha : Fun Try.prog 11 [dv a s, vi n] (.tup [dv A1 S1, vi 0]))
    (hf : Fun Try.prog 12 [dv A1 S1, vi n] (.tup [dv B s, vi 0])) (hw : Fun Try.prog 13 [dv A1 S1] (.tup [vi n, dv B s, vi 0])) (hs1 : Fun Try.prog 14 [dv B s, dv B s] (vb true)) (hx0 : x = 0 → B = a)
    (hp : Fun Try.prog 15 [dv A1 S1, vi n] (.tup [dv P S1, vi 0])) (hfp : Fun Try.prog 12 [dv P S1, vi n] (.tup [dv [] [], vi 9])) (hwp : Fun Try.prog 13 [dv P S1] (.tup [vi n, dv B s, vi 0])) : Fun Try.prog 5 [dv a s, vi n] (vb true) := by
  have hlt := lt_of_get hx
  have hc : ¬ ((a.length : Int) > 100) := by omega
  have h0 : ¬ ((n : Int) < 0) := by omega
  have h1 : ¬ ((n : Int) ≥ (a.length : Int)) := by omega
  have h2 : ((n : Int) < (a.length : Int)) := by omega
  have h3 : ((n : Int) != (n : Int)) = false := by simp
  by_cases hxx : x = 0
  · obtain rfl := hx0 hxx
    have hb : (x == 0) = true := by simpa using hxx
    (refine LCalls.enter Try.func5 rfl (by simp [Try.ntmps5]) (LK.start ?_); simp only [Try.ntmps5, enterA, Nat.zero_add])
    (repeat' first | refine LOps.done ?_ | (apply LOps.mv; (focus (first | exact Goes.free | exact Goes.on rfl rfl (by with_reducible rfl) true (by decide))); (focus (exact rfl)); (focus (exact rfl))) | (apply LOps.asg; (focus (first | exact Goes.free | exact Goes.on rfl rfl (by with_reducible rfl) true (by decide))); (focus (exact rfl)); (focus (exact rfl))) | (apply LOps.ext; (focus (first | exact Goes.free | exact Goes.on rfl rfl (by with_reducible rfl) true (by decide))); (focus (exact rfl)); (focus (exact rfl)); (focus (exact rfl))) | (apply LOps.loc; (focus (first | exact Goes.free | exact Goes.on rfl rfl (by with_reducible rfl) true (by decide))); (focus (exact rfl)); (focus (exact rfl)); (focus (simp only [go_sem, ↓reduceIte, Nat.reduceEqDiff, reduceCtorEq, Nat.reduceLT, Nat.reduceAdd, Int.reduceBNe, hc, h0, h1, h2, h3, hx, hb]; with_reducible rfl))) | (apply LOps.loc0; (focus (first | exact Goes.free | exact Goes.on rfl rfl (by with_reducible rfl) true (by decide))); (focus (exact rfl)); (focus (simp only [go_sem, ↓reduceIte, Nat.reduceEqDiff, reduceCtorEq, Nat.reduceLT, Nat.reduceAdd]; with_reducible rfl))) | refine LK.seq ?_ | refine LK.skip ?_ | refine LK.ret' ?_ | (apply LK.condF2; (focus (exact rfl)); (focus (with_reducible rfl)); (focus (first | with_reducible rfl | decide | (with_reducible exact Bool.false_and _) | (with_reducible exact congrArg (fun b => b && _) (Bool.false_and _))))) | refine LK.regc ?_ | (apply retQ; (focus (first | exact lres_one rfl | exact lres_more rfl | (simp only [lres, lresv, Try.results5, go_sem, ↓reduceIte, Nat.reduceEqDiff, reduceCtorEq, Nat.reduceLT, Nat.reduceAdd, Int.reduceBEq, Int.reduceBNe, Int.reduceEq, Int.reduceLE, Int.reduceLT, Int.reduceToNat, Nat.reduceLeDiff, Nat.reduceMul, Nat.reduceSub, hc, h0, h1, h2, h3, hx, hb]; exact rfl)))) | (apply LOps.locFn; (focus (first | exact Goes.free | exact Goes.on rfl rfl (by with_reducible rfl) true (by decide))); (focus (exact rfl)); (focus (exact rfl)); (focus (simp only [go_sem, ↓reduceIte, Nat.reduceEqDiff]; exact rfl)); (focus (simp only [go_sem])); (focus (first | exact live_fun | exact hck | exact ha | exact hf | exact hw | exact hs1 | exact hp | exact hfp | exact hwp)); (focus (first | rfl | simp [go_sem])); (focus (first | rfl | simp [go_sem]))) | fail)
    all_goals rfl
  · have hb : (x == 0) = false := by simpa using hxx
    (refine LCalls.enter Try.func5 rfl (by simp [Try.ntmps5]) (LK.start ?_); simp only [Try.ntmps5, enterA, Nat.zero_add])
    (repeat' first | refine LOps.done ?_ | (apply LOps.mv; (focus (first | exact Goes.free | exact Goes.on rfl rfl (by with_reducible rfl) true (by decide))); (focus (exact rfl)); (focus (exact rfl))) | (apply LOps.asg; (focus (first | exact Goes.free | exact Goes.on rfl rfl (by with_reducible rfl) true (by decide))); (focus (exact rfl)); (focus (exact rfl))) | (apply LOps.ext; (focus (first | exact Goes.free | exact Goes.on rfl rfl (by with_reducible rfl) true (by decide))); (focus (exact rfl)); (focus (exact rfl)); (focus (exact rfl))) | (apply LOps.loc; (focus (first | exact Goes.free | exact Goes.on rfl rfl (by with_reducible rfl) true (by decide))); (focus (exact rfl)); (focus (exact rfl)); (focus (simp only [go_sem, ↓reduceIte, Nat.reduceEqDiff, reduceCtorEq, Nat.reduceLT, Nat.reduceAdd, Int.reduceBNe, hc, h0, h1, h2, h3, hx, hb]; with_reducible rfl))) | (apply LOps.loc0; (focus (first | exact Goes.free | exact Goes.on rfl rfl (by with_reducible rfl) true (by decide))); (focus (exact rfl)); (focus (simp only [go_sem, ↓reduceIte, Nat.reduceEqDiff, reduceCtorEq, Nat.reduceLT, Nat.reduceAdd]; with_reducible rfl))) | (apply LOps.pass; (focus (first | exact Goes.on rfl rfl (by with_reducible rfl) false (by decide) | exact Goes.undef rfl rfl (by with_reducible rfl))); (focus (exact rfl))) | refine LK.seq ?_ | refine LK.skip ?_ | refine LK.ret' ?_ | (apply LK.condF2; (focus (exact rfl)); (focus (with_reducible rfl)); (focus (first | with_reducible rfl | decide | (with_reducible exact Bool.false_and _) | (with_reducible exact congrArg (fun b => b && _) (Bool.false_and _))))) | refine LK.regc ?_ | (apply retQ; (focus (first | exact lres_one rfl | exact lres_more rfl | (simp only [lres, lresv, Try.results5, go_sem, ↓reduceIte, Nat.reduceEqDiff, reduceCtorEq, Nat.reduceLT, Nat.reduceAdd, Int.reduceBEq, Int.reduceBNe, Int.reduceEq, Int.reduceLE, Int.reduceLT, Int.reduceToNat, Nat.reduceLeDiff, Nat.reduceMul, Nat.reduceSub, hc, h0, h1, h2, h3, hx, hb]; exact rfl)))) | (apply LOps.locFn; (focus (first | exact Goes.free | exact Goes.on rfl rfl (by with_reducible rfl) true (by decide))); (focus (exact rfl)); (focus (exact rfl)); (focus (simp only [go_sem, ↓reduceIte, Nat.reduceEqDiff]; exact rfl)); (focus (simp only [go_sem])); (focus (first | exact live_fun | exact hck | exact ha | exact hf | exact hw | exact hs1 | exact hp | exact hfp | exact hwp)); (focus (first | rfl | simp [go_sem])); (focus (first | rfl | simp [go_sem]))) | fail)
    all_goals rfl
set_option maxHeartbeats 4000000 in
set_option maxRecDepth 10000 in
theorem back_no (a s A1 S1 B : List Int) (n : Nat) (x : Int) (h : a.length ≤ 100) (hx : a[n]? = some x) (hck : Fun Try.prog 9 [dv a s] (vi 0)) (ha : Fun Try.prog 11 [dv a s, vi n] (.tup [dv A1 S1, vi 0]))
    (hf : Fun Try.prog 12 [dv A1 S1, vi n] (.tup [dv B s, vi 0])) (hw : Fun Try.prog 13 [dv A1 S1] (.tup [vi n, dv B s, vi 0])) (hs1 : Fun Try.prog 14 [dv B s, dv B s] (vb true)) (hx0 : x = 0 → B = a)
    (hp : Fun Try.prog 15 [dv A1 S1, vi n] (.tup [dv [] [], vi 9])) : Fun Try.prog 5 [dv a s, vi n] (vb true) := by
  have hlt := lt_of_get hx
  have hc : ¬ ((a.length : Int) > 100) := by omega
  have h0 : ¬ ((n : Int) < 0) := by omega
  have h1 : ¬ ((n : Int) ≥ (a.length : Int)) := by omega
  have h2 : ((n : Int) < (a.length : Int)) := by omega
  have h3 : ((n : Int) != (n : Int)) = false := by simp
  by_cases hxx : x = 0
  · obtain rfl := hx0 hxx
    have hb : (x == 0) = true := by simpa using hxx
    (refine LCalls.enter Try.func5 rfl (by simp [Try.ntmps5]) (LK.start ?_); simp only [Try.ntmps5, enterA, Nat.zero_add])
    (repeat' first | refine LOps.done ?_ | (apply LOps.mv; (focus (first | exact Goes.free | exact Goes.on rfl rfl (by with_reducible rfl) true (by decide))); (focus (exact rfl)); (focus (exact rfl))) | (apply LOps.asg; (focus (first | exact Goes.free | exact Goes.on rfl rfl (by with_reducible rfl) true (by decide))); (focus (exact rfl)); (focus (exact rfl))) | (apply LOps.ext; (focus (first | exact Goes.free | exact Goes.on rfl rfl (by with_reducible rfl) true (by decide))); (focus (exact rfl)); (focus (exact rfl)); (focus (exact rfl))) | (apply LOps.loc; (focus (first | exact Goes.free | exact Goes.on rfl rfl (by with_reducible rfl) true (by decide))); (focus (exact rfl)); (focus (exact rfl)); (focus (simp only [go_sem, ↓reduceIte, Nat.reduceEqDiff, reduceCtorEq, Nat.reduceLT, Nat.reduceAdd, Int.reduceBNe, hc, h0, h1, h2, h3, hx, hb]; with_reducible rfl))) | (apply LOps.loc0; (focus (first | exact Goes.free | exact Goes.on rfl rfl (by with_reducible rfl) true (by decide))); (focus (exact rfl)); (focus (simp only [go_sem, ↓reduceIte, Nat.reduceEqDiff, reduceCtorEq, Nat.reduceLT, Nat.reduceAdd]; with_reducible rfl))) | refine LK.seq ?_ | refine LK.skip ?_ | refine LK.ret' ?_ | (apply LK.condT2; (focus (exact rfl)); (focus (with_reducible rfl)); (focus (first | with_reducible rfl | decide | (with_reducible exact Bool.true_or _) | (with_reducible exact congrArg (fun b => b || _) (Bool.true_or _))))) | (apply LK.condF2; (focus (exact rfl)); (focus (with_reducible rfl)); (focus (first | with_reducible rfl | decide | (with_reducible exact Bool.false_and _) | (with_reducible exact congrArg (fun b => b && _) (Bool.false_and _))))) | refine LK.regc ?_ | (apply retQ; (focus (first | exact lres_one rfl | exact lres_more rfl | (simp only [lres, lresv, Try.results5, go_sem, ↓reduceIte, Nat.reduceEqDiff, reduceCtorEq, Nat.reduceLT, Nat.reduceAdd, Int.reduceBEq, Int.reduceBNe, Int.reduceEq, Int.reduceLE, Int.reduceLT, Int.reduceToNat, Nat.reduceLeDiff, Nat.reduceMul, Nat.reduceSub, hc, h0, h1, h2, h3, hx, hb]; exact rfl)))) | (apply LOps.locFn; (focus (first | exact Goes.free | exact Goes.on rfl rfl (by with_reducible rfl) true (by decide))); (focus (exact rfl)); (focus (exact rfl)); (focus (simp only [go_sem, ↓reduceIte, Nat.reduceEqDiff]; exact rfl)); (focus (simp only [go_sem])); (focus (first | exact live_fun | exact hck | exact ha | exact hf | exact hw | exact hs1 | exact hp)); (focus (first | rfl | simp [go_sem])); (focus (first | rfl | simp [go_sem]))) | fail)
    all_goals rfl
  · have hb : (x == 0) = false := by simpa using hxx
    (refine LCalls.enter Try.func5 rfl (by simp [Try.ntmps5]) (LK.start ?_); simp only [Try.ntmps5, enterA, Nat.zero_add])
    (repeat' first | refine LOps.done ?_ | (apply LOps.mv; (focus (first | exact Goes.free | exact Goes.on rfl rfl (by with_reducible rfl) true (by decide))); (focus (exact rfl)); (focus (exact rfl))) | (apply LOps.asg; (focus (first | exact Goes.free | exact Goes.on rfl rfl (by with_reducible rfl) true (by decide))); (focus (exact rfl)); (focus (exact rfl))) | (apply LOps.ext; (focus (first | exact Goes.free | exact Goes.on rfl rfl (by with_reducible rfl) true (by decide))); (focus (exact rfl)); (focus (exact rfl)); (focus (exact rfl))) | (apply LOps.loc; (focus (first | exact Goes.free | exact Goes.on rfl rfl (by with_reducible rfl) true (by decide))); (focus (exact rfl)); (focus (exact rfl)); (focus (simp only [go_sem, ↓reduceIte, Nat.reduceEqDiff, reduceCtorEq, Nat.reduceLT, Nat.reduceAdd, Int.reduceBNe, hc, h0, h1, h2, h3, hx, hb]; with_reducible rfl))) | (apply LOps.loc0; (focus (first | exact Goes.free | exact Goes.on rfl rfl (by with_reducible rfl) true (by decide))); (focus (exact rfl)); (focus (simp only [go_sem, ↓reduceIte, Nat.reduceEqDiff, reduceCtorEq, Nat.reduceLT, Nat.reduceAdd]; with_reducible rfl))) | (apply LOps.pass; (focus (first | exact Goes.on rfl rfl (by with_reducible rfl) false (by decide) | exact Goes.undef rfl rfl (by with_reducible rfl))); (focus (exact rfl))) | refine LK.seq ?_ | refine LK.skip ?_ | refine LK.ret' ?_ | (apply LK.condT2; (focus (exact rfl)); (focus (with_reducible rfl)); (focus (first | with_reducible rfl | decide | (with_reducible exact Bool.true_or _) | (with_reducible exact congrArg (fun b => b || _) (Bool.true_or _))))) | (apply LK.condF2; (focus (exact rfl)); (focus (with_reducible rfl)); (focus (first | with_reducible rfl | decide | (with_reducible exact Bool.false_and _) | (with_reducible exact congrArg (fun b => b && _) (Bool.false_and _))))) | refine LK.regc ?_ | (apply retQ; (focus (first | exact lres_one rfl | exact lres_more rfl | (simp only [lres, lresv, Try.results5, go_sem, ↓reduceIte, Nat.reduceEqDiff, reduceCtorEq, Nat.reduceLT, Nat.reduceAdd, Int.reduceBEq, Int.reduceBNe, Int.reduceEq, Int.reduceLE, Int.reduceLT, Int.reduceToNat, Nat.reduceLeDiff, Nat.reduceMul, Nat.reduceSub, hc, h0, h1, h2, h3, hx, hb]; exact rfl)))) | (apply LOps.locFn; (focus (first | exact Goes.free | exact Goes.on rfl rfl (by with_reducible rfl) true (by decide))); (focus (exact rfl)); (focus (exact rfl)); (focus (simp only [go_sem, ↓reduceIte, Nat.reduceEqDiff]; exact rfl)); (focus (simp only [go_sem])); (focus (first | exact live_fun | exact hck | exact ha | exact hf | exact hw | exact hs1 | exact hp)); (focus (first | rfl | simp [go_sem])); (focus (first | rfl | simp [go_sem]))) | fail)
    all_goals rfl
theorem check_any (a s : List Int) (hl : a.length ≤ 100000) : Fun Try.prog 9 [dv a s] (vi (chk a s)) := by
  by_cases hs : s.length ≤ 100000
  · exact check_fun a s hl hs
  · by_cases hr : inR a
    · have hsum := num_sum hr
      have hno : ¬ (1 ≤ a.length ∧ a.length ≤ 64 ∧ fit a = true ∧ s.length = num a 2 + num a 3) := by rintro ⟨_, _, _, h⟩; omega
      rw [chk_no fun q => hno ⟨q.2.1, q.2.2.1, q.2.2.2.1, q.2.2.2.2.1⟩]
      exact check_head a s hl hr hno
    · rw [chk_no fun q => hr q.1]
      exact check_inR a s hl hr
theorem okI_len {a s : List Int} (h : okI a s) : a.length ≤ 64 ∧ s.length ≤ 64 := by
  obtain ⟨o1, o2, o3, o4, o5, o6⟩ := h
  have := num_sum o1
  exact ⟨o3, by omega⟩
theorem back_fun (a s : List Int) (i : Int) : Fun Try.prog 5 [dv a s, vi i] (vb true) := by
  rcases Nat.lt_or_ge 100 a.length with h | h
  · exact back_skip a s i h
  · have hck := check_any a s (by omega)
    by_cases ho : okI a s
    · rw [chk_ok ho] at hck
      obtain ⟨l1, l2⟩ := okI_len ho
      have ha := ann_fun a s i (by omega) (by omega)
      by_cases he : anE a s i = 0
      · obtain ⟨_, n, x, rfl, hx, hm⟩ := bc_inv he
        have hlt := lt_of_get hx
        have hc : x = 0 ∨ x = 1 := by simpa using hm
        have hno := out_of ho.2.2.2.2.2 hx (by omega)
        rw [anA, anS, he, if_pos rfl, if_pos rfl, Int.toNat_natCast] at ha
        have ho1 := okI_ann ho hx hm
        have hx1 : (a.set n 2)[n]? = some 2 := List.getElem?_set_self hlt
        have hf := found_fun (a.set n 2) (s ++ [(n : Int)]) n (by simp; omega) (by simp; omega)
        have hfe : foE (a.set n 2) (s ++ [(n : Int)]) n = 0 := bc_ok ho1 hx1 (by simp)
        rw [foA, foS, hfe, if_pos rfl, if_pos rfl, Int.toNat_natCast, wo_push hno, List.set_set] at hf
        have hw := wake_fun (a.set n 2) (s ++ [(n : Int)]) (by simp; omega) (by simp; omega)
        have hwe : wkE (a.set n 2) (s ++ [(n : Int)]) = 0 := by rw [wkE, chk_ok ho1, if_neg (by omega), if_neg (by simp)]
        rw [wkI, wkA, wkS, hwe, if_pos rfl, if_pos rfl, if_pos rfl, lastI_push, Int.toNat_natCast, wo_push hno, List.set_set] at hw
        have hs1 := same_fun (a.set n 0) s (a.set n 0) s (by simp; omega) (by omega)
        simp only [decide_true, Bool.and_self] at hs1
        have hx0 : x = 0 → a.set n 0 = a := by rintro rfl; exact set_self hx
        have hp := park_fun (a.set n 2) (s ++ [(n : Int)]) n (by simp; omega) (by simp; omega)
        have hpe : bcE (a.set n 2) (s ++ [(n : Int)]) n [2] = 0 := bc_ok ho1 hx1 (by simp)
        by_cases hft : fit ((a.set n 2).set n 3) = true
        · have hpk : pkE (a.set n 2) (s ++ [(n : Int)]) n = 0 := by rw [pkE, hpe, if_pos rfl, Int.toNat_natCast, if_pos hft]
          rw [pkA, pkS, hpk, if_pos rfl, if_pos rfl, Int.toNat_natCast] at hp
          have ho2 := okI_park ho1 hx1 hft
          have hx2 : ((a.set n 2).set n 3)[n]? = some 3 := List.getElem?_set_self (by simpa using hlt)
          have hfp := found_fun ((a.set n 2).set n 3) (s ++ [(n : Int)]) n (by simp; omega) (by simp; omega)
          have hfp9 : foE ((a.set n 2).set n 3) (s ++ [(n : Int)]) n = 9 := bc_state ho2 hx2 (by simp)
          rw [foA, foS, hfp9, if_neg (by omega), if_neg (by omega)] at hfp
          have hwp := wake_fun ((a.set n 2).set n 3) (s ++ [(n : Int)]) (by simp; omega) (by simp; omega)
          have hwpe : wkE ((a.set n 2).set n 3) (s ++ [(n : Int)]) = 0 := by rw [wkE, chk_ok ho2, if_neg (by omega), if_neg (by simp)]
          rw [wkI, wkA, wkS, hwpe, if_pos rfl, if_pos rfl, if_pos rfl, lastI_push, Int.toNat_natCast, wo_push hno, show ((a.set n 2).set n 3).set n 0 = a.set n 0 by rw [List.set_set, List.set_set]] at hwp
          exact back_ok a s _ _ _ _ n x h hx hck ha hf hw hs1 hx0 hp hfp hwp
        · have hpk : pkE (a.set n 2) (s ++ [(n : Int)]) n = 9 := by rw [pkE, hpe, if_pos rfl, Int.toNat_natCast, if_neg hft]
          rw [pkA, pkS, hpk, if_neg (by omega), if_neg (by omega)] at hp
          exact back_no a s _ _ _ n x h hx hck ha hf hw hs1 hx0 hp
      · rw [anA, anS, if_neg he, if_neg he] at ha
        exact back_err a s i _ h hck he ha
    · rw [chk_no ho] at hck
      exact back_bad a s i h hck
end Go.Proofs.Ytnfmkijakhpgbaa
