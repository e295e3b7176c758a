/- The walks of chapter 17: the law IdleDoes. -/
import Derived.Test.YtnfmkijakhpgbaaI12
set_option linter.unusedSimpArgs false
set_option linter.unusedVariables false
namespace Go.Proofs.Ytnfmkijakhpgbaa
open Go.Lw
attribute [local irreducible] LK LOps LW
theorem rin_of (a s : List Int) (i : Int) (l : List Int) (hl : a.length ≤ 100000) (hs : s.length ≤ 100000) : (bcE a s i l = 1 ∧ Fun Try.prog 31 [dv a s, vi i] (vb false)) ∨ (okI a s ∧ ∃ (n : Nat) (x : Int), i = (n : Int) ∧ a[n]? = some x ∧ 0 ≤ x ∧ x ≤ 3 ∧ Fun Try.prog 31 [dv a s, vi n] (vb true)) := by
  have hck := rcheck_fun a s hl hs
  by_cases ho : okI a s
  · rw [chk_ok ho] at hck
    by_cases h : i < 0 ∨ (a.length : Int) ≤ i
    · exact .inl ⟨bc_arg (.inr h), rin_far a s i hck h⟩
    · obtain ⟨n, rfl⟩ := Int.eq_ofNat_of_zero_le (show 0 ≤ i by omega)
      obtain ⟨x, hx⟩ := idx_all (show n < a.length by omega)
      have := ho.1 x (List.mem_of_getElem? hx)
      exact .inr ⟨ho, n, x, rfl, hx, this.1, this.2, rin_ok a s n hck (by omega) (by omega)⟩
  · rw [chk_no ho] at hck
    exact .inl ⟨bc_arg (.inl ho), rin_no a s i hck⟩
theorem fitsR_set (a : List Int) (n : Nat) (w : Int) (hl : a.length ≤ 100000) (hr : inR a) (hw : 0 ≤ w ∧ w ≤ 3) : Fun Try.prog 33 [sI (a.set n w)] (vb (fit (a.set n w))) := by
  rw [← fitR_fit (inR_set hr n hw)]
  exact fitsR_fun _ (by simpa using hl)
theorem rspin_fun (a s : List Int) (i : Int) (hl : a.length ≤ 100000) (hs : s.length ≤ 100000) : Fun Try.prog 19 [dv a s, vi i] (.tup [vb (spB a s i), dv (spA a s i) (spS a s i), vi (bcE a s i [0])]) := by
  rcases rin_of a s i [0] hl hs with ⟨he, hin⟩ | ⟨ho, n, x, rfl, hx, h0, h3, hin⟩
  · have := rspin_a a s i hin
    simpa [spB, spA, spS, he] using this
  · have hlt := lt_of_get hx
    by_cases c : x = 0
    · subst c
      have he : bcE a s n [0] = 0 := bc_ok ho hx (by simp)
      have hno := out_of ho.2.2.2.2.2 hx (by omega)
      have hw := with_own a s a.length s.length n 1 0 rfl rfl hl hs hx
      have := rspin_c a s (a.set n 1) n a.length s.length _ rfl rfl (by simp) hin hx (by omega) hw (fitsR_set a n 1 hl ho.1 (by omega)) (copy_own a s _ _ rfl rfl hl hs)
      have e : (a.set n 1).set n 0 = a := by rw [List.set_set]; exact set_self hx
      rw [spB, spA, spS, he, if_pos rfl, if_pos rfl, if_pos rfl, Int.toNat_natCast, wo_not hno, e]
      exact this
    · have he : bcE a s n [0] = 9 := bc_state ho hx (by simpa using c)
      have := rspin_b a s n x hin hx (by omega) (by simpa using c)
      simpa [spB, spA, spS, he] using this
theorem rfound_fun (a s : List Int) (i : Int) (hl : a.length ≤ 100000) (hs : s.length ≤ 100000) : Fun Try.prog 20 [dv a s, vi i] (.tup [dv (foA a s i) (foS a s i), vi (foE a s i)]) := by
  rcases rin_of a s i [0, 1, 2] hl hs with ⟨he, hin⟩ | ⟨ho, n, x, rfl, hx, h0, h3, hin⟩
  · have := rfound_a a s i hin
    have he2 : foE a s i = 1 := he
    rw [foA, foS, he2, if_neg (by omega), if_neg (by omega)]; exact this
  · have hlt := lt_of_get hx
    by_cases c : x = 3
    · subst c
      have he : foE a s n = 9 := bc_state ho hx (by simp)
      rw [foA, foS, he, if_neg (by omega), if_neg (by omega)]
      exact rfound_b a s n hin hx (by omega)
    · have he : foE a s n = 0 := bc_ok ho hx (by simp; omega)
      rw [foA, foS, he, if_pos rfl, if_pos rfl, Int.toNat_natCast]
      exact rfound_c a s (a.set n 0) n a.length s.length x rfl rfl (by simp) hin hx (by simpa using c) (by omega) (with_own a s _ _ n 0 x rfl rfl hl hs hx) (rwo_fun s n hs)
theorem rann_fun (a s : List Int) (i : Int) (hl : a.length ≤ 100000) (hs : s.length ≤ 100000) : Fun Try.prog 21 [dv a s, vi i] (.tup [dv (anA a s i) (anS a s i), vi (anE a s i)]) := by
  rcases rin_of a s i [0, 1] hl hs with ⟨he, hin⟩ | ⟨ho, n, x, rfl, hx, h0, h3, hin⟩
  · have he2 : anE a s i = 1 := he
    rw [anA, anS, he2, if_neg (by omega), if_neg (by omega)]; exact rann_a a s i hin
  · have hlt := lt_of_get hx
    by_cases c : x > 1
    · have he : anE a s n = 9 := bc_state ho hx (by simp; omega)
      rw [anA, anS, he, if_neg (by omega), if_neg (by omega)]
      exact rann_b a s n x hin hx c (by omega)
    · have he : anE a s n = 0 := bc_ok ho hx (by simp; omega)
      rw [anA, anS, he, if_pos rfl, if_pos rfl, Int.toNat_natCast]
      exact rann_c a s (a.set n 2) n a.length s.length x rfl rfl (by simp) (by simp only [maxLen]; omega) hin hx c (by omega) (with_own a s _ _ n 2 x rfl rfl hl hs hx)
theorem rpark_fun (a s : List Int) (i : Int) (hl : a.length ≤ 100000) (hs : s.length ≤ 100000) : Fun Try.prog 22 [dv a s, vi i] (.tup [dv (pkA a s i) (pkS a s i), vi (pkE a s i)]) := by
  rcases rin_of a s i [2] hl hs with ⟨he, hin⟩ | ⟨ho, n, x, rfl, hx, h0, h3, hin⟩
  · have he2 : pkE a s i = 1 := by rw [pkE, he, if_neg (by omega)]
    rw [pkA, pkS, he2, if_neg (by omega), if_neg (by omega)]; exact rpark_a a s i hin
  · have hlt := lt_of_get hx
    by_cases c : x = 2
    · subst c
      have he : bcE a s n [2] = 0 := bc_ok ho hx (by simp)
      have := rpark_c a s (a.set n 3) n a.length s.length _ rfl rfl (by simp) hin hx (by omega) (with_own a s _ _ n 3 2 rfl rfl hl hs hx) (fitsR_set a n 3 hl ho.1 (by omega))
      have e2 : pkE a s n = if fit (a.set n 3) = true then 0 else 9 := by rw [pkE, he, if_pos rfl, Int.toNat_natCast]
      rw [pkA, pkS, e2, Int.toNat_natCast]
      cases hf : fit (a.set n 3) <;> simpa [hf] using this
    · have he : bcE a s n [2] = 9 := bc_state ho hx (by simpa using c)
      have e2 : pkE a s n = 9 := by rw [pkE, he, if_neg (by omega)]
      rw [pkA, pkS, e2, if_neg (by omega), if_neg (by omega)]
      exact rpark_b a s (a.set n 3) n a.length s.length x rfl rfl (by simp) hin hx (by simpa using c) (by omega) (with_own a s _ _ n 3 x rfl rfl hl hs hx)
theorem rwake_fun (a s : List Int) (hl : a.length ≤ 100000) (hs : s.length ≤ 100000) : Fun Try.prog 23 [dv a s] (.tup [vi (wkI a s), dv (wkA a s) (wkS a s), vi (wkE a s)]) := by
  have hck := rcheck_fun a s hl hs
  by_cases ho : okI a s
  · rw [chk_ok ho] at hck
    by_cases he : s = []
    · subst he
      have e : wkE a [] = 5 := by rw [wkE, chk_ok ho]; rfl
      simp only [wkI, wkA, wkS, e]
      exact rwake_b a hck
    · have e : wkE a s = 0 := by rw [wkE, chk_ok ho, if_neg (by omega), if_neg he]
      obtain ⟨p, n, x, hp, hla, hpn, hx, hm⟩ := okI_last ho he
      rw [wkI, wkA, wkS, e, if_pos rfl, if_pos rfl, if_pos rfl, hla, Int.toNat_natCast]
      exact rwake_c a s (a.set n 0) n a.length p rfl hp (by simp) (by omega) hck hpn (with_own a s _ _ n 0 x rfl hp hl (by omega) hx) (rwo_fun s n hs)
  · rw [chk_no ho] at hck
    have e : wkE a s = 1 := by rw [wkE, chk_no ho, if_pos rfl]
    simp only [wkI, wkA, wkS, e]
    exact rwake_a a s hck
def nwE (n : Int) : Int := if n < 1 ∨ 64 < n then 1 else 0
def nwA (n : Int) : List Int := if n < 1 ∨ 64 < n then [] else List.replicate n.toNat 0
theorem new_all (n : Int) : Fun Try.prog 10 [vi n] (.tup [dv (nwA n) [], vi (nwE n)]) := by
  by_cases h : n < 1 ∨ 64 < n
  · rw [nwA, nwE, if_pos h, if_pos h]; exact new_no n h
  · obtain ⟨k, rfl⟩ := Int.eq_ofNat_of_zero_le (show 0 ≤ n by omega)
    rw [nwA, nwE, if_neg h, if_neg h, Int.toNat_natCast]
    exact new_fun k (by omega) (by omega)
theorem rnew_all (n : Int) : Fun Try.prog 17 [vi n] (.tup [dv (nwA n) [], vi (nwE n)]) := by
  by_cases h : n < 1 ∨ 64 < n
  · rw [nwA, nwE, if_pos h, if_pos h]; exact rnew_no n h
  · obtain ⟨k, rfl⟩ := Int.eq_ofNat_of_zero_le (show 0 ≤ n by omega)
    rw [nwA, nwE, if_neg h, if_neg h, Int.toNat_natCast]
    exact rnew_fun k (by omega) (by omega)
set_option maxHeartbeats 4000000 in
set_option maxRecDepth 10000 in
theorem copy_fun (a s : List Int) (h1 : a.length ≤ 100000) (h2 : s.length ≤ 100000) : Fun Try.prog 16 [dv a s] (dv a s) := by
  have g1 : a.length ≤ maxLen ∧ a.length * 8 ≤ 140737488355328 := by simp only [maxLen]; omega
  have g2 : s.length ≤ maxLen ∧ s.length * 8 ≤ 140737488355328 := by simp only [maxLen]; omega
  have t1 : a.take a.length = a := List.take_of_length_le (Nat.le_refl _)
  have t2 : s.take s.length = s := List.take_of_length_le (Nat.le_refl _)
  refine Fun.frozenLe ?_
  (refine LCalls.enter Try.func16 rfl (by simp [Try.ntmps16]) (LK.start ?_); simp only [Try.ntmps16, enterA])
  (repeat' first | refine LOps.done ?_ | (apply LOps.loc; (focus (first | exact Goes.free | exact Goes.on rfl rfl (by with_reducible rfl) true (by decide))); (focus (exact rfl)); (focus (exact rfl)); (focus (simp only [go_sem, ↓reduceIte, reduceCtorEq, Nat.reduceLT, Nat.reduceAdd]; with_reducible rfl))) | refine LK.seq ?_ | refine LK.ret' ?_ | refine LK.regc ?_ | (apply retQ; (focus (first | exact lres_one rfl | exact lres_more rfl | (simp only [lres, lresv, Try.results16, go_sem, ↓reduceIte, Nat.reduceEqDiff, reduceCtorEq, Nat.reduceAdd]; exact rfl)))) | (apply LK.drawn3; (focus (exact Ty.mixed)); (focus ((repeat' first | exact DRun.nil _ _ _ | (apply DRun.aopS; (focus (exact rfl)); (focus (first | exact rfl | (simp only [oF_idss, objsOf, idsOf, LV.ids, LO.ids, lookB_eq, List.any_nil, List.any_cons, cond_false, Nat.reduceBEq, Bool.or_false, go_sem, ↓reduceIte, Nat.reduceEqDiff, reduceCtorEq]; exact rfl))); (focus (first | exact Goes.free | exact Goes.on rfl rfl (by with_reducible rfl) true (by decide))); (focus (simp only [go_sem, ↓reduceIte, Nat.reduceEqDiff, Nat.reduceLT, Nat.reduceAdd, Nat.reduceLeDiff, g1, g2]; exact rfl)); (focus (exact rfl)); (focus (first | decide +kernel | (simp only [oF_all_under, oF_all_idp, evOk, ovOk, nvOk, keepOf, vis, LV.under, LV.idp, LV.idps, LO.under, LO.idp, List.all_cons, List.all_nil, List.any_cons, List.any_nil, Nat.reduceBEq, beq_self_eq_true, Bool.and_true, Bool.or_true, Bool.or_false, decide_true, decide_false, Nat.reduceLT, Nat.reduceLeDiff, Bool.and_self, Bool.or_self]; done) | (simp [oF_all_under, oF_all_idp, evOk, ovOk, nvOk, keepOf, vis, LV.under, LV.idp, LV.idps, LO.under, LO.idp]; done)))) | (apply DRun.awrS; (focus (exact rfl)); (focus (first | exact rfl | (simp only [oF_idss, oF_ids, idss_MB, idss_MI, objsOf, idsOf, LV.ids, LV.idss, LO.ids, idss_pv, lookB_eq, List.any_nil, List.any_cons, cond_true, cond_false, List.flatten_cons, List.flatten_nil, Nat.reduceBEq, Bool.or_false, Bool.false_or, Bool.or_true, go_sem, ↓reduceIte, Nat.reduceEqDiff, reduceCtorEq, Nat.reduceLT, Nat.reduceAdd, Int.reduceBEq, Int.reduceBNe, Int.reduceEq, Int.reduceLE, Int.reduceLT, Int.reduceToNat, Nat.reduceLeDiff, Nat.reduceMul, Nat.reduceSub, g1, g2]; exact rfl))); (focus (first | exact Goes.free | exact Goes.on rfl rfl (by with_reducible rfl) true (by decide))); (focus (simp only [go_sem, ↓reduceIte, Nat.reduceLT, Nat.reduceAdd, g1, g2]; exact rfl)); (focus (exact rfl)); (focus (first | (simp only [go_sem]; exact rfl) | exact rfl)); (focus (first | decide +kernel | (simp only [oF_all_idp, evOk, ovOk, nvOk, keepOf, vis, LV.under, LV.idp, LO.under, LO.idp, List.all_cons, List.all_nil, List.any_nil, Bool.and_true, Bool.or_true, Bool.false_or, decide_true, Nat.le_refl, Bool.and_self]; done) | (simp [oF_all_idp, evOk, ovOk, nvOk, keepOf, vis, LV.under, LV.idp, LO.under, LO.idp]; done))); (focus (first | (simp only [go_sem, ↓reduceIte, Nat.reduceEqDiff, reduceCtorEq]; exact rfl) | exact rfl))) | (apply DRun.awr0; (focus (exact rfl)); (focus (first | exact rfl | (simp only [oF_idss, objsOf, idsOf, LV.ids, LV.idss, LO.ids, lookB_eq, List.any_nil, List.any_cons, cond_false, List.flatten_cons, List.flatten_nil, Nat.reduceBEq, Bool.or_false, go_sem, ↓reduceIte, Nat.reduceEqDiff, reduceCtorEq]; exact rfl))); (focus (first | exact Goes.free | exact Goes.on rfl rfl (by with_reducible rfl) true (by decide))); (focus (simp only [go_sem, ↓reduceIte, Nat.reduceEqDiff, Nat.reduceLT, Nat.reduceAdd]; exact rfl)); (focus (first | (simp only [go_sem, ↓reduceIte, Nat.reduceEqDiff]; exact rfl) | exact rfl)); (focus (first | decide +kernel | (simp only [oF_all_under, oF_all_idp, evOk, ovOk, nvOk, keepOf, vis, LV.under, LV.unders, LV.idp, LO.under, LO.idp, List.all_cons, List.all_nil, List.any_cons, List.any_nil, Nat.reduceBEq, beq_self_eq_true, Bool.and_true, Bool.or_true, Bool.or_false, decide_true, decide_false, Nat.reduceLT, Nat.reduceLeDiff, Bool.and_self, Bool.or_self]; done) | (simp [oF_all_under, oF_all_idp, evOk, ovOk, nvOk, keepOf, vis, LV.under, LV.unders, LV.idp, LO.under, LO.idp]; done))); (focus (first | (simp only [go_sem, ↓reduceIte, Nat.reduceEqDiff, reduceCtorEq]; exact rfl) | exact rfl))) | fail); done)); (focus kernel_rfl); (focus (first | exact puOk_none rfl | (simp [puOk, evShape, nvShape, look, oF_len, go_sem, ↓reduceIte, Nat.reduceEqDiff, reduceCtorEq, Nat.reduceLT, Nat.reduceAdd, Int.reduceBEq, Int.reduceBNe, Int.reduceEq, Int.reduceLE, Int.reduceLT, Int.reduceToNat, Nat.reduceLeDiff, Nat.reduceMul, Nat.reduceSub, g1, g2]; done))); (focus (first | (simp only [go_sem, ↓reduceIte, Nat.reduceEqDiff, reduceCtorEq, Nat.reduceLT, Nat.reduceAdd, Int.reduceBEq, Int.reduceBNe, Int.reduceEq, Int.reduceLE, Int.reduceLT, Int.reduceToNat, Nat.reduceLeDiff, Nat.reduceMul, Nat.reduceSub, g1, g2]; exact rfl) | exact rfl)); (focus (first | (simp only [go_sem, ↓reduceIte, Nat.reduceEqDiff, reduceCtorEq, Nat.reduceLT, Nat.reduceAdd, Int.reduceBEq, Int.reduceBNe, Int.reduceEq, Int.reduceLE, Int.reduceLT, Int.reduceToNat, Nat.reduceLeDiff, Nat.reduceMul, Nat.reduceSub, g1, g2]; exact rfl) | exact rfl)); (focus (first | (simp only [go_sem, ↓reduceIte, Nat.reduceEqDiff, reduceCtorEq, Nat.reduceLT, Nat.reduceAdd, Int.reduceBEq, Int.reduceBNe, Int.reduceEq, Int.reduceLE, Int.reduceLT, Int.reduceToNat, Nat.reduceLeDiff, Nat.reduceMul, Nat.reduceSub, g1, g2]; exact rfl) | exact rfl))) | fail)
  (simp only [go_sem, ↓reduceIte, Nat.reduceEqDiff, reduceCtorEq, t1, t2]; repeat' first | exact LV.le_refl _ | exact LV.le_nil _ | exact le_nilF _ _ | exact LV.le_any _ _ _ | refine LV.le_tup ?_ | refine LV.le_agg ?_ | exact LV.les_nil | refine LV.les_cons ?_ ?_)
set_option maxHeartbeats 4000000 in
set_option maxRecDepth 10000 in
theorem ann_own (a s : List Int) (i : Int) (n m1 m2 : Nat) (b : Bool) (A S : List Int) (hb : Own Try.prog 29 [dv a s, vi i, vi 2, sI [0, 1]] (.tup [.agg [.own 3 n 0 n, .own 4 m1 0 m2], vb b, vi 0]) 12 [(3, .arr 1 (oF (cI .i64) A)), (4, .arr 1 (oF (cI .i64) S))]) : Own Try.prog 11 [dv a s, vi i] (.tup [.agg [.own 6 n 0 n, .own 7 m1 0 m2], vi 0]) 20 [(6, .arr 1 (oF (cI .i64) A)), (7, .arr 1 (oF (cI .i64) S))] := by
  unfold Own
  (refine LCalls.enter Try.func11 rfl (by simp [Try.ntmps11]) (LK.start ?_); simp only [Try.ntmps11, enterA, Nat.zero_add])
  (repeat' first | refine LOps.done ?_ | (apply LOps.mv; (focus (first | exact Goes.free | exact Goes.on rfl rfl (by with_reducible rfl) true (by decide))); (focus (exact rfl)); (focus (exact rfl))) | (apply LOps.asg; (focus (first | exact Goes.free | exact Goes.on rfl rfl (by with_reducible rfl) true (by decide))); (focus (exact rfl)); (focus (exact rfl))) | (apply LOps.ext; (focus (first | exact Goes.free | exact Goes.on rfl rfl (by with_reducible rfl) true (by decide))); (focus (exact rfl)); (focus (exact rfl)); (focus (exact rfl))) | (apply LOps.loc; (focus (first | exact Goes.free | exact Goes.on rfl rfl (by with_reducible rfl) true (by decide))); (focus (exact rfl)); (focus (exact rfl)); (focus (simp only [go_sem, ↓reduceIte, Nat.reduceEqDiff, reduceCtorEq, Nat.reduceLT, Nat.reduceAdd, Nat.reduceLeDiff]; with_reducible rfl))) | (apply LOps.loc0; (focus (first | exact Goes.free | exact Goes.on rfl rfl (by with_reducible rfl) true (by decide))); (focus (exact rfl)); (focus (simp only [go_sem, ↓reduceIte, Nat.reduceEqDiff, reduceCtorEq, Nat.reduceLT, Nat.reduceAdd]; with_reducible rfl))) | refine LK.seq ?_ | refine LK.ret' ?_ | refine LK.regc ?_ | (apply retQ; (focus (first | exact lres_one rfl | exact lres_more rfl | (simp only [lres, lresv, Try.results11, go_sem, ↓reduceIte, Nat.reduceEqDiff, reduceCtorEq, Nat.reduceAdd]; exact rfl)))) | ((apply LOps.thaw; (focus (exact rfl)); (focus (exact rfl)); (focus (exact rfl)); (focus (exact rfl)); (focus (simp only [go_sem, ↓reduceIte, Nat.reduceEqDiff, reduceCtorEq, Nat.reduceAdd]; exact rfl)); (focus (simp only [go_sem, ↓reduceIte, Nat.reduceEqDiff, reduceCtorEq]; exact rfl))); (apply LOps.inline; (focus (first | exact Goes.free | exact Goes.on rfl rfl (by with_reducible rfl) true (by decide))); (focus (exact rfl)); (focus (exact rfl)); (focus (simp only [go_sem, ↓reduceIte, Nat.reduceEqDiff]; exact rfl)); (focus (simp only [go_sem])); (refine LCalls.mono (by exact Own.at (hb) (by first | rfl | simp [go_sem]) (by first | (simp only [go_sem, Nat.reduceAdd]; exact rfl) | (simp only [go_sem, ↓reduceIte, Nat.reduceEqDiff, reduceCtorEq, Nat.reduceLT, Nat.reduceAdd, Int.reduceBEq, Int.reduceBNe, Int.reduceEq, Int.reduceLE, Int.reduceLT, Int.reduceToNat, Nat.reduceLeDiff, Nat.reduceMul, Nat.reduceSub] <;> fail) | exact rfl) (by first | (simp only [go_sem, Nat.reduceAdd]; exact rfl) | (simp only [go_sem, ↓reduceIte, Nat.reduceEqDiff, reduceCtorEq, Nat.reduceLT, Nat.reduceAdd, Int.reduceBEq, Int.reduceBNe, Int.reduceEq, Int.reduceLE, Int.reduceLT, Int.reduceToNat, Nat.reduceLeDiff, Nat.reduceMul, Nat.reduceSub] <;> fail) | exact rfl) (by first | (simp only [go_sem, Nat.reduceAdd]; exact rfl) | (simp only [go_sem, ↓reduceIte, Nat.reduceEqDiff, reduceCtorEq, Nat.reduceLT, Nat.reduceAdd, Int.reduceBEq, Int.reduceBNe, Int.reduceEq, Int.reduceLE, Int.reduceLT, Int.reduceToNat, Nat.reduceLeDiff, Nat.reduceMul, Nat.reduceSub] <;> fail) | exact rfl)) ?_; (rintro _ _ ⟨rfl, rfl⟩)))) | fail)
  exact Own.end (by first | rfl | (simp only [go_sem, ↓reduceIte, Nat.reduceEqDiff, reduceCtorEq, Nat.reduceLT, Nat.reduceAdd, Int.reduceBEq, Int.reduceBNe, Int.reduceEq, Int.reduceLE, Int.reduceLT, Int.reduceToNat, Nat.reduceLeDiff, Nat.reduceMul, Nat.reduceSub])) rfl rfl (by first | exact rfl | (simp only [go_sem, ↓reduceIte, Nat.reduceEqDiff, reduceCtorEq, Nat.reduceLT, Nat.reduceAdd, Int.reduceBEq, Int.reduceBNe, Int.reduceEq, Int.reduceLE, Int.reduceLT, Int.reduceToNat, Nat.reduceLeDiff, Nat.reduceMul, Nat.reduceSub]; exact rfl))
def inc (w : List Int) (k : Nat) : List Int := (w.take k).map (fun x => IntKind.i64.wrap (x + 1)) ++ w.drop k
theorem inc_zero (w : List Int) : inc w 0 = w := by simp [inc]
theorem inc_len (w : List Int) (k : Nat) : (inc w k).length = w.length := by simp [inc]; omega
theorem inc_get {w : List Int} {k : Nat} {x : Int} (hx : w[k]? = some x) : (inc w k)[k]? = some x := by
  have hk := lt_of_get hx
  rw [inc, List.getElem?_append_right (by simp; omega)]
  simp only [List.length_map, List.length_take, Nat.min_eq_left (Nat.le_of_lt hk), Nat.sub_self, List.getElem?_drop, Nat.add_zero]
  exact hx
theorem inc_set {w : List Int} {k : Nat} {x : Int} (hx : w[k]? = some x) : (inc w k).set k (IntKind.i64.wrap (x + 1)) = inc w (k + 1) := by
  have hk := lt_of_get hx
  have e : w.drop k = x :: w.drop (k + 1) := by
    rw [List.drop_eq_getElem_cons hk]
    rw [List.getElem?_eq_getElem hk] at hx
    rw [Option.some.inj hx]
  simp only [inc]
  rw [List.set_append_right _ _ (by simp; omega), List.take_add_one, hx, e]
  simp only [List.length_map, List.length_take, Nat.min_eq_left (Nat.le_of_lt hk), Nat.sub_self, List.set_cons_zero, Option.toList_some, List.map_append, List.map_cons, List.map_nil, List.append_assoc, List.cons_append, List.nil_append]
set_option maxHeartbeats 4000000 in
set_option maxRecDepth 10000 in
theorem does_skip (n : Int) (a s a2 s2 : List Int) (i w : Int) (h : 100 < a.length ∨ 100 < s.length ∨ 100 < a2.length ∨ 100 < s2.length) : Fun Try.prog 6 [vi n, dv a s, dv a2 s2, vi i, vi w] (vb true) := by
  have hc : (decide ((a.length : Int) > 100) || decide ((s.length : Int) > 100) || decide ((a2.length : Int) > 100) || decide ((s2.length : Int) > 100)) = true := by simp only [Bool.or_eq_true, decide_eq_true_eq]; omega
  (refine LCalls.enter Try.func6 rfl (by simp [Try.ntmps6]) (LK.start ?_); simp only [Try.ntmps6, enterA, Nat.zero_add])
  (repeat' first | refine LOps.done ?_ | (apply LOps.mv; (focus (first | exact Goes.free | exact Goes.on rfl rfl (by with_reducible rfl) true (by decide))); (focus (exact rfl)); (focus (exact rfl))) | (apply LOps.asg; (focus (first | exact Goes.free | exact Goes.on rfl rfl (by with_reducible rfl) true (by decide))); (focus (exact rfl)); (focus (exact rfl))) | (apply LOps.loc; (focus (first | exact Goes.free | exact Goes.on rfl rfl (by with_reducible rfl) true (by decide))); (focus (exact rfl)); (focus (exact rfl)); (focus (simp only [go_sem, ↓reduceIte, Nat.reduceEqDiff, reduceCtorEq, Nat.reduceLT, Nat.reduceAdd]; with_reducible rfl))) | (apply LOps.pass; (focus (first | exact Goes.on rfl rfl (by with_reducible rfl) false (by decide) | exact Goes.undef rfl rfl (by with_reducible rfl))); (focus (exact rfl))) | (apply LOps.scEnd; (focus (exact rfl)); (focus (with_reducible rfl))) | refine LK.seq ?_ | refine LK.skip ?_ | (apply LK.condF2; (focus (exact rfl)); (focus (with_reducible rfl)); (focus (first | with_reducible rfl | decide | exact Bool.false_and _ | exact congrArg (fun b => b && _) (Bool.false_and _)))) | refine LK.regc ?_ | (apply LOps.locFn; (focus (first | exact Goes.free | exact Goes.on rfl rfl (by with_reducible rfl) true (by decide))); (focus (exact rfl)); (focus (exact rfl)); (focus (simp only [go_sem]; exact rfl)); (focus (simp only [go_sem])); (focus (exact live_fun)); (focus (first | rfl | simp [go_sem])); (focus (first | rfl | simp [go_sem]))) | (apply LOps.or2; exact rfl; exact rfl; exact rfl; exact rfl; exact rfl; (focus (with_reducible rfl)); (focus (first | kernel_rfl | rfl))) | refine Under.mk (fun hg => ?_) | fail)
  refine LK.condT2 rfl (by first | with_reducible rfl | rfl) (hc) ?_
  (repeat' first | refine LOps.done ?_ | (apply LOps.mv; (focus (first | exact Goes.free | exact Goes.on rfl rfl (by with_reducible rfl) true (by decide))); (focus (exact rfl)); (focus (exact rfl))) | (apply LOps.asg; (focus (first | exact Goes.free | exact Goes.on rfl rfl (by with_reducible rfl) true (by decide))); (focus (exact rfl)); (focus (exact rfl))) | refine LK.seq ?_ | refine LK.ret' ?_ | refine LK.regc ?_ | (apply retQ; (focus (first | exact lres_one rfl | exact lres_more rfl | (simp only [lres, lresv, Try.results6, go_sem, ↓reduceIte, Nat.reduceEqDiff, reduceCtorEq, Nat.reduceLT, Nat.reduceAdd, Int.reduceBEq, Int.reduceBNe, Int.reduceEq, Int.reduceLE, Int.reduceLT, Int.reduceToNat, Nat.reduceLeDiff, Nat.reduceMul, Nat.reduceSub]; exact rfl)))) | fail)
  all_goals rfl
theorem same_self (a s : List Int) : (decide (a = a) && decide (s = s)) = true := by simp
set_option maxHeartbeats 4000000 in
set_option maxRecDepth 20000 in
theorem does_ok (n : Int) (a s a2 s2 : List Int) (i w : Int) (h1 : a.length ≤ 100) (h2 : s.length ≤ 100) (h3 : a2.length ≤ 100) (h4 : s2.length ≤ 100) (A S r : List Int) (la m1 m2 : Nat) (hA : A.length = la) (hla : la ≤ 100) (hS : S.length = m1) (hm2 : m2 ≤ m1) (hr : S.take m2 = r) (hrl : r.length ≤ 101)
    (hT : Own Try.prog 11 [dv a s, vi i] (.tup [.agg [.own 6 la 0 la, .own 7 m1 0 m2], vi 0]) 20 [(6, .arr 1 (oF (cI .i64) A)), (7, .arr 1 (oF (cI .i64) S))])
    (hR : Fun Try.prog 21 [dv a s, vi i] (.tup [dv A r, vi 0])) : Fun Try.prog 6 [vi n, dv a s, dv a2 s2, vi i, vi w] (vb true) := by
  have hc : (decide ((a.length : Int) > 100) || decide ((s.length : Int) > 100) || decide ((a2.length : Int) > 100) || decide ((s2.length : Int) > 100)) = false := by simp only [Bool.or_eq_false_iff, decide_eq_false_iff_not]; omega
  have hct : A.take la = A := List.take_of_length_le (by omega)
  have q1 := new_all n
  have q2 := rnew_all n
  have q3 := spin_fun a s i (by omega) (by omega)
  have q4 := rspin_fun a s i (by omega) (by omega)
  have q5 := found_fun a s i (by omega) (by omega)
  have q6 := rfound_fun a s i (by omega) (by omega)
  have q7 := park_fun a s i (by omega) (by omega)
  have q8 := rpark_fun a s i (by omega) (by omega)
  have q9 := wake_fun a s (by omega) (by omega)
  have q10 := rwake_fun a s (by omega) (by omega)
  have q11 := count_fun a s w (by omega) (by omega)
  have q12 := rcount_fun a s w (by omega) (by omega)
  have q13 := check_fun a s (by omega) (by omega)
  have q14 := rcheck_fun a s (by omega) (by omega)
  have q15 := same_fun a s a2 s2 (by omega) (by omega)
  have q16 := rsame_fun a s a2 s2 (by omega) (by omega)
  have q17 := rsame_fun a s a s (by omega) (by omega)
  have q18 := copy_fun a s (by omega) (by omega)
  have wl : ∀ v, (wo s v).length ≤ 100 := fun v => by have := List.length_filter_le (fun x => !(x == v)) s; simp only [wo]; omega
  have sl : ∀ k (v : Int), (a.set k v).length ≤ 100 := fun k v => by simpa using h1
  have u1 := rsame_fun (nwA n) [] (nwA n) [] (by unfold nwA; split <;> simp; omega) (by decide)
  have u2 := rsame_fun (spA a s i) (spS a s i) (spA a s i) (spS a s i) (by unfold spA; split; split; have := sl i.toNat 1; omega; rw [List.length_set]; have := sl i.toNat 1; omega; simp) (by unfold spS; split; have := wl i; omega; simp)
  have u3 := rsame_fun (foA a s i) (foS a s i) (foA a s i) (foS a s i) (by unfold foA; split; have := sl i.toNat 0; omega; simp) (by unfold foS; split; have := wl i; omega; simp)
  have u4 := rsame_fun A r A r (by omega) (by omega)
  have u5 := rsame_fun (pkA a s i) (pkS a s i) (pkA a s i) (pkS a s i) (by unfold pkA; split; have := sl i.toNat 3; omega; simp) (by unfold pkS; split; omega; simp)
  have u6 := rsame_fun (wkA a s) (wkS a s) (wkA a s) (wkS a s) (by unfold wkA; split; have := sl (lastI s).toNat 0; omega; simp) (by unfold wkS; split; have := wl (lastI s); omega; simp)
  rw [same_self] at u1 u2 u3 u4 u5 u6 q17
  generalize nwA n = b1 at *
  generalize nwE n = b2 at *
  generalize spB a s i = b3 at *
  generalize spA a s i = b4 at *
  generalize spS a s i = b5 at *
  generalize bcE a s i [0] = b6 at *
  generalize foA a s i = b7 at *
  generalize foS a s i = b8 at *
  generalize foE a s i = b9 at *
  generalize pkA a s i = b10 at *
  generalize pkS a s i = b11 at *
  generalize pkE a s i = b12 at *
  generalize wkI a s = b13 at *
  generalize wkA a s = b14 at *
  generalize wkS a s = b15 at *
  generalize wkE a s = b16 at *
  generalize ctN a s w = b17 at *
  generalize ctE a s w = b18 at *
  generalize chk a s = b19 at *
  generalize (decide (a = a2) && decide (s = s2)) = b20 at *
  clear wl sl
  (refine LCalls.enter Try.func6 rfl (by simp [Try.ntmps6]) (LK.start ?_); simp only [Try.ntmps6, enterA, Nat.zero_add])
  (repeat' first | refine LOps.done ?_ | (apply LOps.mv; (focus (first | exact Goes.free | exact Goes.on rfl rfl (by with_reducible rfl) true (by decide))); (focus (exact rfl)); (focus (exact rfl))) | (apply LOps.asg; (focus (first | exact Goes.free | exact Goes.on rfl rfl (by with_reducible rfl) true (by decide))); (focus (exact rfl)); (focus (exact rfl))) | (apply LOps.loc; (focus (first | exact Goes.free | exact Goes.on rfl rfl (by with_reducible rfl) true (by decide))); (focus (exact rfl)); (focus (exact rfl)); (focus (simp only [go_sem, ↓reduceIte, Nat.reduceEqDiff, reduceCtorEq, Nat.reduceLT, Nat.reduceAdd]; with_reducible rfl))) | (apply LOps.pass; (focus (first | exact Goes.on rfl rfl (by with_reducible rfl) false (by decide) | exact Goes.undef rfl rfl (by with_reducible rfl))); (focus (exact rfl))) | (apply LOps.scEnd; (focus (exact rfl)); (focus (with_reducible rfl))) | refine LK.seq ?_ | refine LK.skip ?_ | (apply LK.condF2; (focus (exact rfl)); (focus (with_reducible rfl)); (focus (first | with_reducible rfl | decide | exact Bool.false_and _ | exact congrArg (fun b => b && _) (Bool.false_and _)))) | refine LK.regc ?_ | (apply LOps.locFn; (focus (first | exact Goes.free | exact Goes.on rfl rfl (by with_reducible rfl) true (by decide))); (focus (exact rfl)); (focus (exact rfl)); (focus (simp only [go_sem]; exact rfl)); (focus (simp only [go_sem])); (focus (exact live_fun)); (focus (first | rfl | simp [go_sem])); (focus (first | rfl | simp [go_sem]))) | (apply LOps.or2; exact rfl; exact rfl; exact rfl; exact rfl; exact rfl; (focus (with_reducible rfl)); (focus (first | kernel_rfl | rfl))) | refine Under.mk (fun hg => ?_) | fail)
  refine LK.condF2 rfl (by first | with_reducible rfl | rfl) (hc) ?_
  (repeat' first | refine LOps.done ?_ | (apply LOps.mv; (focus (first | exact Goes.free | exact Goes.on rfl rfl (by with_reducible rfl) true (by decide))); (focus (exact rfl)); (focus (exact rfl))) | (apply LOps.asg; (focus (first | exact Goes.free | exact Goes.on rfl rfl (by with_reducible rfl) true (by decide))); (focus (exact rfl)); (focus (exact rfl))) | (apply LOps.ext; (focus (first | exact Goes.free | exact Goes.on rfl rfl (by with_reducible rfl) true (by decide))); (focus (exact rfl)); (focus (exact rfl)); (focus (exact rfl))) | (apply LOps.loc; (focus (first | exact Goes.free | exact Goes.on rfl rfl (by with_reducible rfl) true (by decide))); (focus (exact rfl)); (focus (exact rfl)); (focus (simp only [go_sem, ↓reduceIte, Nat.reduceEqDiff, reduceCtorEq, Nat.reduceLT, Nat.reduceAdd, hA, hct]; with_reducible rfl))) | (apply LOps.loc0; (focus (first | exact Goes.free | exact Goes.on rfl rfl (by with_reducible rfl) true (by decide))); (focus (exact rfl)); (focus (simp only [go_sem, ↓reduceIte, Nat.reduceEqDiff, reduceCtorEq, Nat.reduceLT, Nat.reduceAdd]; with_reducible rfl))) | refine LK.seq ?_ | refine LK.skip ?_ | refine LK.block ?_ | refine LK.regc ?_ | (apply LOps.locFn; (focus (first | exact Goes.free | exact Goes.on rfl rfl (by with_reducible rfl) true (by decide))); (focus (exact rfl)); (focus (exact rfl)); (focus (simp only [go_sem, ↓reduceIte, Nat.reduceEqDiff]; exact rfl)); (focus (simp only [go_sem])); (focus (first | exact q18 | exact q1 | exact q2 | exact q3 | exact q4 | exact q5 | exact q6 | exact Own.at (hT) (by first | rfl | simp [go_sem]) (by first | (simp only [go_sem]; exact rfl) | (simp only [go_sem, ↓reduceIte, Nat.reduceEqDiff, reduceCtorEq, Nat.reduceLT, Nat.reduceAdd, Int.reduceBEq, Int.reduceBNe, Int.reduceEq, Int.reduceLE, Int.reduceLT, Int.reduceToNat, Nat.reduceLeDiff, Nat.reduceMul, Nat.reduceSub, hA, hS, hm2, hr, hct] <;> fail) | exact rfl) (by first | (simp only [go_sem, ↓reduceIte, Nat.reduceEqDiff, reduceCtorEq, Nat.reduceLT, Nat.reduceAdd, Int.reduceBEq, Int.reduceBNe, Int.reduceEq, Int.reduceLE, Int.reduceLT, Int.reduceToNat, Nat.reduceLeDiff, Nat.reduceMul, Nat.reduceSub, hA, hS, hm2, hr, hct]; exact rfl) | (simp only [go_sem, ↓reduceIte, Nat.reduceEqDiff, reduceCtorEq, Nat.reduceLT, Nat.reduceAdd, Int.reduceBEq, Int.reduceBNe, Int.reduceEq, Int.reduceLE, Int.reduceLT, Int.reduceToNat, Nat.reduceLeDiff, Nat.reduceMul, Nat.reduceSub, hA, hS, hm2, hr, hct] <;> fail) | exact rfl) (by first | (simp only [go_sem]; exact rfl) | (simp only [go_sem, ↓reduceIte, Nat.reduceEqDiff, reduceCtorEq, Nat.reduceLT, Nat.reduceAdd, Int.reduceBEq, Int.reduceBNe, Int.reduceEq, Int.reduceLE, Int.reduceLT, Int.reduceToNat, Nat.reduceLeDiff, Nat.reduceMul, Nat.reduceSub, hA, hS, hm2, hr, hct] <;> fail) | exact rfl) | exact hR | exact q7 | exact q8 | exact q9 | exact q10 | exact q11 | exact q12 | exact u1 | exact u2 | exact u3 | exact u4 | exact u5 | exact u6)); (focus (first | rfl | simp [go_sem])); (focus (first | rfl | simp [go_sem]))) | (apply LOps.borrowFn; (focus (first | exact Goes.free | exact Goes.on rfl rfl (by with_reducible rfl) true (by decide))); (focus (exact rfl)); (focus (exact rfl)); (focus (simp only [go_sem, ↓reduceIte, Nat.reduceEqDiff]; exact rfl)); (focus (simp only [go_sem])); (focus (simp only [go_sem, ↓reduceIte, Nat.reduceEqDiff, hA, hS, hm2, hr, hct]; exact rfl)); (focus (first | exact q18 | exact q1 | exact q2 | exact q3 | exact q4 | exact q5 | exact q6 | exact Own.at (hT) (by first | rfl | simp [go_sem]) (by first | (simp only [go_sem]; exact rfl) | (simp only [go_sem, ↓reduceIte, Nat.reduceEqDiff, reduceCtorEq, Nat.reduceLT, Nat.reduceAdd, Int.reduceBEq, Int.reduceBNe, Int.reduceEq, Int.reduceLE, Int.reduceLT, Int.reduceToNat, Nat.reduceLeDiff, Nat.reduceMul, Nat.reduceSub, hA, hS, hm2, hr, hct] <;> fail) | exact rfl) (by first | (simp only [go_sem, ↓reduceIte, Nat.reduceEqDiff, reduceCtorEq, Nat.reduceLT, Nat.reduceAdd, Int.reduceBEq, Int.reduceBNe, Int.reduceEq, Int.reduceLE, Int.reduceLT, Int.reduceToNat, Nat.reduceLeDiff, Nat.reduceMul, Nat.reduceSub, hA, hS, hm2, hr, hct]; exact rfl) | (simp only [go_sem, ↓reduceIte, Nat.reduceEqDiff, reduceCtorEq, Nat.reduceLT, Nat.reduceAdd, Int.reduceBEq, Int.reduceBNe, Int.reduceEq, Int.reduceLE, Int.reduceLT, Int.reduceToNat, Nat.reduceLeDiff, Nat.reduceMul, Nat.reduceSub, hA, hS, hm2, hr, hct] <;> fail) | exact rfl) (by first | (simp only [go_sem]; exact rfl) | (simp only [go_sem, ↓reduceIte, Nat.reduceEqDiff, reduceCtorEq, Nat.reduceLT, Nat.reduceAdd, Int.reduceBEq, Int.reduceBNe, Int.reduceEq, Int.reduceLE, Int.reduceLT, Int.reduceToNat, Nat.reduceLeDiff, Nat.reduceMul, Nat.reduceSub, hA, hS, hm2, hr, hct] <;> fail) | exact rfl) | exact hR | exact q7 | exact q8 | exact q9 | exact q10 | exact q11 | exact q12 | exact u1 | exact u2 | exact u3 | exact u4 | exact u5 | exact u6)); (focus (first | rfl | simp [go_sem])); (focus (exact rfl))) | ((apply LOps.inline; (focus (first | exact Goes.free | exact Goes.on rfl rfl (by with_reducible rfl) true (by decide))); (focus (exact rfl)); (focus (exact rfl)); (focus (simp only [go_sem, ↓reduceIte, Nat.reduceEqDiff]; exact rfl)); (focus (simp only [go_sem]))); (first | (refine LCalls.mono (by first | exact q18 | exact q1 | exact q2 | exact q3 | exact q4 | exact q5 | exact q6 | exact Own.at (hT) (by first | rfl | simp [go_sem]) (by first | (simp only [go_sem, Nat.reduceAdd]; exact rfl) | (simp only [go_sem, ↓reduceIte, Nat.reduceEqDiff, reduceCtorEq, Nat.reduceLT, Nat.reduceAdd, Int.reduceBEq, Int.reduceBNe, Int.reduceEq, Int.reduceLE, Int.reduceLT, Int.reduceToNat, Nat.reduceLeDiff, Nat.reduceMul, Nat.reduceSub, hA, hS, hm2, hr, hct] <;> fail) | exact rfl) (by first | (simp only [go_sem, Nat.reduceAdd]; exact rfl) | (simp only [go_sem, ↓reduceIte, Nat.reduceEqDiff, reduceCtorEq, Nat.reduceLT, Nat.reduceAdd, Int.reduceBEq, Int.reduceBNe, Int.reduceEq, Int.reduceLE, Int.reduceLT, Int.reduceToNat, Nat.reduceLeDiff, Nat.reduceMul, Nat.reduceSub, hA, hS, hm2, hr, hct] <;> fail) | exact rfl) (by first | (simp only [go_sem, Nat.reduceAdd]; exact rfl) | (simp only [go_sem, ↓reduceIte, Nat.reduceEqDiff, reduceCtorEq, Nat.reduceLT, Nat.reduceAdd, Int.reduceBEq, Int.reduceBNe, Int.reduceEq, Int.reduceLE, Int.reduceLT, Int.reduceToNat, Nat.reduceLeDiff, Nat.reduceMul, Nat.reduceSub, hA, hS, hm2, hr, hct] <;> fail) | exact rfl) | exact hR | exact q7 | exact q8 | exact q9 | exact q10 | exact q11 | exact q12 | exact u1 | exact u2 | exact u3 | exact u4 | exact u5 | exact u6) ?_; (rintro _ _ ⟨rfl, rfl⟩)) | fail)) | fail)
  refine LK.loop (fun k : Nat => la - k) (fun k => k ≤ la) (fun k => ⟨276, [(6, .ptr 0 1 0 0), (7, .ptr 1 1 0 0), (11, vb true), (12, .ptr 2 1 0 0), (27, .ptr 29 1 0 0), (45, vb true), (239, vi la), (240, vi k)]⟩) (fun k => [(0, .arr 2 [[sI a, sI s]]), (1, .arr 2 [[sI a2, sI s2]]), (2, .arr 2 [[sI a, sI s]]), (15, .arr 1 (oF (cI .i64) (inc A k))), (29, .arr 2 [[.own 15 la 0 la, .own 16 m1 0 m2]])]) 0 (Nat.zero_le _) (by dsimp only; rw [inc_zero]; exact (Sub.by rfl rfl (by first | rfl | (simp only [subB, oF_all_under, LV.under, LO.under, List.all_cons, List.all_nil, decide_true, Nat.reduceLT, Bool.and_self]; done)))) ?_
  intro k hk J hJ
  have hil : (inc A k).length = la := by rw [inc_len, hA]
  rcases Nat.lt_or_ge k la with hlt | hge
  · obtain ⟨x, hx⟩ := idx_all (show k < A.length by omega)
    have i1 : ((k : Int) < (la : Int)) := by omega
    have hg := inc_get hx
    have hs := inc_set hx
    have hw := wrapn (n := k) (by omega)
    (repeat' first | refine LOps.done ?_ | (apply LOps.mv; (focus (first | exact Goes.free | exact Goes.on rfl rfl (by with_reducible rfl) true (by decide))); (focus (exact rfl)); (focus (exact rfl))) | (apply LOps.asg; (focus (first | exact Goes.free | exact Goes.on rfl rfl (by with_reducible rfl) true (by decide))); (focus (exact rfl)); (focus (exact rfl))) | (apply LOps.loc; (focus (first | exact Goes.free | exact Goes.on rfl rfl (by with_reducible rfl) true (by decide))); (focus (exact rfl)); (focus (exact rfl)); (focus (simp only [go_sem, ↓reduceIte, Nat.reduceEqDiff, reduceCtorEq, Nat.reduceLT, i1, hil, hg, hw]; with_reducible rfl))) | (apply LOps.loc0; (focus (first | exact Goes.free | exact Goes.on rfl rfl (by with_reducible rfl) true (by decide))); (focus (exact rfl)); (focus (simp only [go_sem, ↓reduceIte, Nat.reduceEqDiff, reduceCtorEq, Nat.reduceLT, hil, hg, hs]; with_reducible rfl))) | refine LK.seq ?_ | refine LK.skip ?_ | refine LK.block ?_ | refine LK.blk ?_ | refine LK.fin ?_ | (apply LK.condT2; (focus (exact rfl)); (focus (with_reducible rfl)); (focus (first | with_reducible rfl | decide | exact Bool.true_or _ | exact congrArg (fun b => b || _) (Bool.true_or _)))) | refine LK.regc ?_ | fail)
    apply hJ
    exact ⟨k + 1, hlt, by omega, (Sub.by rfl rfl (by first | rfl | (simp only [subB, oF_all_under, LV.under, LO.under, List.all_cons, List.all_nil, decide_true, Nat.reduceLT, Bool.and_self]; done)))⟩
  · have i1 : ¬ ((k : Int) < (la : Int)) := by omega
    (repeat' first | refine LOps.done ?_ | (apply LOps.loc; (focus (first | exact Goes.free | exact Goes.on rfl rfl (by with_reducible rfl) true (by decide))); (focus (exact rfl)); (focus (exact rfl)); (focus (simp only [go_sem, ↓reduceIte, Nat.reduceEqDiff, i1]; with_reducible rfl))) | refine LK.seq ?_ | refine LK.ret' ?_ | refine LK.exit' rfl ?_ | (apply LK.condF2; (focus (exact rfl)); (focus (with_reducible rfl)); (focus (first | with_reducible rfl | decide | exact Bool.false_and _ | exact congrArg (fun b => b && _) (Bool.false_and _)))) | refine LK.regc ?_ | (apply retQ; (focus (first | exact lres_one rfl | exact lres_more rfl | (simp only [lres, lresv, Try.results6, go_sem, ↓reduceIte, Nat.reduceEqDiff, reduceCtorEq, Nat.reduceLT, Nat.reduceAdd, Int.reduceBEq, Int.reduceBNe, Int.reduceEq, Int.reduceLE, Int.reduceLT, Int.reduceToNat, Nat.reduceLeDiff, Nat.reduceMul, Nat.reduceSub, i1]; exact rfl)))) | (apply LK.drawn3; (focus (exact Ty.mixed)); (focus ((repeat' first | exact DRun.nil _ _ _ | (apply DRun.aopS; (focus (exact rfl)); (focus (first | exact rfl | (simp only [oF_idss, oF_ids, idss_MB, idss_MI, objsOf, idsOf, LV.ids, LV.idss, LO.ids, idss_pv, lookB_eq, List.any_nil, List.any_cons, cond_true, cond_false, List.flatten_cons, List.flatten_nil, Nat.reduceBEq, Bool.or_false, Bool.false_or, Bool.or_true, go_sem, ↓reduceIte, Nat.reduceEqDiff, reduceCtorEq, Nat.reduceLT, Nat.reduceAdd, Int.reduceBEq, Int.reduceBNe, Int.reduceEq, Int.reduceLE, Int.reduceLT, Int.reduceToNat, Nat.reduceLeDiff, Nat.reduceMul, Nat.reduceSub, i1]; exact rfl))); (focus (first | exact Goes.free | exact Goes.on rfl rfl (by with_reducible rfl) true (by decide))); (focus (simp only [go_sem, ↓reduceIte, Nat.reduceEqDiff, reduceCtorEq, Nat.reduceAdd]; exact rfl)); (focus (exact rfl)); (focus (first | decide +kernel | (simp only [evOk, ovOk, nvOk, keepOf, vis, LV.under, LV.idp, LV.idps, LO.under, LO.idp, List.all_cons, List.all_nil, List.any_cons, List.any_nil, Bool.and_true, Bool.or_false, Bool.false_or, decide_true, Nat.reduceLT, Bool.and_self]; done) | (simp [evOk, ovOk, nvOk, keepOf, vis, LV.under, LV.idp, LV.idps, LO.under, LO.idp]; done)))) | (apply DRun.afnS; (focus (exact rfl)); (focus (first | exact Goes.free | exact Goes.on rfl rfl (by with_reducible rfl) true (by decide))); (focus (simp only [go_sem, ↓reduceIte, Nat.reduceEqDiff]; exact rfl)); (focus (simp only [go_sem])); (focus (first | exact q13 | exact q14 | exact q15 | exact q16 | exact q17)); (focus (first | rfl | simp [go_sem])); (focus (first | rfl | simp [go_sem])); (focus (exact rfl)); (focus (first | decide +kernel | (simp only [evOk, ovOk, nvOk, keepOf, vis, LV.under, LV.unders, LV.idp, LO.under, LO.idp, List.all_cons, List.all_nil, List.any_nil, Bool.and_true, Bool.false_or, Bool.and_self]; done) | (simp [evOk, ovOk, nvOk, keepOf, vis, LV.under, LV.unders, LV.idp, LO.under, LO.idp]; done)))) | fail); done)); (focus kernel_rfl); (focus (first | exact puOk_none rfl | (simp [puOk, evShape, nvShape, look, oF_len, go_sem, ↓reduceIte, Nat.reduceEqDiff, reduceCtorEq, Nat.reduceLT, Nat.reduceAdd, Int.reduceBEq, Int.reduceBNe, Int.reduceEq, Int.reduceLE, Int.reduceLT, Int.reduceToNat, Nat.reduceLeDiff, Nat.reduceMul, Nat.reduceSub, i1]; done))); (focus (first | (simp only [go_sem, ↓reduceIte, Nat.reduceEqDiff, reduceCtorEq, Nat.reduceLT, Nat.reduceAdd, Int.reduceBEq, Int.reduceBNe, Int.reduceEq, Int.reduceLE, Int.reduceLT, Int.reduceToNat, Nat.reduceLeDiff, Nat.reduceMul, Nat.reduceSub, i1]; exact rfl) | exact rfl)); (focus (first | (simp only [go_sem, ↓reduceIte, Nat.reduceEqDiff, reduceCtorEq, Nat.reduceLT, Nat.reduceAdd, Int.reduceBEq, Int.reduceBNe, Int.reduceEq, Int.reduceLE, Int.reduceLT, Int.reduceToNat, Nat.reduceLeDiff, Nat.reduceMul, Nat.reduceSub, i1]; exact rfl) | exact rfl)); (focus (first | (simp only [go_sem, ↓reduceIte, Nat.reduceEqDiff, reduceCtorEq, Nat.reduceLT, Nat.reduceAdd, Int.reduceBEq, Int.reduceBNe, Int.reduceEq, Int.reduceLE, Int.reduceLT, Int.reduceToNat, Nat.reduceLeDiff, Nat.reduceMul, Nat.reduceSub, i1]; exact rfl) | exact rfl))) | fail)
    all_goals rfl
set_option maxHeartbeats 4000000 in
set_option maxRecDepth 20000 in
theorem does_bad (n : Int) (a s a2 s2 : List Int) (i w : Int) (h1 : a.length ≤ 100) (h2 : s.length ≤ 100) (h3 : a2.length ≤ 100) (h4 : s2.length ≤ 100) (e : Int) (hT : Fun Try.prog 11 [dv a s, vi i] (.tup [dv [] [], vi e])) (hR : Fun Try.prog 21 [dv a s, vi i] (.tup [dv [] [], vi e])) : Fun Try.prog 6 [vi n, dv a s, dv a2 s2, vi i, vi w] (vb true) := by
  have hc : (decide ((a.length : Int) > 100) || decide ((s.length : Int) > 100) || decide ((a2.length : Int) > 100) || decide ((s2.length : Int) > 100)) = false := by simp only [Bool.or_eq_false_iff, decide_eq_false_iff_not]; omega
  have q1 := new_all n
  have q2 := rnew_all n
  have q3 := spin_fun a s i (by omega) (by omega)
  have q4 := rspin_fun a s i (by omega) (by omega)
  have q5 := found_fun a s i (by omega) (by omega)
  have q6 := rfound_fun a s i (by omega) (by omega)
  have q7 := park_fun a s i (by omega) (by omega)
  have q8 := rpark_fun a s i (by omega) (by omega)
  have q9 := wake_fun a s (by omega) (by omega)
  have q10 := rwake_fun a s (by omega) (by omega)
  have q11 := count_fun a s w (by omega) (by omega)
  have q12 := rcount_fun a s w (by omega) (by omega)
  have q13 := check_fun a s (by omega) (by omega)
  have q14 := rcheck_fun a s (by omega) (by omega)
  have q15 := same_fun a s a2 s2 (by omega) (by omega)
  have q16 := rsame_fun a s a2 s2 (by omega) (by omega)
  have q17 := rsame_fun a s a s (by omega) (by omega)
  have q18 := copy_fun a s (by omega) (by omega)
  have wl : ∀ v, (wo s v).length ≤ 100 := fun v => by have := List.length_filter_le (fun x => !(x == v)) s; simp only [wo]; omega
  have sl : ∀ k (v : Int), (a.set k v).length ≤ 100 := fun k v => by simpa using h1
  have u1 := rsame_fun (nwA n) [] (nwA n) [] (by unfold nwA; split <;> simp; omega) (by decide)
  have u2 := rsame_fun (spA a s i) (spS a s i) (spA a s i) (spS a s i) (by unfold spA; split; split; have := sl i.toNat 1; omega; rw [List.length_set]; have := sl i.toNat 1; omega; simp) (by unfold spS; split; have := wl i; omega; simp)
  have u3 := rsame_fun (foA a s i) (foS a s i) (foA a s i) (foS a s i) (by unfold foA; split; have := sl i.toNat 0; omega; simp) (by unfold foS; split; have := wl i; omega; simp)
  have u4 := rsame_fun [] [] [] [] (by decide) (by decide)
  have u5 := rsame_fun (pkA a s i) (pkS a s i) (pkA a s i) (pkS a s i) (by unfold pkA; split; have := sl i.toNat 3; omega; simp) (by unfold pkS; split; omega; simp)
  have u6 := rsame_fun (wkA a s) (wkS a s) (wkA a s) (wkS a s) (by unfold wkA; split; have := sl (lastI s).toNat 0; omega; simp) (by unfold wkS; split; have := wl (lastI s); omega; simp)
  rw [same_self] at u1 u2 u3 u4 u5 u6 q17
  generalize nwA n = b1 at *
  generalize nwE n = b2 at *
  generalize spB a s i = b3 at *
  generalize spA a s i = b4 at *
  generalize spS a s i = b5 at *
  generalize bcE a s i [0] = b6 at *
  generalize foA a s i = b7 at *
  generalize foS a s i = b8 at *
  generalize foE a s i = b9 at *
  generalize pkA a s i = b10 at *
  generalize pkS a s i = b11 at *
  generalize pkE a s i = b12 at *
  generalize wkI a s = b13 at *
  generalize wkA a s = b14 at *
  generalize wkS a s = b15 at *
  generalize wkE a s = b16 at *
  generalize ctN a s w = b17 at *
  generalize ctE a s w = b18 at *
  generalize chk a s = b19 at *
  generalize (decide (a = a2) && decide (s = s2)) = b20 at *
  clear wl sl
  (refine LCalls.enter Try.func6 rfl (by simp [Try.ntmps6]) (LK.start ?_); simp only [Try.ntmps6, enterA, Nat.zero_add])
  (repeat' first | refine LOps.done ?_ | (apply LOps.mv; (focus (first | exact Goes.free | exact Goes.on rfl rfl (by with_reducible rfl) true (by decide))); (focus (exact rfl)); (focus (exact rfl))) | (apply LOps.asg; (focus (first | exact Goes.free | exact Goes.on rfl rfl (by with_reducible rfl) true (by decide))); (focus (exact rfl)); (focus (exact rfl))) | (apply LOps.loc; (focus (first | exact Goes.free | exact Goes.on rfl rfl (by with_reducible rfl) true (by decide))); (focus (exact rfl)); (focus (exact rfl)); (focus (simp only [go_sem, ↓reduceIte, Nat.reduceEqDiff, reduceCtorEq, Nat.reduceLT, Nat.reduceAdd]; with_reducible rfl))) | (apply LOps.pass; (focus (first | exact Goes.on rfl rfl (by with_reducible rfl) false (by decide) | exact Goes.undef rfl rfl (by with_reducible rfl))); (focus (exact rfl))) | (apply LOps.scEnd; (focus (exact rfl)); (focus (with_reducible rfl))) | refine LK.seq ?_ | refine LK.skip ?_ | (apply LK.condF2; (focus (exact rfl)); (focus (with_reducible rfl)); (focus (first | with_reducible rfl | decide | exact Bool.false_and _ | exact congrArg (fun b => b && _) (Bool.false_and _)))) | refine LK.regc ?_ | (apply LOps.locFn; (focus (first | exact Goes.free | exact Goes.on rfl rfl (by with_reducible rfl) true (by decide))); (focus (exact rfl)); (focus (exact rfl)); (focus (simp only [go_sem]; exact rfl)); (focus (simp only [go_sem])); (focus (exact live_fun)); (focus (first | rfl | simp [go_sem])); (focus (first | rfl | simp [go_sem]))) | (apply LOps.or2; exact rfl; exact rfl; exact rfl; exact rfl; exact rfl; (focus (with_reducible rfl)); (focus (first | kernel_rfl | rfl))) | refine Under.mk (fun hg => ?_) | fail)
  refine LK.condF2 rfl (by first | with_reducible rfl | rfl) (hc) ?_
  (repeat' first | refine LOps.done ?_ | (apply LOps.mv; (focus (first | exact Goes.free | exact Goes.on rfl rfl (by with_reducible rfl) true (by decide))); (focus (exact rfl)); (focus (exact rfl))) | (apply LOps.asg; (focus (first | exact Goes.free | exact Goes.on rfl rfl (by with_reducible rfl) true (by decide))); (focus (exact rfl)); (focus (exact rfl))) | (apply LOps.ext; (focus (first | exact Goes.free | exact Goes.on rfl rfl (by with_reducible rfl) true (by decide))); (focus (exact rfl)); (focus (exact rfl)); (focus (exact rfl))) | (apply LOps.loc; (focus (first | exact Goes.free | exact Goes.on rfl rfl (by with_reducible rfl) true (by decide))); (focus (exact rfl)); (focus (exact rfl)); (focus (simp only [go_sem, ↓reduceIte, Nat.reduceEqDiff, reduceCtorEq, Nat.reduceLT, Nat.reduceAdd, Int.reduceLT, Int.ofNat_zero, Int.reduceLT]; with_reducible rfl))) | (apply LOps.loc0; (focus (first | exact Goes.free | exact Goes.on rfl rfl (by with_reducible rfl) true (by decide))); (focus (exact rfl)); (focus (simp only [go_sem, ↓reduceIte, Nat.reduceEqDiff, reduceCtorEq, Nat.reduceLT, Nat.reduceAdd]; with_reducible rfl))) | refine LK.seq ?_ | refine LK.skip ?_ | refine LK.block ?_ | refine LK.ret' ?_ | refine LK.exit' rfl ?_ | (apply LK.condF2; (focus (exact rfl)); (focus (with_reducible rfl)); (focus (first | with_reducible rfl | decide | exact Bool.false_and _ | exact congrArg (fun b => b && _) (Bool.false_and _)))) | refine LK.regc ?_ | (apply retQ; (focus (first | exact lres_one rfl | exact lres_more rfl | (simp only [lres, lresv, Try.results6, go_sem, ↓reduceIte, Nat.reduceEqDiff, reduceCtorEq, Nat.reduceLT, Nat.reduceAdd, Int.reduceBEq, Int.reduceBNe, Int.reduceEq, Int.reduceLE, Int.reduceLT, Int.reduceToNat, Nat.reduceLeDiff, Nat.reduceMul, Nat.reduceSub, Int.ofNat_zero, wrap_small, Int.reduceAdd, Int.reduceSub, Int.reduceMul, Int.reduceMod, Int.reduceNeg, Int.reduceToNat, Int.reduceLT, Int.reduceLE, Int.reduceGT, Int.reduceGE, Int.zero_add, Int.add_zero, List.replicate_succ, List.replicate_zero, Nat.reduceSub]; exact rfl)))) | (apply LOps.locFn; (focus (first | exact Goes.free | exact Goes.on rfl rfl (by with_reducible rfl) true (by decide))); (focus (exact rfl)); (focus (exact rfl)); (focus (simp only [go_sem, ↓reduceIte, Nat.reduceEqDiff]; exact rfl)); (focus (simp only [go_sem])); (focus (first | exact q13 | exact q14 | exact q15 | exact q16 | exact q17 | exact q18 | exact q1 | exact q2 | exact q3 | exact q4 | exact q5 | exact q6 | exact hT | exact hR | exact q7 | exact q8 | exact q9 | exact q10 | exact q11 | exact q12 | exact u1 | exact u2 | exact u3 | exact u4 | exact u5 | exact u6)); (focus (first | rfl | simp [go_sem])); (focus (first | rfl | simp [go_sem]))) | (apply LK.drawn3; (focus (exact Ty.mixed)); (focus ((repeat' first | exact DRun.nil _ _ _ | (apply DRun.aopS; (focus (exact rfl)); (focus (first | exact rfl | (simp only [oF_idss, oF_ids, idss_MB, idss_MI, objsOf, idsOf, LV.ids, LV.idss, LO.ids, idss_pv, lookB_eq, List.any_nil, List.any_cons, cond_true, cond_false, List.flatten_cons, List.flatten_nil, Nat.reduceBEq, Bool.or_false, Bool.false_or, Bool.or_true, go_sem, ↓reduceIte, Nat.reduceEqDiff, reduceCtorEq, Nat.reduceLT, Nat.reduceAdd, Int.reduceBEq, Int.reduceBNe, Int.reduceEq, Int.reduceLE, Int.reduceLT, Int.reduceToNat, Nat.reduceLeDiff, Nat.reduceMul, Nat.reduceSub, Int.ofNat_zero, wrap_small, Int.reduceAdd, Int.reduceSub, Int.reduceMul, Int.reduceMod, Int.reduceNeg, Int.reduceToNat, Int.reduceLT, Int.reduceLE, Int.reduceGT, Int.reduceGE, Int.zero_add, Int.add_zero, List.replicate_succ, List.replicate_zero, Nat.reduceSub]; exact rfl))); (focus (first | exact Goes.free | exact Goes.on rfl rfl (by with_reducible rfl) true (by decide))); (focus (simp only [go_sem, ↓reduceIte, Nat.reduceEqDiff, reduceCtorEq, Nat.reduceAdd]; exact rfl)); (focus (exact rfl)); (focus (first | decide +kernel | (simp only [evOk, ovOk, nvOk, keepOf, vis, LV.under, LV.idp, LV.idps, LO.under, LO.idp, List.all_cons, List.all_nil, List.any_cons, List.any_nil, Bool.and_true, Bool.or_false, Bool.false_or, decide_true, Nat.reduceLT, Bool.and_self]; done) | (simp [evOk, ovOk, nvOk, keepOf, vis, LV.under, LV.idp, LV.idps, LO.under, LO.idp]; done)))) | (apply DRun.afnS; (focus (exact rfl)); (focus (first | exact Goes.free | exact Goes.on rfl rfl (by with_reducible rfl) true (by decide))); (focus (simp only [go_sem, ↓reduceIte, Nat.reduceEqDiff]; exact rfl)); (focus (simp only [go_sem])); (focus (first | exact q13 | exact q14 | exact q15 | exact q16 | exact q17 | exact q18 | exact q1 | exact q2 | exact q3 | exact q4 | exact q5 | exact q6 | exact hT | exact hR | exact q7 | exact q8 | exact q9 | exact q10 | exact q11 | exact q12 | exact u1 | exact u2 | exact u3 | exact u4 | exact u5 | exact u6)); (focus (first | rfl | simp [go_sem])); (focus (first | rfl | simp [go_sem])); (focus (exact rfl)); (focus (first | decide +kernel | (simp only [evOk, ovOk, nvOk, keepOf, vis, LV.under, LV.unders, LV.idp, LO.under, LO.idp, List.all_cons, List.all_nil, List.any_nil, Bool.and_true, Bool.false_or, Bool.and_self]; done) | (simp [evOk, ovOk, nvOk, keepOf, vis, LV.under, LV.unders, LV.idp, LO.under, LO.idp]; done)))) | fail); done)); (focus kernel_rfl); (focus (first | exact puOk_none rfl | (simp [puOk, evShape, nvShape, look, oF_len, go_sem, ↓reduceIte, Nat.reduceEqDiff, reduceCtorEq, Nat.reduceLT, Nat.reduceAdd, Int.reduceBEq, Int.reduceBNe, Int.reduceEq, Int.reduceLE, Int.reduceLT, Int.reduceToNat, Nat.reduceLeDiff, Nat.reduceMul, Nat.reduceSub, Int.ofNat_zero, wrap_small, Int.reduceAdd, Int.reduceSub, Int.reduceMul, Int.reduceMod, Int.reduceNeg, Int.reduceToNat, Int.reduceLT, Int.reduceLE, Int.reduceGT, Int.reduceGE, Int.zero_add, Int.add_zero, List.replicate_succ, List.replicate_zero, Nat.reduceSub]; done))); (focus (first | (simp only [go_sem, Nat.reduceAdd]; exact rfl) | exact rfl)); (focus (first | (simp only [go_sem, ↓reduceIte, Nat.reduceEqDiff, reduceCtorEq, Nat.reduceLT, Nat.reduceAdd, Int.reduceBEq, Int.reduceBNe, Int.reduceEq, Int.reduceLE, Int.reduceLT, Int.reduceToNat, Nat.reduceLeDiff, Nat.reduceMul, Nat.reduceSub, Int.ofNat_zero, wrap_small, Int.reduceAdd, Int.reduceSub, Int.reduceMul, Int.reduceMod, Int.reduceNeg, Int.reduceToNat, Int.reduceLT, Int.reduceLE, Int.reduceGT, Int.reduceGE, Int.zero_add, Int.add_zero, List.replicate_succ, List.replicate_zero, Nat.reduceSub]; exact rfl) | exact rfl)); (focus (first | (simp only [go_sem, ↓reduceIte, Nat.reduceEqDiff, reduceCtorEq, Nat.reduceLT, Nat.reduceAdd, Int.reduceBEq, Int.reduceBNe, Int.reduceEq, Int.reduceLE, Int.reduceLT, Int.reduceToNat, Nat.reduceLeDiff, Nat.reduceMul, Nat.reduceSub, Int.ofNat_zero, wrap_small, Int.reduceAdd, Int.reduceSub, Int.reduceMul, Int.reduceMod, Int.reduceNeg, Int.reduceToNat, Int.reduceLT, Int.reduceLE, Int.reduceGT, Int.reduceGE, Int.zero_add, Int.add_zero, List.replicate_succ, List.replicate_zero, Nat.reduceSub]; exact rfl) | exact rfl))) | refine LK.rounds 1 ?_ | fail)
  all_goals rfl
theorem does_fun (n : Int) (a s a2 s2 : List Int) (i w : Int) : Fun Try.prog 6 [vi n, dv a s, dv a2 s2, vi i, vi w] (vb true) := by
  by_cases h : 100 < a.length ∨ 100 < s.length ∨ 100 < a2.length ∨ 100 < s2.length
  · exact does_skip n a s a2 s2 i w h
  · have hR := rann_fun a s i (by omega) (by omega)
    by_cases he : anE a s i = 0
    · obtain ⟨ho, k, x, rfl, hx, hm⟩ := bc_inv he
      obtain ⟨m1, m2, S, g1, g2, g3, g4⟩ := become_own a s [0, 1] k a.length 2 x ho rfl hx hm (by decide) (by omega)
      rw [anA, anS, he, if_pos rfl, if_pos rfl, Int.toNat_natCast] at hR
      have hb : bcS s k 2 = s ++ [(k : Int)] := by rw [bcS, if_neg (by omega), if_pos rfl]
      rw [hb] at g3
      exact does_ok n a s a2 s2 k w (by omega) (by omega) (by omega) (by omega) (a.set k 2) S (s ++ [(k : Int)]) a.length m1 m2 (by simp) (by omega) g1 g2 g3 (by simp; omega) (ann_own a s k a.length m1 m2 _ _ _ g4) hR
    · have hT := ann_fun a s i (by omega) (by omega)
      rw [anA, anS, if_neg he, if_neg he] at hT hR
      exact does_bad n a s a2 s2 i w (by omega) (by omega) (by omega) (by omega) _ hT hR
end Go.Proofs.Ytnfmkijakhpgbaa
