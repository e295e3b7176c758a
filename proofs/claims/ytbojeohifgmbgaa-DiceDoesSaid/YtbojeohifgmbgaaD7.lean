/- The walks of chapter 03: what a draw, an order, and one of weights answer, told as wholes; the chapter's example. -/
import Derived.Test.YtbojeohifgmbgaaD6
set_option linter.unusedSimpArgs false
set_option linter.unusedVariables false
namespace Go.Proofs.Ytbojeohifgmbgaa
open Go.Lw
attribute [local irreducible] LK LOps LW
theorem chk_nat {l : List Int} {a : Int} (h : chk l a = 0) : ∃ k : Nat, a = (k : Int) ∧ k ≤ l.length := by
  unfold chk at h
  split at h
  · cases h
  · rename_i hn
    exact ⟨a.toNat, by omega, by omega⟩
theorem chk_of {l : List Int} {k : Nat} (h : k ≤ l.length) : chk l (k : Int) = 0 := by rw [chk, if_neg (by omega)]
/-- A number drawn. -/
def bOk (l : List Int) (a m : Int) : Bool := chk l a == 0 && decide (1 ≤ m) && decide (m ≤ 65536)
def bN (l : List Int) (a m : Int) : Int := if bOk l a m then draw l a.toNat m else 0
def bL (l : List Int) (a m : Int) : List Int := if bOk l a m then l else []
def bA (l : List Int) (a m : Int) : Int := if bOk l a m then (drawN l a.toNat : Nat) else 0
def bE (l : List Int) (a m : Int) : Int := if bOk l a m then 0 else 1
theorem below_fun (l : List Int) (a m : Int) (hb : octB l) (hl : l.length ≤ 100000) : Fun Try.prog 14 [dv l a, vi m] (.tup [vi (bN l a m), dv (bL l a m) (bA l a m), vi (bE l a m)]) := by
  by_cases h : bOk l a m = true
  · have h2 := h
    simp only [bOk, Bool.and_eq_true, beq_iff_eq, decide_eq_true_eq] at h2
    obtain ⟨k, rfl, hk⟩ := chk_nat h2.1.1
    simp only [bN, bL, bA, bE, h, if_true, Int.toNat_natCast]
    exact below_ok l k m hk h2.1.2 h2.2 hb hl
  · simp only [bN, bL, bA, bE, h]
    refine below_bad l a m ?_
    simp only [bOk, Bool.and_eq_true, beq_iff_eq, decide_eq_true_eq] at h
    by_cases h1 : chk l a = 0
    · by_cases h2 : 1 ≤ m
      · by_cases h3 : m ≤ 65536
        · exact absurd ⟨⟨h1, h2⟩, h3⟩ h
        · exact .inr (.inr (by omega))
      · exact .inr (.inl (by omega))
    · exact .inl h1
/-- An order drawn. -/
def oOk (l : List Int) (a n : Int) : Bool := chk l a == 0 && decide (0 ≤ n) && decide (n ≤ 256)
def oV (l : List Int) (a n : Int) : List Int := if oOk l a n then orderL l a.toNat n.toNat else []
def oL (l : List Int) (a n : Int) : List Int := if oOk l a n then l else []
def oA (l : List Int) (a n : Int) : Int := if oOk l a n then (orderN l a.toNat n.toNat : Nat) else 0
def oE (l : List Int) (a n : Int) : Int := if oOk l a n then 0 else 1
theorem order_fun (l : List Int) (a n : Int) (hb : octB l) (hl : l.length ≤ 100000) : Fun Try.prog 12 [dv l a, vi n] (.tup [sI (oV l a n), dv (oL l a n) (oA l a n), vi (oE l a n)]) := by
  by_cases h : oOk l a n = true
  · have h2 := h
    simp only [oOk, Bool.and_eq_true, beq_iff_eq, decide_eq_true_eq] at h2
    obtain ⟨k, rfl, hk⟩ := chk_nat h2.1.1
    obtain ⟨j, rfl⟩ := Int.eq_ofNat_of_zero_le h2.1.2
    simp only [oV, oL, oA, oE, h, if_true, Int.toNat_natCast]
    exact order_ok l k j hk hb hl (by have := h2.2; omega)
  · simp only [oV, oL, oA, oE, h]
    refine order_bad l a n ?_
    simp only [oOk, Bool.and_eq_true, beq_iff_eq, decide_eq_true_eq] at h
    by_cases h1 : chk l a = 0
    · by_cases h2 : 0 ≤ n
      · by_cases h3 : n ≤ 256
        · exact absurd ⟨⟨h1, h2⟩, h3⟩ h
        · exact .inr (.inr (by omega))
      · exact .inr (.inl (by omega))
    · exact .inl h1
/-- One of weights. -/
def pick : List Int → Int → Nat
  | [], _ => 0
  | x :: r, m => if m < x then 0 else pick r (m - x) + 1
theorem sumTo_cons (x : Int) (w : List Int) (k : Nat) : sumTo (x :: w) (k + 1) = x + sumTo w k := by simp [sumTo]
theorem pick_spec : ∀ (w : List Int) (m : Int), 0 ≤ m → m < sumTo w w.length → ∃ y, w[pick w m]? = some y ∧ m < sumTo w (pick w m + 1) ∧ sumTo w (pick w m) ≤ m
  | [], m, h0, h => by simp [sumTo] at h; omega
  | x :: w, m, h0, h => by
    rw [List.length_cons, sumTo_cons] at h
    by_cases hx : m < x
    · rw [pick, if_pos hx]
      exact ⟨x, rfl, by rw [sumTo_cons, sumTo_zero]; omega, h0⟩
    · obtain ⟨y, h1, h2, h3⟩ := pick_spec w (m - x) (by omega) (by omega)
      rw [pick, if_neg hx]
      exact ⟨y, by simpa using h1, by rw [sumTo_cons]; omega, by rw [sumTo_cons]; omega⟩
def hBad (l w : List Int) (a : Int) : Bool := chk l a != 0 || decide (256 < w.length) || w.any odd
def hE (l w : List Int) (a : Int) : Int := if hBad l w a then 1 else if 65536 < sumTo w w.length then 4 else if sumTo w w.length = 0 then 5 else 0
def hN (l w : List Int) (a : Int) : Int := if hE l w a = 0 then (pick w (draw l a.toNat (sumTo w w.length)) : Nat) else 0
def hL (l w : List Int) (a : Int) : List Int := if hE l w a = 0 then l else []
def hA (l w : List Int) (a : Int) : Int := if hE l w a = 0 then (drawN l a.toNat : Nat) else 0
theorem heavy_fun (l w : List Int) (a : Int) (hb : octB l) (hl : l.length ≤ 100000) (hw : w.length ≤ 100000) : Fun Try.prog 10 [dv l a, sI w] (.tup [vi (hN l w a), dv (hL l w a) (hA l w a), vi (hE l w a)]) := by
  by_cases h : hBad l w a = true
  · have e : hE l w a = 1 := by rw [hE, if_pos h]
    have e2 : ¬ ((1 : Int) = 0) := by omega
    simp only [hN, hL, hA, e, if_neg e2]
    refine heavy_bad l w a hw ?_
    simp only [hBad, Bool.or_eq_true, bne_iff_ne, ne_eq, decide_eq_true_eq] at h
    rcases h with (h | h) | h
    · exact .inl h
    · exact .inr (.inl h)
    · exact .inr (.inr h)
  · have h' := h
    simp only [hBad, Bool.or_eq_true, bne_iff_ne, ne_eq, decide_eq_true_eq, not_or, Classical.not_not] at h'
    obtain ⟨⟨h1, h2⟩, h3⟩ := h'
    obtain ⟨k, rfl, hk⟩ := chk_nat h1
    have hok : okW l w k := ⟨hk, hb, hl, by omega, fun x hx => by
      cases ho : odd x with
      | false => rfl
      | true => exact absurd (List.any_eq_true.2 ⟨x, hx, ho⟩) h3⟩
    by_cases hs : 65536 < sumTo w w.length
    · have e : hE l w (k : Int) = 4 := by rw [hE, if_neg h, if_pos hs]
      have e2 : ¬ ((4 : Int) = 0) := by omega
      simp only [hN, hL, hA, e, if_neg e2]
      exact heavy_large l w k hok hs
    · by_cases hz : sumTo w w.length = 0
      · have e : hE l w (k : Int) = 5 := by rw [hE, if_neg h, if_neg hs, if_pos hz]
        have e2 : ¬ ((5 : Int) = 0) := by omega
        simp only [hN, hL, hA, e, if_neg e2]
        exact heavy_none l w k hok hz
      · have e : hE l w (k : Int) = 0 := by rw [hE, if_neg h, if_neg hs, if_neg hz]
        simp only [hN, hL, hA, e, if_true, Int.toNat_natCast]
        have hpos := (sumTo_bound hok.odd w.length).1
        have hd := draw_lt hb k (show 1 ≤ sumTo w w.length by omega)
        obtain ⟨y, p1, p2, p3⟩ := pick_spec w _ hd.1 hd.2
        exact heavy_ok l w k hok _ y (by omega) (by omega) p1 p2 p3
set_option maxHeartbeats 4000000 in
set_option maxRecDepth 10000 in
theorem live_fun : Fun Try.prog 9 [] (vb true) := by
  have h1 := below_fun [0, 7] 0 10 (by intro x hx; simp at hx; omega) (by decide)
  have h2 := heavy_fun [0, 2] [2, 0, 3] 0 (by intro x hx; simp at hx; omega) (by decide) (by decide)
  rw [show bN [0, 7] 0 10 = 7 by decide, show bE [0, 7] 0 10 = 0 by decide] at h1
  rw [show hN [0, 2] [2, 0, 3] 0 = 2 by decide, show hE [0, 2] [2, 0, 3] 0 = 0 by decide] at h2
  (refine LCalls.enter Try.func9 rfl (by simp [Try.ntmps9]) (LK.start ?_); simp only [Try.ntmps9, enterA])
  (repeat' first | refine LOps.done ?_ | (apply LOps.mv; (focus (first | exact Goes.free | exact Goes.on rfl rfl (by with_reducible rfl) true (by decide))); (focus (exact rfl)); (focus (exact rfl))) | (apply LOps.asg; (focus (first | exact Goes.free | exact Goes.on rfl rfl (by with_reducible rfl) true (by decide))); (focus (exact rfl)); (focus (exact rfl))) | (apply LOps.ext; (focus (first | exact Goes.free | exact Goes.on rfl rfl (by with_reducible rfl) true (by decide))); (focus (exact rfl)); (focus (exact rfl)); (focus (exact rfl))) | (apply LOps.loc; (focus (first | exact Goes.free | exact Goes.on rfl rfl (by with_reducible rfl) true (by decide))); (focus (exact rfl)); (focus (exact rfl)); (focus (simp only [go_sem, ↓reduceIte, Nat.reduceEqDiff, reduceCtorEq, Nat.reduceLT, Nat.reduceAdd, Nat.reduceLeDiff]; with_reducible rfl))) | (apply LOps.loc0; (focus (first | exact Goes.free | exact Goes.on rfl rfl (by with_reducible rfl) true (by decide))); (focus (exact rfl)); (focus (simp only [go_sem, ↓reduceIte, Nat.reduceEqDiff, Nat.reduceLT, Nat.reduceAdd]; with_reducible rfl))) | refine LK.seq ?_ | refine LK.ret' ?_ | refine LK.regc ?_ | (apply retQ; (focus (first | exact lres_one rfl | exact lres_more rfl | (simp only [lres, lresv, Try.results9, go_sem, ↓reduceIte, Nat.reduceEqDiff, reduceCtorEq, Nat.reduceLT, Nat.reduceAdd, Int.reduceBEq, Int.reduceBNe, Int.reduceEq, Int.reduceLE, Int.reduceLT, Int.reduceToNat, Nat.reduceLeDiff, Nat.reduceMul, Nat.reduceSub]; exact rfl)))) | ((apply LOps.thaw; (focus (exact rfl)); (focus (exact rfl)); (focus (exact rfl)); (focus (exact rfl)); (focus (simp only [go_sem, ↓reduceIte, Nat.reduceEqDiff, Nat.reduceAdd]; exact rfl)); (focus (simp only [go_sem, ↓reduceIte, Nat.reduceEqDiff]; exact rfl))); (apply LOps.locFn; (focus (first | exact Goes.free | exact Goes.on rfl rfl (by with_reducible rfl) true (by decide))); (focus (exact rfl)); (focus (exact rfl)); (focus (simp only [go_sem, ↓reduceIte, Nat.reduceEqDiff]; exact rfl)); (focus (simp only [go_sem])); (focus (first | exact h1 | exact h2)); (focus (first | rfl | simp [go_sem])); (focus (first | rfl | simp [go_sem])))) | ((apply LOps.thaw; (focus (exact rfl)); (focus (exact rfl)); (focus (exact rfl)); (focus (exact rfl)); (focus (simp only [go_sem, ↓reduceIte, Nat.reduceEqDiff, Nat.reduceAdd]; exact rfl)); (focus (simp only [go_sem, ↓reduceIte, Nat.reduceEqDiff]; exact rfl))); (apply LOps.thaw; (focus (exact rfl)); (focus (exact rfl)); (focus (exact rfl)); (focus (exact rfl)); (focus (simp only [go_sem, ↓reduceIte, Nat.reduceEqDiff, Nat.reduceAdd]; exact rfl)); (focus (simp only [go_sem, ↓reduceIte, Nat.reduceEqDiff]; exact rfl))); (apply LOps.locFn; (focus (first | exact Goes.free | exact Goes.on rfl rfl (by with_reducible rfl) true (by decide))); (focus (exact rfl)); (focus (exact rfl)); (focus (simp only [go_sem, ↓reduceIte, Nat.reduceEqDiff]; exact rfl)); (focus (simp only [go_sem])); (focus (first | exact h1 | exact h2)); (focus (first | rfl | simp [go_sem])); (focus (first | rfl | simp [go_sem])))) | fail)
  all_goals rfl

set_option maxHeartbeats 4000000 in
set_option maxRecDepth 10000 in
theorem same_fun (p q : List Int) (hp : p.length ≤ 100000) : Fun Try.prog 11 [sI p, sI q] (vb (p == q)) := by
  (refine LCalls.enter Try.func11 rfl (by simp [Try.ntmps11]) (LK.start ?_); simp only [Try.ntmps11, enterA, Nat.zero_add])
  (repeat' first | refine LOps.done ?_ | (apply LOps.mv; (focus (first | exact Goes.free | exact Goes.on rfl rfl (by with_reducible rfl) true (by decide))); (focus (exact rfl)); (focus (exact rfl))) | (apply LOps.loc; (focus (first | exact Goes.free | exact Goes.on rfl rfl (by with_reducible rfl) true (by decide))); (focus (exact rfl)); (focus (exact rfl)); (focus (simp only [go_sem, ↓reduceIte, Nat.reduceEqDiff]; with_reducible rfl))) | refine LK.seq ?_ | refine LK.regc ?_ | fail)
  by_cases hlen : p.length = q.length
  · have hc : ((p.length : Int) != (q.length : Int)) = false := by rw [hlen]; simp
    refine LK.condF2 rfl (by with_reducible rfl) hc ?_
    (repeat' first | refine LOps.done ?_ | (apply LOps.mv; (focus (first | exact Goes.free | exact Goes.on rfl rfl (by with_reducible rfl) true (by decide))); (focus (exact rfl)); (focus (exact rfl))) | (apply LOps.loc; (focus (first | exact Goes.free | exact Goes.on rfl rfl (by with_reducible rfl) true (by decide))); (focus (exact rfl)); (focus (exact rfl)); (focus (simp only [go_sem, ↓reduceIte]; with_reducible rfl))) | refine LK.seq ?_ | refine LK.skip ?_ | refine LK.block ?_ | refine LK.regc ?_ | fail)
    refine LK.loop (fun k : Nat => p.length - k) (fun k => k ≤ p.length ∧ p.take k = q.take k) (fun k => ⟨26, [(0, sI p), (1, sI q), (12, vi p.length), (13, vi k)]⟩) (fun _ => []) 0 ⟨Nat.zero_le _, rfl⟩ (Sub.by rfl rfl rfl) ?_
    rintro k ⟨hk, hsame⟩ J hJ
    rcases Nat.lt_or_ge k p.length with hlt | hge
    · obtain ⟨x, hx⟩ := idx_all hlt
      obtain ⟨y, hy⟩ := idx_all (show k < q.length by omega)
      have h1 : ((k : Int) < (p.length : Int)) := by omega
      have h2 : ((k : Int) < (q.length : Int)) := by omega
      have hw := wrapn (n := k) (by omega)
      (repeat' first | refine LOps.done ?_ | (apply LOps.mv; (focus (first | exact Goes.free | exact Goes.on rfl rfl (by with_reducible rfl) true (by decide))); (focus (exact rfl)); (focus (exact rfl))) | (apply LOps.asg; (focus (first | exact Goes.free | exact Goes.on rfl rfl (by with_reducible rfl) true (by decide))); (focus (exact rfl)); (focus (exact rfl))) | (apply LOps.loc; (focus (first | exact Goes.free | exact Goes.on rfl rfl (by with_reducible rfl) true (by decide))); (focus (exact rfl)); (focus (exact rfl)); (focus (simp only [go_sem, ↓reduceIte, Nat.reduceEqDiff, h1]; with_reducible rfl))) | refine LK.seq ?_ | refine LK.skip ?_ | refine LK.block ?_ | (apply LK.condT2; (focus (exact rfl)); (focus (with_reducible rfl)); (focus (first | with_reducible rfl | decide | exact Bool.true_or _ | exact congrArg (fun b => b || _) (Bool.true_or _)))) | refine LK.regc ?_ | (apply LK.drawn3; (focus (exact Ty.mixed)); (focus ((repeat' first | exact DRun.nil _ _ _ | (apply DRun.aopS; (focus (exact rfl)); (focus (first | exact rfl | (simp only [oF_idss, oF_ids, idss_MB, idss_MI, objsOf, idsOf, LV.ids, LV.idss, LO.ids, idss_pv, lookB_eq, List.any_nil, List.any_cons, cond_true, cond_false, List.flatten_cons, List.flatten_nil, Nat.reduceBEq, Bool.or_false, Bool.false_or, Bool.or_true, go_sem, ↓reduceIte, Nat.reduceEqDiff, reduceCtorEq, Nat.reduceLT, Nat.reduceAdd, Int.reduceBEq, Int.reduceBNe, Int.reduceEq, Int.reduceLE, Int.reduceLT, Int.reduceToNat, Nat.reduceLeDiff, Nat.reduceMul, Nat.reduceSub, h1, h2, hx, hy, hw]; exact rfl))); (focus (first | exact Goes.free | exact Goes.on rfl rfl (by with_reducible rfl) true (by decide))); (focus (simp only [go_sem, ↓reduceIte, Nat.reduceEqDiff, Nat.reduceLT, h1, h2, hx, hy]; exact rfl)); (focus (exact rfl)); (focus (first | decide +kernel | (simp only [evOk, ovOk, nvOk, keepOf, vis, LV.under, LV.idp, LO.under, LO.idp, List.all_cons, List.all_nil, List.any_nil, Bool.and_true, Bool.false_or, Bool.and_self]; done) | (simp [evOk, ovOk, nvOk, keepOf, vis, LV.under, LV.idp, LO.under, LO.idp]; done)))) | fail); done)); (focus kernel_rfl); (focus (first | exact puOk_none rfl | (simp [puOk, evShape, nvShape, look, oF_len, go_sem, ↓reduceIte, Nat.reduceEqDiff, reduceCtorEq, Nat.reduceLT, Nat.reduceAdd, Int.reduceBEq, Int.reduceBNe, Int.reduceEq, Int.reduceLE, Int.reduceLT, Int.reduceToNat, Nat.reduceLeDiff, Nat.reduceMul, Nat.reduceSub, h1, h2, hx, hy, hw]; done))); (focus (first | (simp only [go_sem, ↓reduceIte, Nat.reduceEqDiff, reduceCtorEq, Nat.reduceLT, Nat.reduceAdd, Int.reduceBEq, Int.reduceBNe, Int.reduceEq, Int.reduceLE, Int.reduceLT, Int.reduceToNat, Nat.reduceLeDiff, Nat.reduceMul, Nat.reduceSub, h1, h2, hx, hy, hw]; exact rfl) | exact rfl)); (focus (first | (simp only [go_sem, ↓reduceIte, Nat.reduceEqDiff, reduceCtorEq, Nat.reduceLT, Nat.reduceAdd, Int.reduceBEq, Int.reduceBNe, Int.reduceEq, Int.reduceLE, Int.reduceLT, Int.reduceToNat, Nat.reduceLeDiff, Nat.reduceMul, Nat.reduceSub, h1, h2, hx, hy, hw]; exact rfl) | exact rfl)); (focus (first | (simp only [go_sem, ↓reduceIte, Nat.reduceEqDiff, reduceCtorEq, Nat.reduceLT, Nat.reduceAdd, Int.reduceBEq, Int.reduceBNe, Int.reduceEq, Int.reduceLE, Int.reduceLT, Int.reduceToNat, Nat.reduceLeDiff, Nat.reduceMul, Nat.reduceSub, h1, h2, hx, hy, hw]; exact rfl) | exact rfl))) | fail)
      by_cases e : x = y
      · have hc : (x != y) = false := by simpa using e
        refine LK.condF2 rfl (by with_reducible rfl) hc ?_
        (repeat' first | refine LOps.done ?_ | (apply LOps.mv; (focus (first | exact Goes.free | exact Goes.on rfl rfl (by with_reducible rfl) true (by decide))); (focus (exact rfl)); (focus (exact rfl))) | (apply LOps.loc; (focus (first | exact Goes.free | exact Goes.on rfl rfl (by with_reducible rfl) true (by decide))); (focus (exact rfl)); (focus (exact rfl)); (focus (simp only [go_sem, ↓reduceIte, hw]; with_reducible rfl))) | refine LK.skip ?_ | refine LK.blk ?_ | refine LK.fin ?_ | refine LK.regc ?_ | fail)
        apply hJ
        exact ⟨k + 1, ⟨hlt, by rw [List.take_add_one, List.take_add_one, hsame, hx, hy, e]⟩, by omega, Sub.by rfl rfl rfl⟩
      · have hc : (x != y) = true := by simpa using e
        refine LK.condT2 rfl (by with_reducible rfl) hc ?_
        (repeat' first | refine LOps.done ?_ | (apply LOps.loc; (focus (first | exact Goes.free | exact Goes.on rfl rfl (by with_reducible rfl) true (by decide))); (focus (exact rfl)); (focus (exact rfl)); (focus (simp only [go_sem]; with_reducible rfl))) | refine LK.seq ?_ | refine LK.ret' ?_ | refine LK.regc ?_ | (apply retQ; (focus (first | exact lres_one rfl | exact lres_more rfl | (simp only [lres, lresv, Try.results11, go_sem, ↓reduceIte, Nat.reduceEqDiff, reduceCtorEq, Nat.reduceLT, Nat.reduceAdd, Int.reduceBEq, Int.reduceBNe, Int.reduceEq, Int.reduceLE, Int.reduceLT, Int.reduceToNat, Nat.reduceLeDiff, Nat.reduceMul, Nat.reduceSub, h1, h2, hx, hy, hw]; exact rfl)))) | fail)
        have : (p == q) = false := by
          rw [beq_eq_false_iff_ne]
          rintro rfl
          rw [hx] at hy; exact e (Option.some.inj hy)
        rw [this]
    · have h1 : ¬ ((k : Int) < (p.length : Int)) := by omega
      (repeat' first | refine LOps.done ?_ | (apply LOps.loc; (focus (first | exact Goes.free | exact Goes.on rfl rfl (by with_reducible rfl) true (by decide))); (focus (exact rfl)); (focus (exact rfl)); (focus (simp only [go_sem, ↓reduceIte, Nat.reduceEqDiff, h1]; with_reducible rfl))) | refine LK.seq ?_ | refine LK.ret' ?_ | refine LK.exit' rfl ?_ | (apply LK.condF2; (focus (exact rfl)); (focus (with_reducible rfl)); (focus (first | with_reducible rfl | decide | exact Bool.false_and _ | exact congrArg (fun b => b && _) (Bool.false_and _)))) | refine LK.regc ?_ | (apply retQ; (focus (first | exact lres_one rfl | exact lres_more rfl | (simp only [lres, lresv, Try.results11, go_sem, ↓reduceIte, Nat.reduceEqDiff, reduceCtorEq, Nat.reduceLT, Nat.reduceAdd, Int.reduceBEq, Int.reduceBNe, Int.reduceEq, Int.reduceLE, Int.reduceLT, Int.reduceToNat, Nat.reduceLeDiff, Nat.reduceMul, Nat.reduceSub, h1]; exact rfl)))) | fail)
      have : p = q := by
        rw [List.take_of_length_le hge, List.take_of_length_le (by omega)] at hsame
        exact hsame
      subst this
      simp
  · have hc : ((p.length : Int) != (q.length : Int)) = true := by rw [bne_iff_ne]; omega
    refine LK.condT2 rfl (by with_reducible rfl) hc ?_
    (repeat' first | refine LOps.done ?_ | (apply LOps.loc; (focus (first | exact Goes.free | exact Goes.on rfl rfl (by with_reducible rfl) true (by decide))); (focus (exact rfl)); (focus (exact rfl)); (focus (simp only [go_sem]; with_reducible rfl))) | refine LK.seq ?_ | refine LK.ret' ?_ | refine LK.regc ?_ | (apply retQ; (focus (first | exact lres_one rfl | exact lres_more rfl | (simp only [lres, lresv, Try.results11, go_sem, ↓reduceIte, Nat.reduceEqDiff, reduceCtorEq, Nat.reduceLT, Nat.reduceAdd, Int.reduceBEq, Int.reduceBNe, Int.reduceEq, Int.reduceLE, Int.reduceLT, Int.reduceToNat, Nat.reduceLeDiff, Nat.reduceMul, Nat.reduceSub]; exact rfl)))) | fail)
    have : (p == q) = false := by rw [beq_eq_false_iff_ne]; rintro rfl; exact hlen rfl
    rw [this]
end Go.Proofs.Ytbojeohifgmbgaa
