/- Chapter 02: the document's numbers as integers: Neg, Add, Mul, Less, told, Sum, Minus, Product. -/
import Derived.Test.YtffchlfnnilbiaaC6
set_option linter.unusedSimpArgs false
set_option linter.unusedVariables false
namespace Go.Proofs.Ytffchlfnnilbiaa
open Go.Lw
attribute [local irreducible] LK LOps LW
abbrev bI (v : Int) : LV := bg (decide (v < 0)) (dg (sizeV v))
theorem bI_pos {v : Int} (h : 0 ≤ v) : bI v = bg false (dg v) := by
  unfold bI sizeV; rw [if_neg (by omega), decide_eq_false (by omega)]
theorem bI_neg {v : Int} (h : v < 0) : bI v = bg true (dg (-v)) := by
  unfold bI sizeV; rw [if_pos h, decide_eq_true h]
theorem size_lt {v : Int} (i : I64 v) : sizeV v < 65536 ^ 4 := by unfold sizeV; split <;> omega
theorem size_abs (v : Int) : (v < 0 ∧ sizeV v = -v) ∨ (0 ≤ v ∧ sizeV v = v) := by unfold sizeV; split <;> omega
theorem rneg_fun (v : Int) (h : sizeV v < 65536 ^ 16) : Fun Try.prog 29 [bI v] (bI (-v)) := by
  have hv := size_abs v
  rcases Int.lt_trichotomy v 0 with c | c | c
  · have := neg_fun true (-v) (by omega) (by omega)
    rw [if_neg (by omega)] at this
    rw [bI_neg c, bI_pos (by omega)]; exact this
  · subst c
    exact neg_fun false 0 (by omega) (by omega)
  · have := neg_fun false v (by omega) (by omega)
    rw [if_neg (by omega)] at this
    rw [bI_pos (by omega), bI_neg (by omega), Int.neg_neg]; exact this
theorem radd_fun (v w : Int) (h : sizeV v + sizeV w < 65536 ^ 16) : Fun Try.prog 27 [bI v, bI w] (bI (v + w)) := by
  have hv := size_abs v
  have hw := size_abs w
  rcases Int.lt_or_le v 0 with cv | cv <;> rcases Int.lt_or_le w 0 with cw | cw
  · have := add_same true (-v) (-w) (by omega) (by omega) (by omega) (by omega) (by omega)
    rw [bI_neg cv, bI_neg cw, bI_neg (by omega), Int.neg_add]; exact this
  · rcases Int.lt_or_le (-v) w with c | c
    · have := add_swap true (-v) w (by omega) (by omega) (by omega) (by omega) c
      rw [bI_neg cv, bI_pos cw, bI_pos (by omega), show v + w = w - -v by omega]; exact this
    · have := add_keep true (-v) w (by omega) (by omega) (by omega) (by omega) c
      rw [bI_neg cv, bI_pos cw]
      by_cases e : v + w = 0
      · rw [bI_pos (by omega), e]
        rw [show (true && -v - w != 0) = false by simp; omega, show -v - w = 0 by omega] at this; exact this
      · rw [bI_neg (by omega)]
        rw [show (true && -v - w != 0) = true by simp; omega, show -v - w = -(v + w) by omega] at this; exact this
  · rcases Int.lt_or_le v (-w) with c | c
    · have := add_swap false v (-w) (by omega) (by omega) (by omega) (by omega) c
      rw [show (!false && -w - v != 0) = true by simp; omega] at this
      rw [bI_pos cv, bI_neg cw, bI_neg (by omega), show -(v + w) = -w - v by omega]; exact this
    · have := add_keep false v (-w) (by omega) (by omega) (by omega) (by omega) c
      rw [bI_pos cv, bI_neg cw, bI_pos (by omega), show v + w = v - -w by omega]; exact this
  · have := add_same false v w (by omega) (by omega) (by omega) (by omega) (by omega)
    rw [bI_pos cv, bI_pos cw, bI_pos (by omega)]; exact this
theorem neg_key1 {p : Int} (h : ¬ p = 0) : (!(true == false) && -p != 0) = true := by simp; omega
theorem neg_key2 {p : Int} (h : ¬ p = 0) : (!(false == true) && -p != 0) = true := by simp; omega
theorem rmulI_fun (v w : Int) (h1 : sizeV v < 65536 ^ 8) (h2 : sizeV w < 65536 ^ 8) : Fun Try.prog 30 [bI v, bI w] (bI (v * w)) := by
  have hv := size_abs v
  have hw := size_abs w
  rcases Int.lt_or_le v 0 with cv | cv <;> rcases Int.lt_or_le w 0 with cw | cw
  · have := rmul_fun true true (-v) (-w) (by omega) (by omega) (by omega) (by omega)
    rw [Int.neg_mul_neg] at this
    rw [bI_neg cv, bI_neg cw, bI_pos (Int.le_of_lt (Int.mul_pos_of_neg_of_neg cv cw))]; exact this
  · have := rmul_fun true false (-v) w (by omega) (by omega) (by omega) (by omega)
    rw [Int.neg_mul] at this
    have h0 := this
    rw [bI_neg cv, bI_pos cw]
    by_cases e : v * w = 0
    · rw [e] at this ⊢; exact this
    · have : v * w ≤ 0 := Int.mul_nonpos_of_nonpos_of_nonneg (Int.le_of_lt cv) cw
      rw [neg_key1 e] at h0
      rw [bI_neg (by omega)]; exact h0
  · have := rmul_fun false true v (-w) (by omega) (by omega) (by omega) (by omega)
    rw [Int.mul_neg] at this
    have h0 := this
    rw [bI_pos cv, bI_neg cw]
    by_cases e : v * w = 0
    · rw [e] at this ⊢; exact this
    · have : v * w ≤ 0 := Int.mul_nonpos_of_nonneg_of_nonpos cv (Int.le_of_lt cw)
      rw [neg_key2 e] at h0
      rw [bI_neg (by omega)]; exact h0
  · have := rmul_fun false false v w (by omega) (by omega) (by omega) (by omega)
    rw [bI_pos cv, bI_pos cw, bI_pos (Int.mul_nonneg cv cw)]; exact this
theorem rof_fun (a : Int) (ia : I64 a) : Fun Try.prog 28 [vi a] (bI a) := of_fun a ia
theorem rint_ok (v : Int) (i : I64 v) : Fun Try.prog 37 [bI v] (.tup [vi v, vb true]) := by
  have h := size_lt i
  rcases Int.lt_or_le v 0 with c | c
  · rw [bI_neg c]
    refine int_small true (-v) (by omega) (by omega) v true (fun _ => ⟨?_, by simp; omega⟩) (fun e => by cases e)
    simp only [IntKind.wrap_i64]; omega
  · rw [bI_pos c]
    refine int_small false v (by omega) (by omega) v true (fun e => by cases e) (fun _ => ⟨?_, by simp; omega⟩)
    simp only [IntKind.wrap_i64]; omega
theorem rint_no (v : Int) (i : ¬ I64 v) (h : sizeV v < 65536 ^ 16) : ∃ x, Fun Try.prog 37 [bI v] (.tup [vi x, vb false]) := by
  rcases Int.lt_or_le v 0 with c | c
  · rw [bI_neg c]
    have hs : sizeV v = -v := if_pos c
    rcases Int.lt_or_le (-v) (65536 ^ 4) with g | g
    · exact ⟨_, int_small true (-v) (by omega) g _ false (fun _ => ⟨rfl, by simp; omega⟩) (fun e => by cases e)⟩
    · exact ⟨_, int_big true (-v) g (by omega)⟩
  · rw [bI_pos c]
    have hs : sizeV v = v := if_neg (by omega)
    rcases Int.lt_or_le v (65536 ^ 4) with g | g
    · exact ⟨_, int_small false v (by omega) g _ false (fun e => by cases e) (fun _ => ⟨rfl, by simp; omega⟩)⟩
    · exact ⟨_, int_big false v g (by omega)⟩
def toldR (v : Int) : Int × Int := if I64 v then (v, 0) else (0, 4)
set_option maxHeartbeats 4000000 in
set_option maxRecDepth 20000 in
theorem told_fun (v : Int) (h : sizeV v < 65536 ^ 16) : Fun Try.prog 26 [bI v] (.tup [vi (toldR v).1, vi (toldR v).2]) := by
  have hl := Lf_all_leaf (dg (sizeV v))
  simp only [go_sem] at hl
  have hn := Lf_mlen (dg (sizeV v))
  have ht := Lf_take (dg (sizeV v))
  by_cases i : I64 v
  · have hi := rint_ok v i
    rw [show toldR v = (v, 0) from if_pos i]
    (refine LCalls.enter Try.func26 rfl (by simp [Try.ntmps26]) (LK.start ?_); simp only [Try.ntmps26, enterA])
    (repeat' first | refine LOps.done ?_ | (apply LOps.mv; (focus (first | exact Goes.free | exact Goes.on rfl rfl (by with_reducible rfl) true (by decide))); (focus (exact rfl)); (focus (exact rfl))) | (apply LOps.asg; (focus (first | exact Goes.free | exact Goes.on rfl rfl (by with_reducible rfl) true (by decide))); (focus (exact rfl)); (focus (exact rfl))) | (apply LOps.ext; (focus (first | exact Goes.free | exact Goes.on rfl rfl (by with_reducible rfl) true (by decide))); (focus (exact rfl)); (focus (exact rfl)); (focus (exact rfl))) | (apply LOps.loc; (focus (first | exact Goes.free | exact Goes.on rfl rfl (by with_reducible rfl) true (by decide))); (focus (exact rfl)); (focus (exact rfl)); (focus (simp only [go_sem, ↓reduceIte, reduceCtorEq, Nat.reduceLT, Nat.reduceAdd, hl, hn, ht]; with_reducible rfl))) | refine LK.seq ?_ | refine LK.skip ?_ | refine LK.ret' ?_ | (apply LK.condF2; (focus (exact rfl)); (focus (with_reducible rfl)); (focus (first | with_reducible rfl | decide | (with_reducible exact Bool.false_and _) | (with_reducible exact congrArg (fun b => b && _) (Bool.false_and _))))) | refine LK.regc ?_ | (apply retQ; (focus (first | exact lres_one rfl | exact lres_more rfl | (simp only [lres, lresv, Try.results26, go_sem, ↓reduceIte, Nat.reduceEqDiff, reduceCtorEq, Nat.reduceLT, Nat.reduceAdd, Int.reduceBEq, Int.reduceBNe, Int.reduceEq, Int.reduceLE, Int.reduceLT, Int.reduceToNat, Nat.reduceLeDiff, Nat.reduceMul, Nat.reduceSub, hl, hn, ht]; exact rfl)))) | (apply LOps.locFn; (focus (first | exact Goes.free | exact Goes.on rfl rfl (by with_reducible rfl) true (by decide))); (focus (exact rfl)); (focus (exact rfl)); (focus (simp only [go_sem, ↓reduceIte]; exact rfl)); (focus (simp only [go_sem])); (focus (exact hi)); (focus (first | rfl | simp [go_sem])); (focus (first | rfl | simp [go_sem]))) | fail)
    all_goals rfl
  · obtain ⟨x, hi⟩ := rint_no v i h
    rw [show toldR v = (0, 4) from if_neg i]
    (refine LCalls.enter Try.func26 rfl (by simp [Try.ntmps26]) (LK.start ?_); simp only [Try.ntmps26, enterA])
    (repeat' first | refine LOps.done ?_ | (apply LOps.mv; (focus (first | exact Goes.free | exact Goes.on rfl rfl (by with_reducible rfl) true (by decide))); (focus (exact rfl)); (focus (exact rfl))) | (apply LOps.asg; (focus (first | exact Goes.free | exact Goes.on rfl rfl (by with_reducible rfl) true (by decide))); (focus (exact rfl)); (focus (exact rfl))) | (apply LOps.ext; (focus (first | exact Goes.free | exact Goes.on rfl rfl (by with_reducible rfl) true (by decide))); (focus (exact rfl)); (focus (exact rfl)); (focus (exact rfl))) | (apply LOps.loc; (focus (first | exact Goes.free | exact Goes.on rfl rfl (by with_reducible rfl) true (by decide))); (focus (exact rfl)); (focus (exact rfl)); (focus (simp only [go_sem, ↓reduceIte, reduceCtorEq, Nat.reduceLT, Nat.reduceAdd, hl, hn, ht]; with_reducible rfl))) | refine LK.seq ?_ | refine LK.ret' ?_ | (apply LK.condT2; (focus (exact rfl)); (focus (with_reducible rfl)); (focus (first | with_reducible rfl | decide | (with_reducible exact Bool.true_or _) | (with_reducible exact congrArg (fun b => b || _) (Bool.true_or _))))) | refine LK.regc ?_ | (apply retQ; (focus (first | exact lres_one rfl | exact lres_more rfl | (simp only [lres, lresv, Try.results26, go_sem, ↓reduceIte, Nat.reduceEqDiff, reduceCtorEq, Nat.reduceLT, Nat.reduceAdd, Int.reduceBEq, Int.reduceBNe, Int.reduceEq, Int.reduceLE, Int.reduceLT, Int.reduceToNat, Nat.reduceLeDiff, Nat.reduceMul, Nat.reduceSub, hl, hn, ht]; exact rfl)))) | (apply LOps.locFn; (focus (first | exact Goes.free | exact Goes.on rfl rfl (by with_reducible rfl) true (by decide))); (focus (exact rfl)); (focus (exact rfl)); (focus (simp only [go_sem, ↓reduceIte]; exact rfl)); (focus (simp only [go_sem])); (focus (exact hi)); (focus (first | rfl | simp [go_sem])); (focus (first | rfl | simp [go_sem]))) | fail)
    all_goals rfl
set_option maxHeartbeats 4000000 in
set_option maxRecDepth 20000 in
theorem less_fun (v w : Int) (h : sizeV v + sizeV w < 65536 ^ 16) : Fun Try.prog 32 [bI v, bI w] (vb (decide (v < w))) := by
  have hl := Lf_all_leaf (dg (sizeV v))
  have hl2 := Lf_all_leaf (dg (sizeV w))
  have hl3 := Lf_all_leaf (dg (sizeV (v + -w)))
  simp only [go_sem] at hl hl2 hl3
  have hn := Lf_mlen (dg (sizeV v))
  have ht := Lf_take (dg (sizeV v))
  have hn2 := Lf_mlen (dg (sizeV w))
  have ht2 := Lf_take (dg (sizeV w))
  have hn3 := Lf_mlen (dg (sizeV (v + -w)))
  have ht3 := Lf_take (dg (sizeV (v + -w)))
  have hv := size_abs v
  have hw := size_abs w
  have hw2 := size_abs (-w)
  have e : decide (v < w) = decide (v + -w < 0) := decide_eq_decide.2 (by omega)
  have h1 := rneg_fun w (by omega)
  have h2 := radd_fun v (-w) (by omega)
  rw [e]
  (refine LCalls.enter Try.func32 rfl (by simp [Try.ntmps32]) (LK.start ?_); simp only [Try.ntmps32, enterA, Nat.zero_add])
  (repeat' first | refine LOps.done ?_ | (apply LOps.asg; (focus (first | exact Goes.free | exact Goes.on rfl rfl (by with_reducible rfl) true (by decide))); (focus (exact rfl)); (focus (exact rfl))) | (apply LOps.loc; (focus (first | exact Goes.free | exact Goes.on rfl rfl (by with_reducible rfl) true (by decide))); (focus (exact rfl)); (focus (exact rfl)); (focus (simp only [go_sem, ↓reduceIte, Nat.reduceEqDiff, reduceCtorEq, Nat.reduceLT, Nat.reduceAdd, hl, hn, hl2, hn2]; with_reducible rfl))) | refine LK.seq ?_ | refine LK.ret' ?_ | refine LK.regc ?_ | (apply retQ; (focus (first | exact lres_one rfl | exact lres_more rfl | (simp only [lres, lresv, Try.results32, go_sem, ↓reduceIte, Nat.reduceEqDiff, reduceCtorEq, Nat.reduceLT, Nat.reduceAdd, Int.reduceBEq, Int.reduceBNe, Int.reduceEq, Int.reduceLE, Int.reduceLT, Int.reduceToNat, Nat.reduceLeDiff, Nat.reduceMul, Nat.reduceSub, hl, hn, ht, hl2, hn2, ht2, hl3, hn3, ht3]; exact rfl)))) | (apply LK.drawn3; (focus (exact Ty.mixed)); (focus ((repeat' first | exact DRun.nil _ _ _ | (apply DRun.aopS; (focus (exact rfl)); (focus (first | exact rfl | (simp only [oF_idss, oF_ids, idss_MB, idss_MI, objsOf, idsOf, LV.ids, LV.idss, LO.ids, idss_pv, lookB_eq, List.any_nil, List.any_cons, cond_true, cond_false, List.flatten_cons, List.flatten_nil, Nat.reduceBEq, Bool.or_false, Bool.false_or, Bool.or_true, go_sem, ↓reduceIte, Nat.reduceEqDiff, reduceCtorEq, Nat.reduceLT, Nat.reduceAdd, Int.reduceBEq, Int.reduceBNe, Int.reduceEq, Int.reduceLE, Int.reduceLT, Int.reduceToNat, Nat.reduceLeDiff, Nat.reduceMul, Nat.reduceSub, hl, hn, ht, hl2, hn2, ht2, hl3, hn3, ht3]; exact rfl))); (focus (first | exact Goes.free | exact Goes.on rfl rfl (by with_reducible rfl) true (by decide))); (focus (simp only [go_sem, ↓reduceIte, reduceCtorEq, Nat.reduceLT, Nat.reduceAdd, hn, ht, hn2, ht2]; exact rfl)); (focus (exact rfl)); (focus (first | decide +kernel | (simp only [evOk, ovOk, nvOk, keepOf, vis, LV.under, LV.idp, LV.idps, LO.under, LO.idp, List.all_cons, List.all_nil, List.any_cons, List.any_nil, Bool.and_true, Bool.true_and, Bool.or_false, decide_true, Nat.reduceLT, Bool.and_self]; done) | (simp [evOk, ovOk, nvOk, keepOf, vis, LV.under, LV.idp, LV.idps, LO.under, LO.idp]; done) | exact rfl))) | (apply DRun.awrS; (focus (exact rfl)); (focus (first | exact rfl | (simp only [oF_idss, oF_ids, idss_MB, idss_MI, objsOf, idsOf, LV.ids, LV.idss, LO.ids, idss_pv, lookB_eq, List.any_nil, List.any_cons, cond_true, cond_false, List.flatten_cons, List.flatten_nil, Nat.reduceBEq, Bool.or_false, Bool.false_or, Bool.or_true, go_sem, ↓reduceIte, Nat.reduceEqDiff, reduceCtorEq, Nat.reduceLT, Nat.reduceAdd, Int.reduceBEq, Int.reduceBNe, Int.reduceEq, Int.reduceLE, Int.reduceLT, Int.reduceToNat, Nat.reduceLeDiff, Nat.reduceMul, Nat.reduceSub, hl, hn, ht, hl2, hn2, ht2, hl3, hn3, ht3]; exact rfl))); (focus (first | exact Goes.free | exact Goes.on rfl rfl (by with_reducible rfl) true (by decide))); (focus (simp only [go_sem, ↓reduceIte, reduceCtorEq, Nat.reduceLT, Nat.reduceAdd]; exact rfl)); (focus (exact rfl)); (focus (first | (simp only [go_sem]; exact rfl) | exact rfl)); (focus (first | decide +kernel | (simp only [MB_all_under, MI_all_under, MB_all_idp, MI_all_idp, oF_under, oF_idp, oF_all_under, oF_all_idp, MB_under, MI_under, MB_idp, MI_idp, evOk, ovOk, nvOk, keepOf, vis, LV.under, LV.unders, LV.idp, LV.idps, LO.under, LO.idp, under_pv, idp_pv, List.all_cons, List.all_nil, List.any_cons, List.any_nil, Nat.reduceBEq, beq_self_eq_true, Bool.and_true, Bool.true_and, Bool.or_true, Bool.true_or, Bool.or_false, Bool.false_or, decide_true, decide_false, Nat.reduceLT, Nat.reduceLeDiff, Nat.le_refl, Nat.reduceAdd, Bool.and_self, Bool.or_self]; done) | (simp [MB_all_under, MI_all_under, MB_all_idp, MI_all_idp, oF_under, oF_idp, oF_all_under, oF_all_idp, MB_under, MI_under, MB_idp, MI_idp, evOk, ovOk, nvOk, keepOf, vis, LV.under, LV.unders, LV.idp, LV.idps, LO.under, LO.idp, under_pv, idp_pv]; done) | exact rfl)); (focus (first | (simp only [go_sem, ↓reduceIte, Nat.reduceEqDiff, reduceCtorEq]; exact rfl) | exact rfl))) | (apply DRun.awr0; (focus (exact rfl)); (focus (first | exact rfl | (simp only [oF_idss, oF_ids, idss_MB, idss_MI, objsOf, idsOf, LV.ids, LV.idss, LO.ids, idss_pv, lookB_eq, List.any_nil, List.any_cons, cond_true, cond_false, List.flatten_cons, List.flatten_nil, Nat.reduceBEq, Bool.or_false, Bool.false_or, Bool.or_true, go_sem, ↓reduceIte, Nat.reduceEqDiff, reduceCtorEq, Nat.reduceLT, Nat.reduceAdd, Int.reduceBEq, Int.reduceBNe, Int.reduceEq, Int.reduceLE, Int.reduceLT, Int.reduceToNat, Nat.reduceLeDiff, Nat.reduceMul, Nat.reduceSub, hl, hn, ht, hl2, hn2, ht2, hl3, hn3, ht3]; exact rfl))); (focus (first | exact Goes.free | exact Goes.on rfl rfl (by with_reducible rfl) true (by decide))); (focus (simp only [go_sem, ↓reduceIte, Nat.reduceEqDiff, Nat.reduceLT, Nat.reduceAdd, hl3, hn3]; exact rfl)); (focus (first | (simp only [go_sem, ↓reduceIte]; exact rfl) | exact rfl)); (focus (first | decide +kernel | (simp only [evOk, ovOk, nvOk, keepOf, vis, LV.under, LV.unders, LV.idp, LO.under, LO.idp, List.all_cons, List.all_nil, List.any_cons, List.any_nil, beq_self_eq_true, Bool.and_true, Bool.true_and, Bool.or_false, decide_true, decide_false, Nat.reduceLT, Nat.reduceLeDiff, Bool.and_self]; done) | (simp [evOk, ovOk, nvOk, keepOf, vis, LV.under, LV.unders, LV.idp, LO.under, LO.idp]; done) | exact rfl)); (focus (first | (simp only [go_sem, ↓reduceIte, Nat.reduceEqDiff, reduceCtorEq]; exact rfl) | exact rfl))) | (apply DRun.afnS; (focus (exact rfl)); (focus (first | exact Goes.free | exact Goes.on rfl rfl (by with_reducible rfl) true (by decide))); (focus (simp only [go_sem, ↓reduceIte, Nat.reduceEqDiff]; exact rfl)); (focus (simp only [go_sem])); (focus (first | exact h1 | exact h2)); (focus (first | rfl | simp [go_sem])); (focus (first | rfl | simp [go_sem])); (focus (exact rfl)); (focus (first | decide +kernel | (simp only [evOk, ovOk, nvOk, keepOf, vis, LV.under, LV.unders, LV.idp, LV.idps, LO.under, LO.idp, List.all_cons, List.all_nil, List.any_nil, Bool.and_true, Bool.true_and, Bool.false_or]; done) | (simp [evOk, ovOk, nvOk, keepOf, vis, LV.under, LV.unders, LV.idp, LV.idps, LO.under, LO.idp]; done) | exact rfl))) | fail); done)); (focus kernel_rfl); (focus (first | exact puOk_none rfl | (simp [puOk, evShape, nvShape, look, oF_len, go_sem, ↓reduceIte, Nat.reduceEqDiff, reduceCtorEq, Nat.reduceLT, Nat.reduceAdd, Int.reduceBEq, Int.reduceBNe, Int.reduceEq, Int.reduceLE, Int.reduceLT, Int.reduceToNat, Nat.reduceLeDiff, Nat.reduceMul, Nat.reduceSub, hl, hn, ht, hl2, hn2, ht2, hl3, hn3, ht3]; done))); (focus (first | (simp only [go_sem, ↓reduceIte, Nat.reduceEqDiff, reduceCtorEq, Nat.reduceLT, Nat.reduceAdd, Int.reduceBEq, Int.reduceBNe, Int.reduceEq, Int.reduceLE, Int.reduceLT, Int.reduceToNat, Nat.reduceLeDiff, Nat.reduceMul, Nat.reduceSub, hl, hn, ht, hl2, hn2, ht2, hl3, hn3, ht3]; exact rfl) | exact rfl)); (focus (first | (simp only [go_sem, ↓reduceIte, Nat.reduceEqDiff, reduceCtorEq, Nat.reduceLT, Nat.reduceAdd, Int.reduceBEq, Int.reduceBNe, Int.reduceEq, Int.reduceLE, Int.reduceLT, Int.reduceToNat, Nat.reduceLeDiff, Nat.reduceMul, Nat.reduceSub, hl, hn, ht, hl2, hn2, ht2, hl3, hn3, ht3]; exact rfl) | exact rfl)); (focus (first | (simp only [go_sem, ↓reduceIte, Nat.reduceEqDiff, reduceCtorEq, Nat.reduceLT, Nat.reduceAdd, Int.reduceBEq, Int.reduceBNe, Int.reduceEq, Int.reduceLE, Int.reduceLT, Int.reduceToNat, Nat.reduceLeDiff, Nat.reduceMul, Nat.reduceSub, hl, hn, ht, hl2, hn2, ht2, hl3, hn3, ht3]; exact rfl) | exact rfl))) | fail)
  all_goals rfl
end Go.Proofs.Ytffchlfnnilbiaa
