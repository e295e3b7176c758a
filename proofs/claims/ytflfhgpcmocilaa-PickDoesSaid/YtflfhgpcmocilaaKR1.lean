/- The walks of chapter 16 (as in chapter 03): the document's answer, Check, Same, Draw, Below. -/
import Derived.Test.YtflfhgpcmocilaaK18
set_option linter.unusedSimpArgs false
set_option linter.unusedVariables false
namespace Go.Proofs.Ytflfhgpcmocilaa
open Go.Lw
attribute [local irreducible] LK LOps LW
attribute [local go_sem] unB_obytes
/-- A number drawn. -/
def bOk (l : List Int) (a m : Int) : Bool := chk l a == 0 && decide (1 ≤ m) && decide (m ≤ 65536)
def bN (l : List Int) (a m : Int) : Int := if bOk l a m then draw l a.toNat m else 0
def bL (l : List Int) (a m : Int) : List Int := if bOk l a m then l else []
def bA (l : List Int) (a m : Int) : Int := if bOk l a m then (drawN l a.toNat : Nat) else 0
def bE (l : List Int) (a m : Int) : Int := if bOk l a m then 0 else 1
/-- An order drawn. -/
def oOk (l : List Int) (a n : Int) : Bool := chk l a == 0 && decide (0 ≤ n) && decide (n ≤ 256)
def oV (l : List Int) (a n : Int) : List Int := if oOk l a n then orderL l a.toNat n.toNat else []
def oL (l : List Int) (a n : Int) : List Int := if oOk l a n then l else []
def oA (l : List Int) (a n : Int) : Int := if oOk l a n then (orderN l a.toNat n.toNat : Nat) else 0
def oE (l : List Int) (a n : Int) : Int := if oOk l a n then 0 else 1
set_option maxHeartbeats 4000000 in
set_option maxRecDepth 10000 in
theorem rcheck_fun (l : List Int) (a : Int) : Fun Try.prog 30 [dv l a] (vi (chk l a)) := by
  (refine LCalls.enter Try.func30 rfl (by simp [Try.ntmps30]) (LK.start ?_); simp only [Try.ntmps30, enterA])
  (repeat' first | refine LOps.done ?_ | (apply LOps.mv; (focus (first | exact Goes.free | exact Goes.on rfl rfl (by with_reducible rfl) true (by decide))); (focus (exact rfl)); (focus (exact rfl))) | (apply LOps.loc; (focus (first | exact Goes.free | exact Goes.on rfl rfl (by with_reducible rfl) true (by decide))); (focus (exact rfl)); (focus (exact rfl)); (focus (simp only [go_sem, ↓reduceIte, Nat.reduceEqDiff, Nat.reduceLT, Nat.reduceAdd]; with_reducible rfl))) | (apply LOps.pass; (focus (first | exact Goes.on rfl rfl (by with_reducible rfl) false (by decide) | exact Goes.undef rfl rfl (by with_reducible rfl))); (focus (exact rfl))) | (apply LOps.scEnd; (focus (exact rfl)); (focus (with_reducible rfl))) | refine LK.seq ?_ | refine LK.skip ?_ | refine LK.ret' ?_ | (apply LK.cond2; (focus (exact rfl)); (focus (with_reducible rfl)); all_goals (refine ⟨fun hb => ?_⟩)) | refine LK.regc ?_ | (apply retQ; (focus (first | exact lres_one rfl | exact lres_more rfl | (simp only [lres, lresv, Try.results30, go_sem, ↓reduceIte, Nat.reduceEqDiff, reduceCtorEq, Nat.reduceLT, Nat.reduceAdd, Int.reduceBEq, Int.reduceBNe, Int.reduceEq, Int.reduceLE, Int.reduceLT, Int.reduceToNat, Nat.reduceLeDiff, Nat.reduceMul, Nat.reduceSub]; exact rfl)))) | (apply LOps.or2; exact rfl; exact rfl; exact rfl; exact rfl; exact rfl; (focus (with_reducible rfl)); (focus (first | kernel_rfl | rfl))) | refine Under.mk (fun hg => ?_) | fail)
  · rw [chk, if_pos (by simpa using hb)]
  · rw [chk, if_neg (by simpa using hb)]
/-- What has been drawn behind so many octets. -/
def dN (l : List Int) (a : Nat) : Nat → Int × Nat
  | 0 => (0, a)
  | k + 1 => (256 * (dN l a k).1 + oct l (dN l a k).2, octN l (dN l a k).2)
theorem dN_at {l : List Int} {a : Nat} (h : a ≤ l.length) : ∀ k, (dN l a k).2 ≤ l.length
  | 0 => h
  | k + 1 => octN_le (dN_at h k)
theorem dN_lt {l : List Int} (hb : octB l) (a : Nat) : ∀ k, k ≤ 2 → 0 ≤ (dN l a k).1 ∧ (dN l a k).1 ≤ 65535
  | 0, _ => by simp [dN]
  | 1, _ => by have := oct_lt hb a; simp [dN]; omega
  | 2, _ => by have := oct_lt hb a; have := oct_lt hb (octN l a); simp [dN]; omega
theorem dN_le {l : List Int} (hb : octB l) (a : Nat) : ∀ k, k < 2 → 0 ≤ (dN l a k).1 ∧ (dN l a k).1 ≤ 255
  | 0, _ => by simp [dN]
  | 1, _ => by have := oct_lt hb a; simp [dN]; omega
def raw (l : List Int) (a : Nat) : Int := oct l a * 256 + oct l (octN l a)
theorem dN_two (l : List Int) (a : Nat) : dN l a 2 = (raw l a, drawN l a) := by simp [dN, raw, drawN, Int.mul_comm]
set_option maxHeartbeats 4000000 in
set_option maxRecDepth 10000 in
theorem rdraw_fun (l : List Int) (a : Nat) (ha : a ≤ l.length) (hb : octB l) (hl : l.length ≤ 100000) : Fun Try.prog 48 [dv l a] (.tup [vi (raw l a), dv l (drawN l a : Nat)]) := by
  have hm : l.length ≤ maxLen ∧ l.length ≤ 140737488355328 := by simp only [maxLen]; omega
  refine Fun.frozenLe ?_
  (refine LCalls.enter Try.func48 rfl (by simp [Try.ntmps48]) (LK.start ?_); simp only [Try.ntmps48, enterA])
  (repeat' first | refine LOps.done ?_ | (apply LOps.asg; (focus (first | exact Goes.free | exact Goes.on rfl rfl (by with_reducible rfl) true (by decide))); (focus (exact rfl)); (focus (exact rfl))) | (apply LOps.loc; (focus (first | exact Goes.free | exact Goes.on rfl rfl (by with_reducible rfl) true (by decide))); (focus (exact rfl)); (focus (exact rfl)); (focus (simp only [go_sem, ↓reduceIte, reduceCtorEq, Nat.reduceLT, Nat.reduceAdd]; with_reducible rfl))) | refine LK.seq ?_ | refine LK.block ?_ | refine LK.regc ?_ | fail)
  refine LK.loop (fun k : Nat => 2 - k) (fun k => k ≤ 2) (fun k => ⟨34, [(1, .ptr 0 1 0 0), (3, .ptr 1 1 0 0), (4, vi (dN l a k).1), (5, vi ((dN l a k).2 : Nat)), (8, vi k)]⟩) (fun _ => [(0, .arr 2 [[sU l, vi a]]), (1, .arr 2 [[nil0, vi 0]])]) 0 (by omega) (Sub.by rfl rfl rfl) ?_
  intro k hk J hJ
  have hat := dN_at ha k
  rcases Nat.lt_or_ge k 2 with hlt | hge
  · have hn := dN_le hb a k hlt
    have hn2 := dN_lt hb a (k + 1) (by omega)
    have i1 : ((k : Int) < 2) := by omega
    have hw := wrapn (n := k) (by omega)
    have w1 : IntKind.i64.wrap (256 * (dN l a k).1) = 256 * (dN l a k).1 := by rw [IntKind.wrap_i64]; omega
    rcases Nat.lt_or_ge (dN l a k).2 l.length with hlt2 | hge2
    · obtain ⟨x, hx⟩ := idx_all hlt2
      have hxb := hb x (List.mem_of_getElem? hx)
      have e1 : dN l a (k + 1) = (256 * (dN l a k).1 + x, (dN l a k).2 + 1) := by
        have o1 : oct l (dN l a k).2 = x := by rw [oct, hx]; rfl
        have o2 : octN l (dN l a k).2 = (dN l a k).2 + 1 := by rw [octN, if_pos hlt2]
        rw [dN, o1, o2]
      have c1 : (((dN l a k).2 : Nat) : Int) < (l.length : Int) := by omega
      have w2 : IntKind.i64.wrap x = x := by rw [IntKind.wrap_i64]; omega
      have w3 : IntKind.i64.wrap (256 * (dN l a k).1 + x) = 256 * (dN l a k).1 + x := by rw [IntKind.wrap_i64]; omega
      have w4 := wrapn (n := (dN l a k).2) (by omega)
      (repeat' first | refine LOps.done ?_ | (apply LOps.mv; (focus (first | exact Goes.free | exact Goes.on rfl rfl (by with_reducible rfl) true (by decide))); (focus (exact rfl)); (focus (exact rfl))) | (apply LOps.asg; (focus (first | exact Goes.free | exact Goes.on rfl rfl (by with_reducible rfl) true (by decide))); (focus (exact rfl)); (focus (exact rfl))) | (apply LOps.loc; (focus (first | exact Goes.free | exact Goes.on rfl rfl (by with_reducible rfl) true (by decide))); (focus (exact rfl)); (focus (exact rfl)); (focus (simp only [go_sem, ↓reduceIte, Nat.reduceEqDiff, Nat.reduceLT, i1, hw, w1, w2, w3, w4, c1, hx]; with_reducible rfl))) | refine LK.seq ?_ | refine LK.skip ?_ | refine LK.block ?_ | refine LK.blk ?_ | refine LK.fin ?_ | (apply LK.condT2; (focus (exact rfl)); (focus (with_reducible rfl)); (focus (first | with_reducible rfl | decide | (with_reducible exact Bool.true_or _) | (with_reducible exact congrArg (fun b => b || _) (Bool.true_or _))))) | refine LK.regc ?_ | fail)
      apply hJ
      refine ⟨k + 1, hlt, by omega, ?_⟩
      dsimp only
      rw [e1]
      exact Sub.by rfl rfl rfl
    · have he : (dN l a k).2 = l.length := by omega
      have e1 : dN l a (k + 1) = (256 * (dN l a k).1, (dN l a k).2) := by simp [dN, oct, octN, he]
      have c1 : ¬ ((((dN l a k).2 : Nat) : Int) < (l.length : Int)) := by omega
      (repeat' first | refine LOps.done ?_ | (apply LOps.mv; (focus (first | exact Goes.free | exact Goes.on rfl rfl (by with_reducible rfl) true (by decide))); (focus (exact rfl)); (focus (exact rfl))) | (apply LOps.asg; (focus (first | exact Goes.free | exact Goes.on rfl rfl (by with_reducible rfl) true (by decide))); (focus (exact rfl)); (focus (exact rfl))) | (apply LOps.loc; (focus (first | exact Goes.free | exact Goes.on rfl rfl (by with_reducible rfl) true (by decide))); (focus (exact rfl)); (focus (exact rfl)); (focus (simp only [go_sem, ↓reduceIte, Nat.reduceEqDiff, Nat.reduceLT, i1, hw, w1, c1]; with_reducible rfl))) | refine LK.seq ?_ | refine LK.skip ?_ | refine LK.block ?_ | refine LK.blk ?_ | refine LK.fin ?_ | (apply LK.condT2; (focus (exact rfl)); (focus (with_reducible rfl)); (focus (first | with_reducible rfl | decide | (with_reducible exact Bool.true_or _) | (with_reducible exact congrArg (fun b => b || _) (Bool.true_or _))))) | (apply LK.condF2; (focus (exact rfl)); (focus (with_reducible rfl)); (focus (first | with_reducible rfl | decide | (with_reducible exact Bool.false_and _) | (with_reducible exact congrArg (fun b => b && _) (Bool.false_and _))))) | refine LK.regc ?_ | fail)
      apply hJ
      refine ⟨k + 1, hlt, by omega, ?_⟩
      dsimp only
      rw [e1]
      exact Sub.by rfl rfl rfl
  · obtain rfl : k = 2 := by omega
    have i1 : ¬ (((2 : Nat) : Int) < 2) := by omega
    rw [dN_two]
    (repeat' first | refine LOps.done ?_ | (apply LOps.mv; (focus (first | exact Goes.free | exact Goes.on rfl rfl (by with_reducible rfl) true (by decide))); (focus (exact rfl)); (focus (exact rfl))) | (apply LOps.asg; (focus (first | exact Goes.free | exact Goes.on rfl rfl (by with_reducible rfl) true (by decide))); (focus (exact rfl)); (focus (exact rfl))) | (apply LOps.loc; (focus (first | exact Goes.free | exact Goes.on rfl rfl (by with_reducible rfl) true (by decide))); (focus (exact rfl)); (focus (exact rfl)); (focus (simp only [go_sem, ↓reduceIte, Nat.reduceEqDiff, reduceCtorEq, Nat.reduceLT, Nat.reduceAdd, Nat.reduceLeDiff, i1, hm]; with_reducible rfl))) | (apply LOps.loc0; (focus (first | exact Goes.free | exact Goes.on rfl rfl (by with_reducible rfl) true (by decide))); (focus (exact rfl)); (focus (simp only [go_sem, ↓reduceIte, Nat.reduceEqDiff, reduceCtorEq, Nat.reduceLT, Nat.reduceAdd]; with_reducible rfl))) | refine LK.seq ?_ | refine LK.ret' ?_ | refine LK.exit' rfl ?_ | (apply LK.condF2; (focus (exact rfl)); (focus (with_reducible rfl)); (focus (first | with_reducible rfl | decide | (with_reducible exact Bool.false_and _) | (with_reducible exact congrArg (fun b => b && _) (Bool.false_and _))))) | refine LK.regc ?_ | (apply retQ; (focus (first | exact lres_one rfl | exact lres_more rfl | (simp only [lres, lresv, Try.results48, go_sem, ↓reduceIte, Nat.reduceEqDiff, reduceCtorEq, Nat.reduceAdd]; exact rfl)))) | fail)
    (simp only [go_sem, ↓reduceIte, Nat.reduceEqDiff, reduceCtorEq]; repeat' first | exact LV.le_refl _ | exact LV.le_nil _ | exact le_nilF _ _ | exact LV.le_any _ _ _ | refine LV.le_tup ?_ | refine LV.le_agg ?_ | exact LV.les_nil | refine LV.les_cons ?_ ?_)
set_option maxHeartbeats 4000000 in
set_option maxRecDepth 10000 in
theorem rbelow_fun (l : List Int) (a m : Int) (hb : octB l) (hl : l.length ≤ 100000) : Fun Try.prog 40 [dv l a, vi m] (.tup [vi (bN l a m), dv (bL l a m) (bA l a m), vi (bE l a m)]) := by
  have hck := rcheck_fun l a
  by_cases h : bOk l a m = true
  · have h2 := h
    simp only [bOk, Bool.and_eq_true, beq_iff_eq, decide_eq_true_eq] at h2
    obtain ⟨k, rfl, hk⟩ := chk_nat h2.1.1
    simp only [bN, bL, bA, bE, h, if_true, Int.toNat_natCast]
    have hd := rdraw_fun l k hk hb hl
    have hc : (decide (m < 1) || decide (m > 65536)) = false := by simp only [Bool.or_eq_false_iff, decide_eq_false_iff_not]; omega
    have hm := tm_ne h2.1.2
    have hdr : draw l k m = (raw l k).tmod m := rfl
    rw [h2.1.1] at hck
    rw [hdr]
    refine Fun.frozenLe ?_
    (refine LCalls.enter Try.func40 rfl (by simp [Try.ntmps40]) (LK.start ?_); simp only [Try.ntmps40, enterA, Nat.zero_add])
    (repeat' first | refine LOps.done ?_ | (apply LOps.mv; (focus (first | exact Goes.free | exact Goes.on rfl rfl (by with_reducible rfl) true (by decide))); (focus (exact rfl)); (focus (exact rfl))) | (apply LOps.loc; (focus (first | exact Goes.free | exact Goes.on rfl rfl (by with_reducible rfl) true (by decide))); (focus (exact rfl)); (focus (exact rfl)); (focus (simp only [go_sem, ↓reduceIte, Nat.reduceEqDiff, reduceCtorEq, Nat.reduceLT, Nat.reduceAdd, Int.reduceBNe]; with_reducible rfl))) | (apply LOps.pass; (focus (first | exact Goes.on rfl rfl (by with_reducible rfl) false (by decide) | exact Goes.undef rfl rfl (by with_reducible rfl))); (focus (exact rfl))) | (apply LOps.scEnd; (focus (exact rfl)); (focus (with_reducible rfl))) | refine LK.seq ?_ | refine LK.regc ?_ | (apply LOps.locFn; (focus (first | exact Goes.free | exact Goes.on rfl rfl (by with_reducible rfl) true (by decide))); (focus (exact rfl)); (focus (exact rfl)); (focus (simp only [go_sem, ↓reduceIte]; exact rfl)); (focus (simp only [go_sem])); (focus (exact hck)); (focus (first | rfl | simp [go_sem])); (focus (first | rfl | simp [go_sem]))) | (apply LOps.or2; exact rfl; exact rfl; exact rfl; exact rfl; exact rfl; (focus (with_reducible rfl)); (focus (first | kernel_rfl | rfl))) | refine Under.mk (fun hg => ?_) | fail)
    refine LK.condF2 rfl (by first | with_reducible rfl | rfl) (hc) ?_
    (repeat' first | refine LOps.done ?_ | (apply LOps.mv; (focus (first | exact Goes.free | exact Goes.on rfl rfl (by with_reducible rfl) true (by decide))); (focus (exact rfl)); (focus (exact rfl))) | (apply LOps.asg; (focus (first | exact Goes.free | exact Goes.on rfl rfl (by with_reducible rfl) true (by decide))); (focus (exact rfl)); (focus (exact rfl))) | (apply LOps.ext; (focus (first | exact Goes.free | exact Goes.on rfl rfl (by with_reducible rfl) true (by decide))); (focus (exact rfl)); (focus (exact rfl)); (focus (exact rfl))) | (apply LOps.loc; (focus (first | exact Goes.free | exact Goes.on rfl rfl (by with_reducible rfl) true (by decide))); (focus (exact rfl)); (focus (exact rfl)); (focus (simp only [go_sem, ↓reduceIte, Nat.reduceEqDiff, reduceCtorEq, Nat.reduceLT, Nat.reduceAdd]; with_reducible rfl))) | (apply LOps.loc0; (focus (first | exact Goes.free | exact Goes.on rfl rfl (by with_reducible rfl) true (by decide))); (focus (exact rfl)); (focus (simp only [go_sem, ↓reduceIte, Nat.reduceEqDiff, reduceCtorEq, Nat.reduceLT, Nat.reduceAdd]; with_reducible rfl))) | refine LK.seq ?_ | refine LK.skip ?_ | refine LK.ret' ?_ | refine LK.regc ?_ | (apply retQ; (focus (first | exact lres_one rfl | exact lres_more rfl | (simp only [lres, lresv, Try.results40, go_sem, ↓reduceIte, Nat.reduceEqDiff, reduceCtorEq, Nat.reduceAdd]; exact rfl)))) | (apply LOps.locFn; (focus (first | exact Goes.free | exact Goes.on rfl rfl (by with_reducible rfl) true (by decide))); (focus (exact rfl)); (focus (exact rfl)); (focus (simp only [go_sem, ↓reduceIte]; exact rfl)); (focus (simp only [go_sem])); (focus (exact hd)); (focus (first | rfl | simp [go_sem])); (focus (first | rfl | simp [go_sem]))) | (apply LK.drawn3; (focus (exact Ty.mixed)); (focus ((repeat' first | exact DRun.nil _ _ _ | (apply DRun.aopS; (focus (exact rfl)); (focus (first | exact rfl | (simp only [oF_idss, oF_ids, idss_MB, idss_MI, objsOf, idsOf, LV.ids, LV.idss, LO.ids, idss_pv, lookB_eq, List.any_nil, List.any_cons, cond_true, cond_false, List.flatten_cons, List.flatten_nil, Nat.reduceBEq, Bool.or_false, Bool.false_or, Bool.or_true, go_sem, ↓reduceIte, Nat.reduceEqDiff, reduceCtorEq, Nat.reduceLT, Nat.reduceAdd, Int.reduceBEq, Int.reduceBNe, Int.reduceEq, Int.reduceLE, Int.reduceLT, Int.reduceToNat, Nat.reduceLeDiff, Nat.reduceMul, Nat.reduceSub, hm]; exact rfl))); (focus (first | exact Goes.free | exact Goes.on rfl rfl (by with_reducible rfl) true (by decide))); (focus (simp only [go_sem, ↓reduceIte, Nat.reduceEqDiff, Nat.reduceAdd, hm]; exact rfl)); (focus (exact rfl)); (focus (first | decide +kernel | (simp only [evOk, ovOk, nvOk, keepOf, vis, LV.under, LV.idp, LV.idps, LO.under, LO.idp, List.all_cons, List.all_nil, List.any_cons, List.any_nil, Bool.and_true, Bool.or_false, Bool.false_or, decide_true, Nat.reduceLT, Bool.and_self]; done) | (simp [evOk, ovOk, nvOk, keepOf, vis, LV.under, LV.idp, LV.idps, LO.under, LO.idp]; done)))) | (apply DRun.awr0; (focus (exact rfl)); (focus (first | exact rfl | (simp only [oF_idss, oF_ids, idss_MB, idss_MI, objsOf, idsOf, LV.ids, LV.idss, LO.ids, idss_pv, lookB_eq, List.any_nil, List.any_cons, cond_true, cond_false, List.flatten_cons, List.flatten_nil, Nat.reduceBEq, Bool.or_false, Bool.false_or, Bool.or_true, go_sem, ↓reduceIte, Nat.reduceEqDiff, reduceCtorEq, Nat.reduceLT, Nat.reduceAdd, Int.reduceBEq, Int.reduceBNe, Int.reduceEq, Int.reduceLE, Int.reduceLT, Int.reduceToNat, Nat.reduceLeDiff, Nat.reduceMul, Nat.reduceSub, hm]; exact rfl))); (focus (first | exact Goes.free | exact Goes.on rfl rfl (by with_reducible rfl) true (by decide))); (focus (simp only [go_sem, ↓reduceIte, Nat.reduceEqDiff, Nat.reduceLT, Nat.reduceAdd]; exact rfl)); (focus (first | (simp only [go_sem, ↓reduceIte]; exact rfl) | exact rfl)); (focus (first | decide +kernel | (simp only [evOk, ovOk, nvOk, keepOf, vis, LV.under, LV.unders, LV.idp, LO.under, LO.idp, List.all_cons, List.all_nil, List.any_cons, List.any_nil, beq_self_eq_true, Bool.and_true, Bool.or_false, decide_true, decide_false, Nat.reduceLT, Nat.reduceLeDiff, Bool.and_self]; done) | (simp [evOk, ovOk, nvOk, keepOf, vis, LV.under, LV.unders, LV.idp, LO.under, LO.idp]; done))); (focus (first | (simp only [go_sem, ↓reduceIte, reduceCtorEq]; exact rfl) | exact rfl))) | fail); done)); (focus kernel_rfl); (focus (first | exact puOk_none rfl | (simp [puOk, evShape, nvShape, look, oF_len, go_sem, ↓reduceIte, Nat.reduceEqDiff, reduceCtorEq, Nat.reduceLT, Nat.reduceAdd, Int.reduceBEq, Int.reduceBNe, Int.reduceEq, Int.reduceLE, Int.reduceLT, Int.reduceToNat, Nat.reduceLeDiff, Nat.reduceMul, Nat.reduceSub, hm]; done))); (focus (first | (simp only [go_sem, ↓reduceIte, Nat.reduceEqDiff, reduceCtorEq, Nat.reduceLT, Nat.reduceAdd, Int.reduceBEq, Int.reduceBNe, Int.reduceEq, Int.reduceLE, Int.reduceLT, Int.reduceToNat, Nat.reduceLeDiff, Nat.reduceMul, Nat.reduceSub, hm]; exact rfl) | exact rfl)); (focus (first | (simp only [go_sem, ↓reduceIte, Nat.reduceEqDiff, reduceCtorEq, Nat.reduceLT, Nat.reduceAdd, Int.reduceBEq, Int.reduceBNe, Int.reduceEq, Int.reduceLE, Int.reduceLT, Int.reduceToNat, Nat.reduceLeDiff, Nat.reduceMul, Nat.reduceSub, hm]; exact rfl) | exact rfl)); (focus (first | (simp only [go_sem, ↓reduceIte, Nat.reduceEqDiff, reduceCtorEq, Nat.reduceLT, Nat.reduceAdd, Int.reduceBEq, Int.reduceBNe, Int.reduceEq, Int.reduceLE, Int.reduceLT, Int.reduceToNat, Nat.reduceLeDiff, Nat.reduceMul, Nat.reduceSub, hm]; exact rfl) | exact rfl))) | fail)
    (simp only [go_sem]; repeat' first | exact LV.le_refl _ | exact LV.le_nil _ | exact le_nilF _ _ | exact LV.le_any _ _ _ | refine LV.le_tup ?_ | refine LV.le_agg ?_ | exact LV.les_nil | refine LV.les_cons ?_ ?_)
  · simp only [bN, bL, bA, bE, h]
    have hc : (chk l a != 0 || decide (m < 1) || decide (m > 65536)) = true := by
      refine bad_or ?_
      simp only [bOk, Bool.and_eq_true, beq_iff_eq, decide_eq_true_eq] at h
      by_cases h1 : chk l a = 0
      · by_cases h2 : 1 ≤ m
        · by_cases h3 : m ≤ 65536
          · exact absurd ⟨⟨h1, h2⟩, h3⟩ h
          · exact .inr (.inr (by simp; omega))
        · exact .inr (.inl (by simp; omega))
      · exact .inl (by simpa using h1)
    refine Fun.frozenLe ?_
    (refine LCalls.enter Try.func40 rfl (by simp [Try.ntmps40]) (LK.start ?_); simp only [Try.ntmps40, enterA, Nat.zero_add])
    (repeat' first | refine LOps.done ?_ | (apply LOps.mv; (focus (first | exact Goes.free | exact Goes.on rfl rfl (by with_reducible rfl) true (by decide))); (focus (exact rfl)); (focus (exact rfl))) | (apply LOps.loc; (focus (first | exact Goes.free | exact Goes.on rfl rfl (by with_reducible rfl) true (by decide))); (focus (exact rfl)); (focus (exact rfl)); (focus (simp only [go_sem, ↓reduceIte, Nat.reduceEqDiff, reduceCtorEq, Nat.reduceLT, Nat.reduceAdd]; with_reducible rfl))) | (apply LOps.pass; (focus (first | exact Goes.on rfl rfl (by with_reducible rfl) false (by decide) | exact Goes.undef rfl rfl (by with_reducible rfl))); (focus (exact rfl))) | (apply LOps.scEnd; (focus (exact rfl)); (focus (with_reducible rfl))) | refine LK.seq ?_ | refine LK.regc ?_ | (apply LOps.locFn; (focus (first | exact Goes.free | exact Goes.on rfl rfl (by with_reducible rfl) true (by decide))); (focus (exact rfl)); (focus (exact rfl)); (focus (simp only [go_sem, ↓reduceIte]; exact rfl)); (focus (simp only [go_sem])); (focus (exact hck)); (focus (first | rfl | simp [go_sem])); (focus (first | rfl | simp [go_sem]))) | (apply LOps.or2; exact rfl; exact rfl; exact rfl; exact rfl; exact rfl; (focus (with_reducible rfl)); (focus (first | kernel_rfl | rfl))) | refine Under.mk (fun hg => ?_) | fail)
    refine LK.condT2 rfl (by first | with_reducible rfl | rfl) (hc) ?_
    (repeat' first | refine LOps.done ?_ | (apply LOps.loc; (focus (first | exact Goes.free | exact Goes.on rfl rfl (by with_reducible rfl) true (by decide))); (focus (exact rfl)); (focus (exact rfl)); (focus (simp only [go_sem, ↓reduceIte]; with_reducible rfl))) | (apply LOps.loc0; (focus (first | exact Goes.free | exact Goes.on rfl rfl (by with_reducible rfl) true (by decide))); (focus (exact rfl)); (focus (simp only [go_sem, ↓reduceIte, Nat.reduceEqDiff, reduceCtorEq, Nat.reduceLT, Nat.reduceAdd]; with_reducible rfl))) | refine LK.seq ?_ | refine LK.ret' ?_ | refine LK.regc ?_ | (apply retQ; (focus (first | exact lres_one rfl | exact lres_more rfl | (simp only [lres, lresv, Try.results40, go_sem, ↓reduceIte, Nat.reduceEqDiff, reduceCtorEq, Nat.reduceAdd]; exact rfl)))) | fail)
    (simp only [go_sem, ↓reduceIte]; repeat' first | exact LV.le_refl _ | exact LV.le_nil _ | exact le_nilF _ _ | exact LV.le_any _ _ _ | refine LV.le_tup ?_ | refine LV.le_agg ?_ | exact LV.les_nil | refine LV.les_cons ?_ ?_)
end Go.Proofs.Ytflfhgpcmocilaa
