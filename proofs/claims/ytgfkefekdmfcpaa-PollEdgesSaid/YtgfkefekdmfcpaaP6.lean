/- The walks of chapter 09: New; what the library multiplies. -/
import Derived.Test.YtgfkefekdmfcpaaP5
import Derived.Laws.MathBits
import Derived.IntWalk
set_option linter.unusedSimpArgs false
set_option linter.unusedVariables false
namespace Go.Proofs.Ytgfkefekdmfcpaa
open Go.Lw
attribute [local irreducible] LK LOps LW
abbrev vu (a : Int) : LV := .pv (.sc (.int .u64 a))
theorem low32 (a : Int) : ((BitVec.ofInt 64 a &&& BitVec.ofInt 64 4294967295).toNat : Int) = a % 4294967296 := by
  rw [BitVec.toNat_and, BitVec.toNat_ofInt, BitVec.toNat_ofInt]
  have h : ((4294967295 : Int) % ((2 : Nat) ^ 64 : Nat)).toNat = 2 ^ 32 - 1 := by decide
  rw [h, Nat.and_two_pow_sub_one_eq_mod]
  omega
theorem bandU (z : Int) : bandI .u64 z 4294967295 = z % 4294967296 := by
  show IntKind.u64.wrap ((BitVec.ofInt 64 z &&& BitVec.ofInt 64 4294967295).toNat : Int) = _
  rw [low32, IntKind.wrap_u64]; omega
set_option maxHeartbeats 4000000 in
set_option maxRecDepth 10000 in
theorem mul64_fun (a b : Int) (ha0 : 0 ≤ a) (ha : a < 18446744073709551616) (hb0 : 0 ≤ b) (hb : b < 18446744073709551616) : Fun Try.prog 45 [vu a, vu b] (.tup [vu (a * b / 18446744073709551616), vu (a * b % 18446744073709551616)]) := by
  (refine LCalls.enter Try.func45 rfl (by simp [Try.ntmps45]) (LK.start ?_); simp only [Try.ntmps45, enterA, Nat.zero_add])
  (repeat' first | refine LOps.done ?_ | (apply LOps.mv; (focus (first | exact Goes.free | exact Goes.on rfl rfl (by with_reducible rfl) true (by decide))); (focus (exact rfl)); (focus (exact rfl))) | (apply LOps.asg; (focus (first | exact Goes.free | exact Goes.on rfl rfl (by with_reducible rfl) true (by decide))); (focus (exact rfl)); (focus (exact rfl))) | (apply LOps.ext; (focus (first | exact Goes.free | exact Goes.on rfl rfl (by with_reducible rfl) true (by decide))); (focus (exact rfl)); (focus (exact rfl)); (focus (exact rfl))) | (apply LOps.loc; (focus (first | exact Goes.free | exact Goes.on rfl rfl (by with_reducible rfl) true (by decide))); (focus (exact rfl)); (focus (exact rfl)); (focus (simp only [go_sem, ↓reduceIte, Nat.reduceEqDiff, Int.reduceLE, Int.reduceToNat]; with_reducible rfl))) | (apply LOps.loc0; (focus (first | exact Goes.free | exact Goes.on rfl rfl (by with_reducible rfl) true (by decide))); (focus (exact rfl)); (focus (simp only [go_sem, ↓reduceIte, Nat.reduceEqDiff, reduceCtorEq, Nat.reduceLT, Nat.reduceAdd, Int.reduceBEq, Int.reduceBNe, Int.reduceEq, Int.reduceLE, Int.reduceLT, Int.reduceToNat, Nat.reduceLeDiff, Nat.reduceMul, Nat.reduceSub]; with_reducible rfl))) | (apply LOps.pass; (focus (first | exact Goes.on rfl rfl (by with_reducible rfl) false (by decide) | exact Goes.undef rfl rfl (by with_reducible rfl))); (focus (exact rfl))) | (apply LOps.pass0; (focus (first | exact Goes.on rfl rfl (by with_reducible rfl) false (by decide) | exact Goes.undef rfl rfl (by with_reducible rfl)))) | (apply LOps.sliceUp; (focus (first | exact Goes.free | exact Goes.on rfl rfl (by with_reducible rfl) true (by decide))); (focus (exact rfl)); (focus (exact rfl)); (focus (simp only [go_sem, ↓reduceIte, Nat.reduceEqDiff, reduceCtorEq, Nat.reduceLT, Nat.reduceAdd, Int.reduceBEq, Int.reduceBNe, Int.reduceEq, Int.reduceLE, Int.reduceLT, Int.reduceToNat, Nat.reduceLeDiff, Nat.reduceMul, Nat.reduceSub]; with_reducible rfl))) | (apply LOps.bounds; (focus (first | exact Goes.free | exact Goes.on rfl rfl (by with_reducible rfl) true (by decide))); (focus (exact rfl)); (focus (exact rfl)); (focus (exact rfl)); (focus (simp only [go_sem, ↓reduceIte, Nat.reduceEqDiff, reduceCtorEq, Nat.reduceLT, Nat.reduceAdd, Int.reduceBEq, Int.reduceBNe, Int.reduceEq, Int.reduceLE, Int.reduceLT, Int.reduceToNat, Nat.reduceLeDiff, Nat.reduceMul, Nat.reduceSub]; with_reducible rfl))) | (apply LOps.scEnd; (focus (exact rfl)); (focus (with_reducible rfl))) | refine LK.seq ?_ | refine LK.skip ?_ | refine LK.block ?_ | refine LK.blk ?_ | refine LK.fin ?_ | refine LR.step ?_ | refine LK.ret' ?_ | refine LK.exit' rfl ?_ | refine LK.condCF ?_ | refine LK.condCT ?_ | (apply LK.condT2; (focus (exact rfl)); (focus (with_reducible rfl)); (focus (first | with_reducible rfl | decide | (with_reducible exact Bool.true_or _) | (with_reducible exact congrArg (fun b => b || _) (Bool.true_or _))))) | (apply LK.condF2; (focus (exact rfl)); (focus (with_reducible rfl)); (focus (first | with_reducible rfl | decide | (with_reducible exact Bool.false_and _) | (with_reducible exact congrArg (fun b => b && _) (Bool.false_and _))))) | (apply LK.cond2; (focus (exact rfl)); (focus (with_reducible rfl)); all_goals (refine ⟨fun hb => ?_⟩)) | refine LK.regc ?_ | (apply LOps.and2; exact rfl; exact rfl; exact rfl; exact rfl; exact rfl; (focus (with_reducible rfl)); (focus (first | kernel_rfl | rfl))) | (apply LOps.or2; exact rfl; exact rfl; exact rfl; exact rfl; exact rfl; (focus (with_reducible rfl)); (focus (first | kernel_rfl | rfl))) | refine Under.mk (fun hg => ?_) | (apply LOps.guard2; (focus (exact rfl)); (focus (exact rfl)); (focus (exact rfl)); (focus (with_reducible rfl))) | fail)
  all_goals refine ⟨.inr rfl, _, (by first | exact lres_one rfl | exact lres_more rfl | (simp only [lres, lresv, Try.results45, go_sem, ↓reduceIte, Nat.reduceEqDiff, reduceCtorEq, Nat.reduceLT, Nat.reduceAdd, Int.reduceBEq, Int.reduceBNe, Int.reduceEq, Int.reduceLE, Int.reduceLT, Int.reduceToNat, Nat.reduceLeDiff, Nat.reduceMul, Nat.reduceSub]; exact rfl)), ?_⟩
  have hm := mul64_arith a b ha0 ha hb0 hb
  simp only [bandU, show min (32 : Nat) 64 = 32 from rfl, show ((2 : Int) ^ 32) = 4294967296 from rfl, Int.fdiv_eq_ediv_of_nonneg _ (show (0 : Int) ≤ 4294967296 by decide), IntKind.wrap_u64]
  simp only [hm]
set_option maxHeartbeats 4000000 in
set_option maxRecDepth 10000 in
theorem mul1_fun (n : Nat) (hn : n ≤ 100000) : Fun Try.prog 43 [vu 1, vu n] (.tup [vu 0, vu n]) := by
  have h := mul64_fun 1 n (by omega) (by omega) (by omega) (by omega)
  have e1 : (1 * (n : Int)) / 18446744073709551616 = 0 := by omega
  have e2 : (1 * (n : Int)) % 18446744073709551616 = n := by omega
  rw [e1, e2] at h
  (refine LCalls.enter Try.func43 rfl (by simp [Try.ntmps43]) (LK.start ?_); simp only [Try.ntmps43, enterA, Nat.zero_add])
  (repeat' first | refine LOps.done ?_ | (apply LOps.mv; (focus (first | exact Goes.free | exact Goes.on rfl rfl (by with_reducible rfl) true (by decide))); (focus (exact rfl)); (focus (exact rfl))) | (apply LOps.asg; (focus (first | exact Goes.free | exact Goes.on rfl rfl (by with_reducible rfl) true (by decide))); (focus (exact rfl)); (focus (exact rfl))) | (apply LOps.ext; (focus (first | exact Goes.free | exact Goes.on rfl rfl (by with_reducible rfl) true (by decide))); (focus (exact rfl)); (focus (exact rfl)); (focus (exact rfl))) | (apply LOps.loc; (focus (first | exact Goes.free | exact Goes.on rfl rfl (by with_reducible rfl) true (by decide))); (focus (exact rfl)); (focus (exact rfl)); (focus (simp only [go_sem, reduceCtorEq]; with_reducible rfl))) | refine LK.seq ?_ | refine LK.skip ?_ | refine LK.ret' ?_ | refine LK.condCF ?_ | refine LK.regc ?_ | (apply retQ; (focus (first | exact lres_one rfl | exact lres_more rfl | (simp only [lres, lresv, Try.results43, go_sem, ↓reduceIte, Nat.reduceEqDiff, reduceCtorEq, Nat.reduceLT, Nat.reduceAdd, Int.reduceBEq, Int.reduceBNe, Int.reduceEq, Int.reduceLE, Int.reduceLT, Int.reduceToNat, Nat.reduceLeDiff, Nat.reduceMul, Nat.reduceSub]; exact rfl)))) | (apply LOps.locFn; (focus (first | exact Goes.free | exact Goes.on rfl rfl (by with_reducible rfl) true (by decide))); (focus (exact rfl)); (focus (exact rfl)); (focus (simp only [go_sem, ↓reduceIte, Nat.reduceEqDiff]; exact rfl)); (focus (simp only [go_sem])); (focus (exact h)); (focus (first | rfl | simp [go_sem])); (focus (first | rfl | simp [go_sem]))) | fail)
  all_goals rfl
/-- The first k of n are laid. -/
def repL (n k : Nat) : List Fd := List.replicate k shutF ++ List.replicate (n - k) ⟨false, false, 0⟩
theorem repL_len {n k : Nat} (h : k ≤ n) : (repL n k).length = n := by simp [repL]; omega
theorem repL_take {n k : Nat} : (repL n k).take k = List.replicate k shutF := by simp [repL]
theorem repL_step {n k : Nat} (h : k < n) : (repL n k).take k ++ ((repL n k).take k).take (min k (n - k)) ++ (repL n k).drop (k + min k (n - k)) = repL n (k + min k (n - k)) := by
  rw [repL_take, List.take_replicate, List.replicate_append_replicate]
  simp only [repL]
  rw [List.drop_append, List.length_replicate, List.drop_replicate, List.drop_replicate]
  have e1 : k - (k + min k (n - k)) = 0 := by omega
  have e2 : k + min (min k (n - k)) k = k + min k (n - k) := by omega
  have e3 : n - k - (k + min k (n - k) - k) = n - (k + min k (n - k)) := by omega
  rw [e1, e2, e3]; simp
set_option maxHeartbeats 4000000 in
set_option maxRecDepth 10000 in
theorem repeat_fun (n : Nat) (hn : n ≤ 16) : Fun Try.prog 35 [sD [shutF], vi n] (sD (List.replicate n shutF)) := by
  have hm := mul1_fun n (by omega)
  have h0 : ¬ ((n : Int) < 0) := by omega
  have w1 : IntKind.u64.wrap (n : Int) = n := by rw [IntKind.wrap_u64]; omega
  have w2 : IntKind.i64.wrap (n : Int) = n := by rw [IntKind.wrap_i64]; omega
  have w3 : IntKind.u64.wrap 1 = 1 := rfl
  have g1 : ¬ ((n : Int) > 9223372036854775807) := by omega
  have m1 : n ≤ maxLen ∧ 16 * n ≤ 281474976710656 := by simp only [maxLen]; omega
  refine Fun.frozenLe ?_
  (refine LCalls.enter Try.func35 rfl (by simp [Try.ntmps35]) (LK.start ?_); simp only [Try.ntmps35, enterA, Nat.zero_add])
  have e0 : List.take (Nat.min 1 n) [shutF] ++ List.drop (Nat.min 1 n) (List.replicate n ⟨false, false, 0⟩) = repL n (min 1 n) := by
    rcases Nat.eq_zero_or_pos n with rfl | hp
    · rfl
    · have : Nat.min 1 n = 1 := by show min 1 n = 1; omega
      rw [this, show min 1 n = 1 by omega, repL, List.drop_replicate]; rfl
  have e9 : ((Nat.min 1 n : Nat) : Int) = ((min 1 n : Nat) : Int) := rfl
  (repeat' first | refine LOps.done ?_ | (apply LOps.mv; (focus (first | exact Goes.free | exact Goes.on rfl rfl (by with_reducible rfl) true (by decide))); (focus (exact rfl)); (focus (exact rfl))) | (apply LOps.asg; (focus (first | exact Goes.free | exact Goes.on rfl rfl (by with_reducible rfl) true (by decide))); (focus (exact rfl)); (focus (exact rfl))) | (apply LOps.ext; (focus (first | exact Goes.free | exact Goes.on rfl rfl (by with_reducible rfl) true (by decide))); (focus (exact rfl)); (focus (exact rfl)); (focus (exact rfl))) | (apply LOps.loc; (focus (first | exact Goes.free | exact Goes.on rfl rfl (by with_reducible rfl) true (by decide))); (focus (exact rfl)); (focus (exact rfl)); (focus (simp only [go_sem, ↓reduceIte, Nat.reduceEqDiff, reduceCtorEq, Nat.reduceLT, Nat.reduceAdd, h0, w1, w2, w3, g1, m1, e0, e9, Int.reduceGT, Int.ofNat_one]; with_reducible rfl))) | refine LK.seq ?_ | refine LK.skip ?_ | refine LK.block ?_ | (apply LK.condF2; (focus (exact rfl)); (focus (with_reducible rfl)); (focus (first | with_reducible rfl | decide | (with_reducible exact Bool.false_and _) | (with_reducible exact congrArg (fun b => b && _) (Bool.false_and _))))) | refine LK.regc ?_ | (apply LOps.locFn; (focus (first | exact Goes.free | exact Goes.on rfl rfl (by with_reducible rfl) true (by decide))); (focus (exact rfl)); (focus (exact rfl)); (focus (simp only [go_sem, ↓reduceIte, Nat.reduceEqDiff]; exact rfl)); (focus (simp only [go_sem])); (focus (exact hm)); (focus (first | rfl | simp [go_sem])); (focus (first | rfl | simp [go_sem]))) | fail)
  refine LK.loop (fun k : Nat => n - k) (fun k => k ≤ n ∧ (n = 0 ∨ 1 ≤ k)) (fun k => ⟨48, [(7, .own 0 n 0 n), (8, vi k)]⟩) (fun k => [(0, .arr 3 (oF cF (repL n k)))]) (min 1 n) ⟨by omega, by omega⟩ (Sub.by rfl rfl (by first | rfl | (simp only [subB, oF_all_under, LV.under, LO.under, List.all_cons, List.all_nil, decide_true, Nat.reduceLT, Bool.and_self]; done))) ?_
  rintro k ⟨hk, hp⟩ J hJ
  have hL := repL_len hk
  rcases Nat.lt_or_ge k n with hlt | hge
  · have hi : ((k : Int) < (n : Int)) := by omega
    have hk2 : ((k : Int) ≤ (n : Int)) := by omega
    have hT := repL_take (n := n) (k := k)
    have hN : (repL n k).take n = repL n k := List.take_of_length_le (by omega)
    have hs := repL_step hlt
    have hkn : k + (n - k) ≤ n := by omega
    have hadd : IntKind.i64.wrap ((k : Int) + ((Nat.min k (n - k) : Nat) : Int)) = ((k + min k (n - k) : Nat) : Int) := by
      show IntKind.i64.wrap ((k : Int) + ((min k (n - k) : Nat) : Int)) = _
      rw [IntKind.wrap_i64]; omega
    have hs' : List.replicate k shutF ++ List.replicate (min (Nat.min k (n - k)) k) shutF ++ List.drop (k + Nat.min k (n - k)) (repL n k) = repL n (k + min k (n - k)) := by
      rw [repL_take, List.take_replicate] at hs; exact hs
    have hL2 : (repL n (k + min k (n - k))).length = n := repL_len (by omega)
    have hq : k + min k (n - k) + (n - (k + Nat.min k (n - k))) = n := by
      show k + min k (n - k) + (n - (k + min k (n - k))) = n
      omega
    (repeat' first | refine LOps.done ?_ | (apply LOps.mv; (focus (first | exact Goes.free | exact Goes.on rfl rfl (by with_reducible rfl) true (by decide))); (focus (exact rfl)); (focus (exact rfl))) | (apply LOps.loc; (focus (first | exact Goes.free | exact Goes.on rfl rfl (by with_reducible rfl) true (by decide))); (focus (exact rfl)); (focus (exact rfl)); (focus (simp only [go_sem, ↓reduceIte, Nat.reduceEqDiff, hi, hL, hN, Nat.zero_add]; with_reducible rfl))) | refine LK.seq ?_ | refine LK.skip ?_ | refine LK.block ?_ | (apply LK.condT2; (focus (exact rfl)); (focus (with_reducible rfl)); (focus (first | with_reducible rfl | decide | (with_reducible exact Bool.true_or _) | (with_reducible exact congrArg (fun b => b || _) (Bool.true_or _))))) | refine LK.regc ?_ | fail)
    apply LK.drawn3
    · exact Ty.mixed
    · (repeat' first | exact DRun.nil _ _ _ | (apply DRun.apu; (focus (exact rfl)); (focus (exact rfl)); (focus (exact rfl)); (focus (first | with_reducible rfl | (simp only [go_sem, ↓reduceIte, Nat.reduceEqDiff, reduceCtorEq, Nat.reduceLT, Nat.reduceAdd, Int.reduceBEq, Int.reduceBNe, Int.reduceEq, Int.reduceLE, Int.reduceLT, Int.reduceToNat, Nat.reduceLeDiff, Nat.reduceMul, Nat.reduceSub, hi, hk, hk2, hL, hT, hN, hkn, hadd, hs', hq, hL2, Nat.zero_add, Nat.sub_zero] <;> fail) | (simp only [go_sem, ↓reduceIte, Nat.reduceEqDiff, reduceCtorEq, Nat.reduceLT, Nat.reduceAdd, Int.reduceBEq, Int.reduceBNe, Int.reduceEq, Int.reduceLE, Int.reduceLT, Int.reduceToNat, Nat.reduceLeDiff, Nat.reduceMul, Nat.reduceSub, hi, hk, hk2, hL, hT, hN, hkn, hadd, hs', hq, hL2, Nat.zero_add, Nat.sub_zero]; with_reducible rfl))); (focus (intro σ0 rows0 h10 h20; simp only [h10, h20, go_sem, ↓reduceIte, Nat.reduceEqDiff, Nat.reduceLT, Nat.reduceAdd, hk, hL, hkn, Nat.zero_add, Nat.sub_zero]; exact rfl)); (focus (first | exact idx_same | exact move_same)); (focus (exact rfl)); (focus (first | decide +kernel | (simp only [LV.under, List.all_cons, List.all_nil, decide_true, Nat.reduceLT, Bool.and_self]; done) | (simp [MB_all_under, MI_all_under, MB_all_idp, MI_all_idp, oF_under, oF_idp, oF_all_under, oF_all_idp, MB_under, MI_under, MB_idp, MI_idp, evOk, ovOk, nvOk, keepOf, vis, LV.under, LV.unders, LV.idp, LV.idps, LO.under, LO.idp, under_pv, idp_pv]; done)))) | (apply DRun.aopS; (focus (exact rfl)); (focus (first | exact rfl | (simp only [oF_idss, objsOf, idsOf, LV.ids, LO.ids, lookB_eq, List.any_nil, List.any_cons, cond_true, cond_false, Bool.or_false, go_sem, ↓reduceIte]; exact rfl))); (focus (first | exact Goes.free | exact Goes.on rfl rfl (by with_reducible rfl) true (by decide))); (focus (simp only [go_sem, ↓reduceIte, Nat.reduceEqDiff, Nat.reduceLT, Nat.reduceAdd, hk, hL, hT, hkn, hadd, hs', Nat.zero_add, Nat.sub_zero]; exact rfl)); (focus (exact rfl)); (focus (first | decide +kernel | (simp only [oF_all_under, oF_all_idp, evOk, ovOk, nvOk, keepOf, vis, LV.under, LV.idp, LO.under, LO.idp, List.all_cons, List.all_nil, List.any_cons, List.any_nil, beq_self_eq_true, Bool.and_true, Bool.or_false, Bool.false_or, decide_true, decide_false, Nat.reduceLT, Nat.reduceLeDiff, Bool.and_self]; done) | (simp [oF_all_under, oF_all_idp, evOk, ovOk, nvOk, keepOf, vis, LV.under, LV.idp, LO.under, LO.idp]; done)))) | (apply DRun.awrS; (focus (exact rfl)); (focus (first | exact rfl | (simp only [oF_idss, objsOf, idsOf, LV.ids, LO.ids, lookB_eq, List.any_nil, List.any_cons, cond_true, cond_false, Bool.or_false, go_sem, ↓reduceIte]; exact rfl))); (focus (first | exact Goes.free | exact Goes.on rfl rfl (by with_reducible rfl) true (by decide))); (focus (simp only [go_sem, ↓reduceIte, Nat.reduceEqDiff, Nat.reduceLT, Nat.reduceAdd, hk, hL, hT, hkn, hs', Nat.zero_add]; exact rfl)); (focus (exact rfl)); (focus (first | (simp only [go_sem, ↓reduceIte]; exact rfl) | exact rfl)); (focus (first | decide +kernel | (simp only [oF_all_under, oF_all_idp, evOk, ovOk, nvOk, keepOf, vis, LV.under, LV.idp, LO.under, LO.idp, List.all_cons, List.all_nil, List.any_cons, List.any_nil, beq_self_eq_true, Bool.and_true, Bool.or_false, decide_true, decide_false, Nat.reduceLT, Nat.reduceLeDiff, Bool.and_self]; done) | (simp [oF_all_under, oF_all_idp, evOk, ovOk, nvOk, keepOf, vis, LV.under, LV.idp, LO.under, LO.idp]; done))); (focus (first | (simp only [go_sem, ↓reduceIte]; exact rfl) | exact rfl))) | fail)
    · kernel_rfl
    · (first | exact puOk_none rfl | (simp [puOk, evShape, nvShape, oF_len, go_sem, reduceCtorEq, hL, hL2] <;> omega))
    · (first | (simp only [go_sem, ↓reduceIte, Nat.reduceEqDiff, reduceCtorEq, Nat.reduceLT, Nat.reduceAdd, Int.reduceBEq, Int.reduceBNe, Int.reduceEq, Int.reduceLE, Int.reduceLT, Int.reduceToNat, Nat.reduceLeDiff, Nat.reduceMul, Nat.reduceSub, hi, hk, hk2, hL, hT, hN, hkn, hadd, hs', hq, hL2, Nat.zero_add, Nat.sub_zero]; exact rfl) | exact rfl)
    · (first | (simp only [go_sem, ↓reduceIte, Nat.reduceEqDiff, reduceCtorEq, Nat.reduceLT, Nat.reduceAdd, Int.reduceBEq, Int.reduceBNe, Int.reduceEq, Int.reduceLE, Int.reduceLT, Int.reduceToNat, Nat.reduceLeDiff, Nat.reduceMul, Nat.reduceSub, hi, hk, hk2, hL, hT, hN, hkn, hadd, hs', hq, hL2, Nat.zero_add, Nat.sub_zero]; exact rfl) | exact rfl)
    · (first | (simp only [go_sem, ↓reduceIte, Nat.reduceEqDiff, reduceCtorEq, Nat.reduceLT, Nat.reduceAdd, Int.reduceBEq, Int.reduceBNe, Int.reduceEq, Int.reduceLE, Int.reduceLT, Int.reduceToNat, Nat.reduceLeDiff, Nat.reduceMul, Nat.reduceSub, hi, hk, hk2, hL, hT, hN, hkn, hadd, hs', hq, hL2, Nat.zero_add, Nat.sub_zero]; exact rfl) | exact rfl)
    (repeat' first | refine LK.blk ?_ | refine LK.fin ?_ | fail)
    apply hJ
    exact ⟨k + min k (n - k), ⟨by omega, by omega⟩, by omega, (Sub.by rfl rfl (by first | rfl | (simp only [subB, oF_all_under, LV.under, LO.under, List.all_cons, List.all_nil, decide_true, Nat.reduceLT, Bool.and_self]; done)))⟩
  · have hi : ¬ ((k : Int) < (n : Int)) := by omega
    obtain rfl : k = n := by omega
    have hz : repL k k = List.replicate k shutF := by simp [repL]
    have hN : (List.replicate k shutF).take k = List.replicate k shutF := List.take_of_length_le (by simp)
    (repeat' first | refine LOps.done ?_ | (apply LOps.mv; (focus (first | exact Goes.free | exact Goes.on rfl rfl (by with_reducible rfl) true (by decide))); (focus (exact rfl)); (focus (exact rfl))) | (apply LOps.asg; (focus (first | exact Goes.free | exact Goes.on rfl rfl (by with_reducible rfl) true (by decide))); (focus (exact rfl)); (focus (exact rfl))) | (apply LOps.loc; (focus (first | exact Goes.free | exact Goes.on rfl rfl (by with_reducible rfl) true (by decide))); (focus (exact rfl)); (focus (exact rfl)); (focus (simp only [go_sem, ↓reduceIte, Nat.reduceEqDiff, hi, hz, hN]; with_reducible rfl))) | refine LK.seq ?_ | refine LK.ret' ?_ | refine LK.exit' rfl ?_ | (apply LK.condF2; (focus (exact rfl)); (focus (with_reducible rfl)); (focus (first | with_reducible rfl | decide | (with_reducible exact Bool.false_and _) | (with_reducible exact congrArg (fun b => b && _) (Bool.false_and _))))) | refine LK.regc ?_ | (apply retQ; (focus (first | exact lres_one rfl | exact lres_more rfl | (simp only [lres, lresv, Try.results35, go_sem, ↓reduceIte, Nat.reduceEqDiff, reduceCtorEq, Nat.reduceLT, Nat.reduceAdd, Int.reduceBEq, Int.reduceBNe, Int.reduceEq, Int.reduceLE, Int.reduceLT, Int.reduceToNat, Nat.reduceLeDiff, Nat.reduceMul, Nat.reduceSub, hi, hz, hN]; exact rfl)))) | fail)
    (simp only [go_sem, ↓reduceIte]; repeat' first | exact LV.le_refl _ | exact LV.le_nil _ | exact le_nilF _ _ | exact LV.le_any _ _ _ | refine LV.le_tup ?_ | refine LV.le_agg ?_ | exact LV.les_nil | refine LV.les_cons ?_ ?_)
def neE (n : Int) : Int := if 0 ≤ n ∧ n ≤ 16 then 0 else 1
def neL (n : Int) : List Fd := if 0 ≤ n ∧ n ≤ 16 then List.replicate n.toNat shutF else []
set_option maxHeartbeats 4000000 in
set_option maxRecDepth 10000 in
theorem new_yes (n : Nat) (hn : n ≤ 16) : Fun Try.prog 15 [vi n] (.tup [sD (List.replicate n shutF), vi 0]) := by
  have hr := repeat_fun n hn
  have hs := shut_fun
  have hcc : (decide ((n : Int) < 0) || decide ((n : Int) > 16)) = false := by simp only [Bool.or_eq_false_iff, decide_eq_false_iff_not]; omega
  refine Fun.frozenLe ?_
  (refine LCalls.enter Try.func15 rfl (by simp [Try.ntmps15]) (LK.start ?_); simp only [Try.ntmps15, enterA])
  (repeat' first | refine LOps.done ?_ | (apply LOps.mv; (focus (first | exact Goes.free | exact Goes.on rfl rfl (by with_reducible rfl) true (by decide))); (focus (exact rfl)); (focus (exact rfl))) | (apply LOps.loc; (focus (first | exact Goes.free | exact Goes.on rfl rfl (by with_reducible rfl) true (by decide))); (focus (exact rfl)); (focus (exact rfl)); (focus (simp only [go_sem, ↓reduceIte, Nat.reduceEqDiff]; with_reducible rfl))) | (apply LOps.pass; (focus (first | exact Goes.on rfl rfl (by with_reducible rfl) false (by decide) | exact Goes.undef rfl rfl (by with_reducible rfl))); (focus (exact rfl))) | (apply LOps.scEnd; (focus (exact rfl)); (focus (with_reducible rfl))) | refine LK.seq ?_ | refine LK.regc ?_ | (apply LOps.or2; exact rfl; exact rfl; exact rfl; exact rfl; exact rfl; (focus (with_reducible rfl)); (focus (first | kernel_rfl | rfl))) | refine Under.mk (fun hg => ?_) | fail)
  refine LK.condF2 rfl (by first | with_reducible rfl | rfl) (hcc) ?_
  (repeat' first | refine LOps.done ?_ | (apply LOps.mv; (focus (first | exact Goes.free | exact Goes.on rfl rfl (by with_reducible rfl) true (by decide))); (focus (exact rfl)); (focus (exact rfl))) | (apply LOps.asg; (focus (first | exact Goes.free | exact Goes.on rfl rfl (by with_reducible rfl) true (by decide))); (focus (exact rfl)); (focus (exact rfl))) | (apply LOps.loc; (focus (first | exact Goes.free | exact Goes.on rfl rfl (by with_reducible rfl) true (by decide))); (focus (exact rfl)); (focus (exact rfl)); (focus (simp only [go_sem, ↓reduceIte, reduceCtorEq, Nat.reduceLT, Nat.reduceAdd, Nat.reduceLeDiff]; with_reducible rfl))) | refine LK.seq ?_ | refine LK.skip ?_ | refine LK.ret' ?_ | refine LK.regc ?_ | (apply retQ; (focus (first | exact lres_one rfl | exact lres_more rfl | (simp only [lres, lresv, Try.results15, go_sem, ↓reduceIte, Nat.reduceEqDiff, reduceCtorEq, Nat.reduceLT, Nat.reduceAdd, Int.reduceBEq, Int.reduceBNe, Int.reduceEq, Int.reduceLE, Int.reduceLT, Int.reduceToNat, Nat.reduceLeDiff, Nat.reduceMul, Nat.reduceSub]; exact rfl)))) | (apply LOps.locFn; (focus (first | exact Goes.free | exact Goes.on rfl rfl (by with_reducible rfl) true (by decide))); (focus (exact rfl)); (focus (exact rfl)); (focus (simp only [go_sem, ↓reduceIte, Nat.reduceEqDiff]; exact rfl)); (focus (simp only [go_sem])); (focus (first | exact hs | exact hr)); (focus (first | rfl | simp [go_sem])); (focus (first | rfl | simp [go_sem]))) | ((apply LOps.thaw; (focus (exact rfl)); (focus (exact rfl)); (focus (exact rfl)); (focus (exact rfl)); (focus (simp only [go_sem, ↓reduceIte]; exact rfl)); (focus (simp only [go_sem, ↓reduceIte]; exact rfl))); (apply LOps.locFn; (focus (first | exact Goes.free | exact Goes.on rfl rfl (by with_reducible rfl) true (by decide))); (focus (exact rfl)); (focus (exact rfl)); (focus (simp only [go_sem, ↓reduceIte, Nat.reduceEqDiff]; exact rfl)); (focus (simp only [go_sem])); (focus (first | exact hs | exact hr)); (focus (first | rfl | simp [go_sem])); (focus (first | rfl | simp [go_sem])))) | fail)
  (simp only [go_sem]; repeat' first | exact LV.le_refl _ | exact LV.le_nil _ | exact le_nilF _ _ | exact LV.le_any _ _ _ | refine LV.le_tup ?_ | refine LV.le_agg ?_ | exact LV.les_nil | refine LV.les_cons ?_ ?_)
set_option maxHeartbeats 4000000 in
set_option maxRecDepth 10000 in
theorem new_no (n : Int) (hn : ¬ (0 ≤ n ∧ n ≤ 16)) : Fun Try.prog 15 [vi n] (.tup [sD [], vi 1]) := by
  have hcc : (decide (n < 0) || decide (n > 16)) = true := by simp only [Bool.or_eq_true, decide_eq_true_eq]; omega
  refine Fun.frozenLe ?_
  (refine LCalls.enter Try.func15 rfl (by simp [Try.ntmps15]) (LK.start ?_); simp only [Try.ntmps15, enterA])
  (repeat' first | refine LOps.done ?_ | (apply LOps.mv; (focus (first | exact Goes.free | exact Goes.on rfl rfl (by with_reducible rfl) true (by decide))); (focus (exact rfl)); (focus (exact rfl))) | (apply LOps.loc; (focus (first | exact Goes.free | exact Goes.on rfl rfl (by with_reducible rfl) true (by decide))); (focus (exact rfl)); (focus (exact rfl)); (focus (simp only [go_sem, ↓reduceIte, Nat.reduceEqDiff]; with_reducible rfl))) | (apply LOps.pass; (focus (first | exact Goes.on rfl rfl (by with_reducible rfl) false (by decide) | exact Goes.undef rfl rfl (by with_reducible rfl))); (focus (exact rfl))) | (apply LOps.scEnd; (focus (exact rfl)); (focus (with_reducible rfl))) | refine LK.seq ?_ | refine LK.regc ?_ | (apply LOps.or2; exact rfl; exact rfl; exact rfl; exact rfl; exact rfl; (focus (with_reducible rfl)); (focus (first | kernel_rfl | rfl))) | refine Under.mk (fun hg => ?_) | fail)
  refine LK.condT2 rfl (by first | with_reducible rfl | rfl) (hcc) ?_
  (repeat' first | refine LOps.done ?_ | (apply LOps.loc; (focus (first | exact Goes.free | exact Goes.on rfl rfl (by with_reducible rfl) true (by decide))); (focus (exact rfl)); (focus (exact rfl)); (focus (simp only [go_sem]; with_reducible rfl))) | refine LK.seq ?_ | refine LK.ret' ?_ | refine LK.regc ?_ | (apply retQ; (focus (first | exact lres_one rfl | exact lres_more rfl | (simp only [lres, lresv, Try.results15, go_sem, ↓reduceIte, Nat.reduceEqDiff, reduceCtorEq, Nat.reduceLT, Nat.reduceAdd, Int.reduceBEq, Int.reduceBNe, Int.reduceEq, Int.reduceLE, Int.reduceLT, Int.reduceToNat, Nat.reduceLeDiff, Nat.reduceMul, Nat.reduceSub]; exact rfl)))) | fail)
  (simp only [go_sem]; repeat' first | exact LV.le_refl _ | exact LV.le_nil _ | exact le_nilF _ _ | exact LV.le_any _ _ _ | refine LV.le_tup ?_ | refine LV.le_agg ?_ | exact LV.les_nil | refine LV.les_cons ?_ ?_)
theorem new_fun (n : Int) : Fun Try.prog 15 [vi n] (.tup [sD (neL n), vi (neE n)]) := by
  by_cases h : 0 ≤ n ∧ n ≤ 16
  · obtain ⟨k, rfl⟩ := Int.eq_ofNat_of_zero_le h.1
    rw [neL, neE, if_pos h, if_pos h, Int.toNat_natCast]; exact new_yes k (by omega)
  · rw [neL, neE, if_neg h, if_neg h]; exact new_no n h
set_option maxHeartbeats 4000000 in
set_option maxRecDepth 10000 in
theorem same_fun (p q : List Fd) (hp : p.length ≤ 100000) : Fun Try.prog 28 [sD p, sD q] (vb (decide (p = q))) := by
  have h := equal_fun p q hp
  (refine LCalls.enter Try.func28 rfl (by simp [Try.ntmps28]) (LK.start ?_); simp only [Try.ntmps28, enterA, Nat.zero_add])
  (repeat' first | refine LOps.done ?_ | (apply LOps.mv; (focus (first | exact Goes.free | exact Goes.on rfl rfl (by with_reducible rfl) true (by decide))); (focus (exact rfl)); (focus (exact rfl))) | (apply LOps.asg; (focus (first | exact Goes.free | exact Goes.on rfl rfl (by with_reducible rfl) true (by decide))); (focus (exact rfl)); (focus (exact rfl))) | (apply LOps.loc; (focus (first | exact Goes.free | exact Goes.on rfl rfl (by with_reducible rfl) true (by decide))); (focus (exact rfl)); (focus (exact rfl)); (focus (simp only [go_sem, reduceCtorEq]; with_reducible rfl))) | refine LK.seq ?_ | refine LK.ret' ?_ | refine LK.regc ?_ | (apply retQ; (focus (first | exact lres_one rfl | exact lres_more rfl | (simp only [lres, lresv, Try.results28, go_sem, ↓reduceIte, Nat.reduceEqDiff, reduceCtorEq, Nat.reduceLT, Nat.reduceAdd, Int.reduceBEq, Int.reduceBNe, Int.reduceEq, Int.reduceLE, Int.reduceLT, Int.reduceToNat, Nat.reduceLeDiff, Nat.reduceMul, Nat.reduceSub]; exact rfl)))) | (apply LOps.locFn; (focus (first | exact Goes.free | exact Goes.on rfl rfl (by with_reducible rfl) true (by decide))); (focus (exact rfl)); (focus (exact rfl)); (focus (simp only [go_sem, ↓reduceIte, Nat.reduceEqDiff]; exact rfl)); (focus (simp only [go_sem])); (focus (exact h)); (focus (first | rfl | simp [go_sem])); (focus (first | rfl | simp [go_sem]))) | fail)
  all_goals rfl
set_option maxHeartbeats 4000000 in
set_option maxRecDepth 10000 in
theorem live_fun : Fun Try.prog 9 [] (vb true) := by
  have h1 := new_fun 1
  have h2 := opens_fun [shutF] 0 (by decide)
  have h3 := fires_fun [openF] 0 (by decide)
  have h4 := fires_fun [⟨true, true, -1⟩] 0 (by decide)
  have h5 := arms_fun [⟨true, true, -1⟩] 0 5 (by decide)
  have h6 := arms_fun [openF] 0 6 (by decide)
  have e1 : neL 1 = [shutF] := by decide
  have e1' : neE 1 = 0 := by decide
  have e2 : opL [shutF] 0 = [openF] := by decide
  have e2' : opE [shutF] 0 = 0 := by decide
  have e3 : fiL [openF] 0 = [⟨true, true, -1⟩] := by decide
  have e3' : shE [openF] 0 = 0 := by decide
  have e4 : fiL [⟨true, true, -1⟩] 0 = [⟨true, true, -1⟩] := by decide
  have e4' : shE [⟨true, true, -1⟩] 0 = 0 := by decide
  have e5 : arL [⟨true, true, -1⟩] 0 5 = [openF] := by decide
  have e5' : arE [⟨true, true, -1⟩] 0 5 = 0 := by decide
  have e5b : arB [⟨true, true, -1⟩] 0 5 = true := by decide
  have e6' : arE [openF] 0 6 = 0 := by decide
  have e6b : arB [openF] 0 6 = false := by decide
  rw [e1, e1'] at h1
  rw [e2, e2'] at h2
  rw [e3, e3'] at h3
  rw [e4, e4'] at h4
  rw [e5, e5', e5b] at h5
  rw [e6', e6b] at h6
  (refine LCalls.enter Try.func9 rfl (by simp [Try.ntmps9]) (LK.start ?_); simp only [Try.ntmps9, enterA])
  (repeat' first | refine LOps.done ?_ | (apply LOps.mv; (focus (first | exact Goes.free | exact Goes.on rfl rfl (by with_reducible rfl) true (by decide))); (focus (exact rfl)); (focus (exact rfl))) | (apply LOps.asg; (focus (first | exact Goes.free | exact Goes.on rfl rfl (by with_reducible rfl) true (by decide))); (focus (exact rfl)); (focus (exact rfl))) | (apply LOps.ext; (focus (first | exact Goes.free | exact Goes.on rfl rfl (by with_reducible rfl) true (by decide))); (focus (exact rfl)); (focus (exact rfl)); (focus (exact rfl))) | (apply LOps.loc; (focus (first | exact Goes.free | exact Goes.on rfl rfl (by with_reducible rfl) true (by decide))); (focus (exact rfl)); (focus (exact rfl)); (focus (simp only [go_sem, ↓reduceIte, Nat.reduceEqDiff, reduceCtorEq]; with_reducible rfl))) | refine LK.seq ?_ | refine LK.ret' ?_ | refine LK.regc ?_ | (apply retQ; (focus (first | exact lres_one rfl | exact lres_more rfl | (simp only [lres, lresv, Try.results9, go_sem, ↓reduceIte, Nat.reduceEqDiff, reduceCtorEq, Nat.reduceLT, Nat.reduceAdd, Int.reduceBEq, Int.reduceBNe, Int.reduceEq, Int.reduceLE, Int.reduceLT, Int.reduceToNat, Nat.reduceLeDiff, Nat.reduceMul, Nat.reduceSub]; exact rfl)))) | (apply LOps.locFn; (focus (first | exact Goes.free | exact Goes.on rfl rfl (by with_reducible rfl) true (by decide))); (focus (exact rfl)); (focus (exact rfl)); (focus (simp only [go_sem, ↓reduceIte]; exact rfl)); (focus (simp only [go_sem])); (focus (first | exact h1 | exact h2 | exact h3 | exact h4 | exact h5 | exact h6)); (focus (first | rfl | simp [go_sem])); (focus (first | rfl | simp [go_sem]))) | fail)
  all_goals rfl
end Go.Proofs.Ytgfkefekdmfcpaa
