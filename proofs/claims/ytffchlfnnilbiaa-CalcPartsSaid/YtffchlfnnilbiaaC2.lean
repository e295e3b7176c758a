/- Chapter 02: the document's numbers: Of, zero, Neg. -/
import Derived.Test.YtffchlfnnilbiaaC1
set_option linter.unusedSimpArgs false
set_option linter.unusedVariables false
namespace Go.Proofs.Ytffchlfnnilbiaa
open Go.Lw
attribute [local irreducible] LK LOps LW
abbrev bc (m : Bool) (o : Nat → Int) : List LV := vb m :: (Lf o).map vu
abbrev bg (m : Bool) (o : Nat → Int) : LV := .agg (bc m o)
theorem n16 : ((16 : Nat) : Int) = 16 := rfl
theorem Lf_all (o : Nat → Int) : Lf o = [o 0, o 1, o 2, o 3, o 4, o 5, o 6, o 7, o 8, o 9, o 10, o 11, o 12, o 13, o 14, o 15] := rfl
theorem shr_dg {a : Int} (h0 : 0 ≤ a) (k : Nat) (p : Int) (hp : (2 : Int) ^ min k 64 = p) (hp2 : p = 65536 ^ (k / 16)) : (a.fdiv (2 ^ min k 64)).tmod 65536 = dg a (k / 16) := by
  rw [hp]
  have h1 : 0 ≤ p := by rw [hp2]; exact Int.le_of_lt (pw_pos _)
  rw [Int.fdiv_eq_ediv_of_nonneg _ h1, Int.tmod_eq_emod_of_nonneg (Int.ediv_nonneg h0 h1), dg, hp2]
theorem of_list {a : Int} (h0 : 0 ≤ a) (h : a < 18446744073709551616) : Lf (dg a) = [(a.fdiv (2 ^ min 0 64)).tmod 65536, (a.fdiv (2 ^ min 16 64)).tmod 65536, (a.fdiv (2 ^ min 32 64)).tmod 65536, (a.fdiv (2 ^ min 48 64)).tmod 65536, 0, 0, 0, 0, 0, 0, 0, 0, 0, 0, 0, 0] := by
  have e0 := shr_dg h0 0 _ rfl (by decide)
  have e1 := shr_dg h0 16 _ rfl (by decide)
  have e2 := shr_dg h0 32 _ rfl (by decide)
  have e3 := shr_dg h0 48 _ rfl (by decide)
  have hz : ∀ i, 4 ≤ i → dg a i = 0 := fun i hi => dg_high h0 (k := 4) (by simpa using h) hi
  rw [Lf_all, e0, e1, e2, e3, hz 4 (by decide), hz 5 (by decide), hz 6 (by decide), hz 7 (by decide), hz 8 (by decide), hz 9 (by decide), hz 10 (by decide), hz 11 (by decide), hz 12 (by decide), hz 13 (by decide), hz 14 (by decide), hz 15 (by decide)]
set_option maxHeartbeats 4000000 in
set_option maxRecDepth 20000 in
theorem of_pos (a : Int) (h0 : 0 ≤ a) (h : a ≤ 9223372036854775807) : Fun Try.prog 28 [vi a] (bg false (dg a)) := by
  have c0 : ¬ (a < 0) := by omega
  have w1 : IntKind.u64.wrap a = a := by rw [IntKind.wrap_u64]; omega
  unfold bg bc
  rw [of_list h0 (by omega)]
  (refine LCalls.enter Try.func28 rfl (by simp [Try.ntmps28]) (LK.start ?_); simp only [Try.ntmps28, enterA])
  (repeat' first | refine LOps.done ?_ | (apply LOps.mv; (focus (first | exact Goes.free | exact Goes.on rfl rfl (by with_reducible rfl) true (by decide))); (focus (exact rfl)); (focus (exact rfl))) | (apply LOps.asg; (focus (first | exact Goes.free | exact Goes.on rfl rfl (by with_reducible rfl) true (by decide))); (focus (exact rfl)); (focus (exact rfl))) | (apply LOps.loc; (focus (first | exact Goes.free | exact Goes.on rfl rfl (by with_reducible rfl) true (by decide))); (focus (exact rfl)); (focus (exact rfl)); (focus (simp only [go_sem, ↓reduceIte, Nat.reduceEqDiff, reduceCtorEq, Nat.reduceLT, Nat.reduceAdd, Int.reduceEq, Int.reduceLE, Int.reduceLT, Int.reduceToNat, Nat.reduceLeDiff, c0, w1, n16, wrap_small, Int.reduceAdd, Int.reduceMul, Int.reduceToNat, Int.reduceLT, Int.reduceLE, Int.zero_add]; with_reducible rfl))) | (apply LOps.loc0; (focus (first | exact Goes.free | exact Goes.on rfl rfl (by with_reducible rfl) true (by decide))); (focus (exact rfl)); (focus (simp only [go_sem, ↓reduceIte, Nat.reduceEqDiff, reduceCtorEq, Nat.reduceLT, Nat.reduceAdd, Nat.reduceLeDiff]; with_reducible rfl))) | refine LK.seq ?_ | refine LK.skip ?_ | refine LK.block ?_ | refine LK.blk ?_ | refine LK.fin ?_ | refine LK.ret' ?_ | refine LK.exit' rfl ?_ | (apply LK.condT2; (focus (exact rfl)); (focus (with_reducible rfl)); (focus (first | with_reducible rfl | decide | (with_reducible exact Bool.true_or _) | (with_reducible exact congrArg (fun b => b || _) (Bool.true_or _))))) | (apply LK.condF2; (focus (exact rfl)); (focus (with_reducible rfl)); (focus (first | with_reducible rfl | decide | (with_reducible exact Bool.false_and _) | (with_reducible exact congrArg (fun b => b && _) (Bool.false_and _))))) | refine LK.regc ?_ | (apply retQ; (focus (first | exact lres_one rfl | exact lres_more rfl | (simp only [lres, lresv, Try.results28, go_sem, ↓reduceIte, Nat.reduceEqDiff, Nat.reduceAdd]; exact rfl)))) | refine LK.rounds 5 ?_ | fail)
  all_goals rfl
set_option maxHeartbeats 4000000 in
set_option maxRecDepth 20000 in
theorem of_neg (a : Int) (h0 : a < 0) (h : -9223372036854775808 ≤ a) : Fun Try.prog 28 [vi a] (bg true (dg (-a))) := by
  have w1 : IntKind.u64.wrap a = a + 18446744073709551616 := by rw [IntKind.wrap_u64]; omega
  have w2 : IntKind.u64.wrap (0 - (a + 18446744073709551616)) = -a := by rw [IntKind.wrap_u64]; omega
  unfold bg bc
  rw [of_list (by omega) (by omega)]
  (refine LCalls.enter Try.func28 rfl (by simp [Try.ntmps28]) (LK.start ?_); simp only [Try.ntmps28, enterA])
  (repeat' first | refine LOps.done ?_ | (apply LOps.mv; (focus (first | exact Goes.free | exact Goes.on rfl rfl (by with_reducible rfl) true (by decide))); (focus (exact rfl)); (focus (exact rfl))) | (apply LOps.asg; (focus (first | exact Goes.free | exact Goes.on rfl rfl (by with_reducible rfl) true (by decide))); (focus (exact rfl)); (focus (exact rfl))) | (apply LOps.loc; (focus (first | exact Goes.free | exact Goes.on rfl rfl (by with_reducible rfl) true (by decide))); (focus (exact rfl)); (focus (exact rfl)); (focus (simp only [go_sem, ↓reduceIte, Nat.reduceEqDiff, reduceCtorEq, Nat.reduceLT, Nat.reduceAdd, Int.reduceEq, Int.reduceLE, Int.reduceLT, Int.reduceToNat, Nat.reduceLeDiff, h0, w1, w2, n16, wrap_small, Int.reduceAdd, Int.reduceMul, Int.reduceToNat, Int.reduceLT, Int.reduceLE, Int.zero_add]; with_reducible rfl))) | (apply LOps.loc0; (focus (first | exact Goes.free | exact Goes.on rfl rfl (by with_reducible rfl) true (by decide))); (focus (exact rfl)); (focus (simp only [go_sem, ↓reduceIte, Nat.reduceEqDiff, reduceCtorEq, Nat.reduceLT, Nat.reduceAdd, Nat.reduceLeDiff]; with_reducible rfl))) | refine LK.seq ?_ | refine LK.skip ?_ | refine LK.block ?_ | refine LK.blk ?_ | refine LK.fin ?_ | refine LK.ret' ?_ | refine LK.exit' rfl ?_ | (apply LK.condT2; (focus (exact rfl)); (focus (with_reducible rfl)); (focus (first | with_reducible rfl | decide | (with_reducible exact Bool.true_or _) | (with_reducible exact congrArg (fun b => b || _) (Bool.true_or _))))) | (apply LK.condF2; (focus (exact rfl)); (focus (with_reducible rfl)); (focus (first | with_reducible rfl | decide | (with_reducible exact Bool.false_and _) | (with_reducible exact congrArg (fun b => b && _) (Bool.false_and _))))) | refine LK.regc ?_ | (apply retQ; (focus (first | exact lres_one rfl | exact lres_more rfl | (simp only [lres, lresv, Try.results28, go_sem, ↓reduceIte, Nat.reduceEqDiff, Nat.reduceAdd]; exact rfl)))) | refine LK.rounds 5 ?_ | fail)
  all_goals rfl
theorem of_fun (a : Int) (ia : I64 a) : Fun Try.prog 28 [vi a] (bg (decide (a < 0)) (dg (sizeV a))) := by
  unfold sizeV
  by_cases h : a < 0
  · rw [if_pos h, decide_eq_true h]; exact of_neg a h ia.1
  · rw [if_neg h, decide_eq_false h]; exact of_pos a (by omega) ia.2
theorem Lf_inj_zero {n : Int} (h0 : 0 ≤ n) (h : n < 65536 ^ 16) : decide (Lf (dg n) = List.replicate 16 (0 : Int)) = (n == 0) := by
  rw [Bool.eq_iff_iff, decide_eq_true_eq, beq_iff_eq, ← dg_zero_iff h0 h]
  constructor
  · intro q i hi
    have := Lf_get (dg n) hi
    rw [q, List.getElem?_replicate, if_pos hi] at this
    exact (Option.some.inj this).symm
  · intro q
    refine List.ext_getElem? fun i => ?_
    by_cases c : i < 16
    · rw [Lf_get _ c, q i c, List.getElem?_replicate, if_pos c]
    · rw [List.getElem?_eq_none (by rw [Lf_len]; omega), List.getElem?_eq_none (by rw [List.length_replicate]; omega)]
theorem Lf_all_leaf (o : Nat → Int) : ((Lf o).map vu).all (·.leaf) = true := by rw [Lf_all]; rfl
theorem Lf_take (o : Nat → Int) : ((Lf o).map vu).take 16 = (Lf o).map vu := List.take_of_length_le (by rw [List.length_map, Lf_len]; exact Nat.le_refl _)
theorem Lf_mlen (o : Nat → Int) : ((Lf o).map vu).length = 16 := by rw [List.length_map, Lf_len]
theorem zero_fun (m : Bool) (n : Int) (h0 : 0 ≤ n) (h : n < 65536 ^ 16) : Fun Try.prog 39 [bg m (dg n)] (vb (n == 0)) := by
  have hl := Lf_all_leaf (dg n)
  simp only [go_sem] at hl
  have ht := Lf_take (dg n)
  have hn := Lf_mlen (dg n)
  rw [← Lf_inj_zero h0 h]
  (refine LCalls.enter Try.func39 rfl (by simp [Try.ntmps39]) (LK.start ?_); simp only [Try.ntmps39, enterA])
  (repeat' first | refine LOps.done ?_ | (apply LOps.loc; (focus (first | exact Goes.free | exact Goes.on rfl rfl (by with_reducible rfl) true (by decide))); (focus (exact rfl)); (focus (exact rfl)); (focus (simp only [go_sem, ↓reduceIte, Nat.reduceEqDiff, Nat.reduceLT, Nat.reduceAdd, hl, ht, hn]; with_reducible rfl))) | refine LK.seq ?_ | refine LK.regc ?_ | fail)
  refine LOps.arrEq (m := 16) (e := 35) (xs := Lf (dg n)) (ys := List.replicate 16 0) rfl (by first | rfl | (simp only [go_sem, ↓reduceIte, Nat.reduceEqDiff, reduceCtorEq, Nat.reduceLT, Nat.reduceAdd, Int.reduceBEq, Int.reduceBNe, Int.reduceEq, Int.reduceLE, Int.reduceLT, Int.reduceToNat, Nat.reduceLeDiff, Nat.reduceMul, Nat.reduceSub]; exact rfl)) (by first | rfl | (simp only [go_sem, ↓reduceIte, Nat.reduceEqDiff, reduceCtorEq, Nat.reduceLT, Nat.reduceAdd, Int.reduceBEq, Int.reduceBNe, Int.reduceEq, Int.reduceLE, Int.reduceLT, Int.reduceToNat, Nat.reduceLeDiff, Nat.reduceMul, Nat.reduceSub]; exact rfl)) (by kernel_rfl) (by kernel_rfl) (by kernel_rfl) (by kernel_rfl) (by simp only [go_sem, ↓reduceIte, Nat.reduceEqDiff]; exact rfl) (by simp only [go_sem, ↓reduceIte]; exact rfl) (Lf_len _) rfl ?_
  (repeat' first | refine LOps.done ?_ | (apply LOps.asg; (focus (first | exact Goes.free | exact Goes.on rfl rfl (by with_reducible rfl) true (by decide))); (focus (exact rfl)); (focus (exact rfl))) | refine LK.ret' ?_ | (apply retQ; (focus (first | exact lres_one rfl | exact lres_more rfl | (simp only [lres, lresv, Try.results39, go_sem, ↓reduceIte, Nat.reduceEqDiff, reduceCtorEq, Nat.reduceLT, Nat.reduceAdd, Int.reduceBEq, Int.reduceBNe, Int.reduceEq, Int.reduceLE, Int.reduceLT, Int.reduceToNat, Nat.reduceLeDiff, Nat.reduceMul, Nat.reduceSub]; exact rfl)))) | fail)
  all_goals rfl
set_option maxHeartbeats 4000000 in
set_option maxRecDepth 20000 in
theorem neg_fun (m : Bool) (n : Int) (h0 : 0 ≤ n) (h : n < 65536 ^ 16) : Fun Try.prog 29 [bg m (dg n)] (bg (if n = 0 then m else !m) (dg n)) := by
  have hz := zero_fun m n h0 h
  have hl := Lf_all_leaf (dg n)
  simp only [go_sem] at hl
  have ht := Lf_take (dg n)
  have hn := Lf_mlen (dg n)
  by_cases e : n = 0
  · have e1 : (n == 0) = true := by simpa using e
    rw [e1] at hz
    rw [if_pos e]
    (refine LCalls.enter Try.func29 rfl (by simp [Try.ntmps29]) (LK.start ?_); simp only [Try.ntmps29, enterA])
    (repeat' first | refine LOps.done ?_ | (apply LOps.loc; (focus (first | exact Goes.free | exact Goes.on rfl rfl (by with_reducible rfl) true (by decide))); (focus (exact rfl)); (focus (exact rfl)); (focus (simp only [go_sem, ↓reduceIte, reduceCtorEq, Nat.reduceLT, Nat.reduceAdd, hl, ht, hn]; with_reducible rfl))) | (apply LOps.loc0; (focus (first | exact Goes.free | exact Goes.on rfl rfl (by with_reducible rfl) true (by decide))); (focus (exact rfl)); (focus (simp only [go_sem, ↓reduceIte, Nat.reduceEqDiff, reduceCtorEq, Nat.reduceLT, Nat.reduceAdd, hl, hn]; with_reducible rfl))) | refine LK.seq ?_ | refine LK.skip ?_ | refine LK.ret' ?_ | (apply LK.condF2; (focus (exact rfl)); (focus (with_reducible rfl)); (focus (first | with_reducible rfl | decide | (with_reducible exact Bool.false_and _) | (with_reducible exact congrArg (fun b => b && _) (Bool.false_and _))))) | refine LK.regc ?_ | (apply retQ; (focus (first | exact lres_one rfl | exact lres_more rfl | (simp only [lres, lresv, Try.results29, go_sem, ↓reduceIte, Nat.reduceEqDiff, reduceCtorEq, Nat.reduceAdd, ht, hn]; exact rfl)))) | (apply LOps.locFn; (focus (first | exact Goes.free | exact Goes.on rfl rfl (by with_reducible rfl) true (by decide))); (focus (exact rfl)); (focus (exact rfl)); (focus (simp only [go_sem, ↓reduceIte]; exact rfl)); (focus (simp only [go_sem])); (focus (exact hz)); (focus (first | rfl | simp [go_sem])); (focus (first | rfl | simp [go_sem]))) | fail)
    all_goals rfl
  · have e1 : (n == 0) = false := by simpa using e
    rw [e1] at hz
    rw [if_neg e]
    (refine LCalls.enter Try.func29 rfl (by simp [Try.ntmps29]) (LK.start ?_); simp only [Try.ntmps29, enterA])
    (repeat' first | refine LOps.done ?_ | (apply LOps.loc; (focus (first | exact Goes.free | exact Goes.on rfl rfl (by with_reducible rfl) true (by decide))); (focus (exact rfl)); (focus (exact rfl)); (focus (simp only [go_sem, ↓reduceIte, reduceCtorEq, Nat.reduceLT, Nat.reduceAdd, hl, ht, hn]; with_reducible rfl))) | (apply LOps.loc0; (focus (first | exact Goes.free | exact Goes.on rfl rfl (by with_reducible rfl) true (by decide))); (focus (exact rfl)); (focus (simp only [go_sem, ↓reduceIte, Nat.reduceEqDiff, reduceCtorEq, Nat.reduceLT, Nat.reduceAdd, Nat.reduceLeDiff, hl, hn]; with_reducible rfl))) | refine LK.seq ?_ | refine LK.ret' ?_ | (apply LK.condT2; (focus (exact rfl)); (focus (with_reducible rfl)); (focus (first | with_reducible rfl | decide | (with_reducible exact Bool.true_or _) | (with_reducible exact congrArg (fun b => b || _) (Bool.true_or _))))) | refine LK.regc ?_ | (apply retQ; (focus (first | exact lres_one rfl | exact lres_more rfl | (simp only [lres, lresv, Try.results29, go_sem, ↓reduceIte, Nat.reduceEqDiff, reduceCtorEq, Nat.reduceAdd, ht, hn]; exact rfl)))) | (apply LOps.locFn; (focus (first | exact Goes.free | exact Goes.on rfl rfl (by with_reducible rfl) true (by decide))); (focus (exact rfl)); (focus (exact rfl)); (focus (simp only [go_sem, ↓reduceIte]; exact rfl)); (focus (simp only [go_sem])); (focus (exact hz)); (focus (first | rfl | simp [go_sem])); (focus (first | rfl | simp [go_sem]))) | fail)
    all_goals rfl
end Go.Proofs.Ytffchlfnnilbiaa
