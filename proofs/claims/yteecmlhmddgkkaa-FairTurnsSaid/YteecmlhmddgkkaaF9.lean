/- Chapter 15: FairTurns. -/
import Derived.Test.YteecmlhmddgkkaaF8
set_option linter.unusedSimpArgs false
set_option linter.unusedVariables false
namespace Go.Proofs.Yteecmlhmddgkkaa
open Go.Lw
attribute [local irreducible] LK LOps LW
abbrev v8 (a : Int) : LV := .pv (.sc (.int .u8 a))
abbrev tw (a b s t : Int) : List Ten := [⟨a, 1, 0, s, 0⟩, ⟨b, 1, 0, t, 0⟩]
theorem tw_ok {a b s t : Int} (ha : 1 ≤ a ∧ a ≤ 16) (hb : 1 ≤ b ∧ b ≤ 16) (hs : 0 ≤ s ∧ s ≤ 1152921504606846976) (ht : 0 ≤ t ∧ t ≤ 1152921504606846976) : chk (tw a b s t) = 0 := by
  refine chk_zero (by simp) (by simp) fun x hx => ?_
  simp only [List.mem_cons, List.not_mem_nil, or_false] at hx
  rcases hx with rfl | rfl <;> (simp only [oddT, Bool.or_eq_false_iff, Bool.not_eq_false', win_iff]; omega)
theorem tw_new {a b : Int} (ha : 1 ≤ a ∧ a ≤ 16) (hb : 1 ≤ b ∧ b ≤ 16) : Fun Try.prog 9 [sI [a, b], sI [1, 1]] (.tup [sT (tw a b 0 0), vi 0]) := by
  have h := new_fun [a, b] [1, 1] (by simp) (by simp)
  have e0 : newT [a, b] [1, 1] = tw a b 0 0 := rfl
  have e : nwE [a, b] [1, 1] = 0 := by
    rw [nwE, if_neg (by simp), e0, tw_ok ha hb (by omega) (by omega)]
  rwa [nwL, e, if_pos rfl, e0] at h
theorem tw_least {a b s t : Int} (h : chk (tw a b s t) = 0) : Fun Try.prog 10 [sT (tw a b s t), sB [true, true]] (.tup [vi (if t < s then 1 else 0), vi 0]) := by
  have hf := least_fun (tw a b s t) [true, true] (by simp) (by simp)
  have e : lsE (tw a b s t) [true, true] = 0 := by rw [lsE, h, if_neg (by simp), if_pos (by simp)]
  have e2 : lsV (tw a b s t) [true, true] = if t < s then 1 else 0 := by
    rw [lsV, e, if_pos rfl]
    have : lsI [true, true] = 0 := rfl
    rw [this]
    simp only [List.length_cons, List.length_nil, lsTo]
    by_cases ht : t < s
    · simp [ht]
    · simp [ht]
  rwa [e, e2] at hf
theorem tw_one {a b s t : Int} (ha : 1 ≤ a ∧ a ≤ 16) (h : chk (tw a b s t) = 0) (hs : s + 720720 / a ≤ 1152921504606846976) : Fun Try.prog 11 [sT (tw a b s t), vi 0, vi 1] (.tup [sT (tw a b (s + 720720 / a) t), vi 0]) := by
  have hf := charge_fun (tw a b s t) ((0 : Nat) : Int) 1 (by simp) (by decide)
  obtain ⟨s1, s2, s3, s4⟩ := co_small (w := a) (u := 1) ha (by decide)
  obtain ⟨d1, d2⟩ := ch_at (n := 0) (u := 1) h rfl s1
  simp only [s2, Int.one_mul] at d1 d2
  rw [if_neg (by omega)] at d1 d2
  rw [d1, d2] at hf
  exact hf
theorem tw_two {a b s t : Int} (hb : 1 ≤ b ∧ b ≤ 16) (h : chk (tw a b s t) = 0) (ht : t + 720720 / b ≤ 1152921504606846976) : Fun Try.prog 11 [sT (tw a b s t), vi 1, vi 1] (.tup [sT (tw a b s (t + 720720 / b)), vi 0]) := by
  have hf := charge_fun (tw a b s t) ((1 : Nat) : Int) 1 (by simp) (by decide)
  obtain ⟨s1, s2, s3, s4⟩ := co_small (w := b) (u := 1) hb (by decide)
  obtain ⟨d1, d2⟩ := ch_at (n := 1) (u := 1) h rfl s1
  simp only [s2, Int.one_mul] at d1 d2
  rw [if_neg (by omega)] at d1 d2
  rw [d1, d2] at hf
  exact hf
theorem some16 {a : Int} (h : 1 ≤ a ∧ a ≤ 16) : a = 1 ∨ a = 2 ∨ a = 3 ∨ a = 4 ∨ a = 5 ∨ a = 6 ∨ a = 7 ∨ a = 8 ∨ a = 9 ∨ a = 10 ∨ a = 11 ∨ a = 12 ∨ a = 13 ∨ a = 14 ∨ a = 15 ∨ a = 16 := by omega
theorem div16 {a : Int} (h : 1 ≤ a ∧ a ≤ 16) : 720720 / a * a = 720720 := by
  rcases some16 h with rfl | rfl | rfl | rfl | rfl | rfl | rfl | rfl | rfl | rfl | rfl | rfl | rfl | rfl | rfl | rfl <;> decide
theorem wrap_mul {p q : Int} (hp : -1 ≤ p ∧ p ≤ 300) (h : 1 ≤ q ∧ q ≤ 16) : IntKind.i64.wrap (p * q) = p * q := by
  rcases some16 h with rfl | rfl | rfl | rfl | rfl | rfl | rfl | rfl | rfl | rfl | rfl | rfl | rfl | rfl | rfl | rfl <;> (rw [IntKind.wrap_i64]; omega)
theorem cross {a b x y : Int} (ha : 1 ≤ a ∧ a ≤ 16) (hb : 1 ≤ b ∧ b ≤ 16) : x * (720720 / a) ≤ y * (720720 / b) ↔ x * b ≤ y * a := by
  have h1 := div16 ha
  have h2 := div16 hb
  generalize 720720 / a = c at *
  generalize 720720 / b = d at *
  have e1 : x * c * (a * b) = x * b * 720720 := by rw [← h1]; ac_rfl
  have e2 : y * d * (a * b) = y * a * 720720 := by rw [← h2]; ac_rfl
  have hab : 0 < a * b := Int.mul_pos (by omega) (by omega)
  constructor
  · intro h
    have := Int.mul_le_mul_of_nonneg_right h (Int.le_of_lt hab)
    rw [e1, e2] at this
    omega
  · intro h
    have : x * c * (a * b) ≤ y * d * (a * b) := by rw [e1, e2]; omega
    exact Int.le_of_mul_le_mul_right this hab
theorem tag_le {x : Nat} {a : Int} (ha : 1 ≤ a ∧ a ≤ 16) (hx : x ≤ 300) : 0 ≤ (x : Int) * (720720 / a) ∧ (x : Int) * (720720 / a) ≤ 300 * 720720 := by
  obtain ⟨_, q2, q3⟩ := quo_w (w := a) (by omega)
  exact ⟨Int.mul_nonneg (by omega) (by omega), Int.mul_le_mul (by omega) q3 (by omega) (by omega)⟩
structure Tn where
  k : Nat
  x : Nat
  y : Nat
set_option maxHeartbeats 4000000 in
set_option maxRecDepth 10000 in
theorem turns_skip (a b t : Int) (h : a < 1 ∨ 16 < a ∨ b < 1 ∨ 16 < b) : Fun Try.prog 3 [vi a, vi b, v8 t] (vb true) := by
  have hc : (decide (a < 1) || decide (a > 16) || decide (b < 1) || decide (b > 16)) = true := by simp only [Bool.or_eq_true, decide_eq_true_eq]; omega
  (refine LCalls.enter Try.func3 rfl (by simp [Try.ntmps3]) (LK.start ?_); simp only [Try.ntmps3, enterA, Nat.zero_add])
  (repeat' first | refine LOps.done ?_ | (apply LOps.mv; (focus (first | exact Goes.free | exact Goes.on rfl rfl (by with_reducible rfl) true (by decide))); (focus (exact rfl)); (focus (exact rfl))) | (apply LOps.asg; (focus (first | exact Goes.free | exact Goes.on rfl rfl (by with_reducible rfl) true (by decide))); (focus (exact rfl)); (focus (exact rfl))) | (apply LOps.loc; (focus (first | exact Goes.free | exact Goes.on rfl rfl (by with_reducible rfl) true (by decide))); (focus (exact rfl)); (focus (exact rfl)); (focus (simp only [go_sem, ↓reduceIte, Nat.reduceEqDiff, reduceCtorEq]; with_reducible rfl))) | (apply LOps.pass; (focus (first | exact Goes.on rfl rfl (by with_reducible rfl) false (by decide) | exact Goes.undef rfl rfl (by with_reducible rfl))); (focus (exact rfl))) | (apply LOps.scEnd; (focus (exact rfl)); (focus (with_reducible rfl))) | refine LK.seq ?_ | refine LK.skip ?_ | (apply LK.condF2; (focus (exact rfl)); (focus (with_reducible rfl)); (focus (first | with_reducible rfl | decide | (with_reducible exact Bool.false_and _) | (with_reducible exact congrArg (fun b => b && _) (Bool.false_and _))))) | refine LK.regc ?_ | (apply LOps.locFn; (focus (first | exact Goes.free | exact Goes.on rfl rfl (by with_reducible rfl) true (by decide))); (focus (exact rfl)); (focus (exact rfl)); (focus (simp only [go_sem]; exact rfl)); (focus (simp only [go_sem])); (focus (exact live_fun)); (focus (first | rfl | simp [go_sem])); (focus (first | rfl | simp [go_sem]))) | (apply LOps.or2; exact rfl; exact rfl; exact rfl; exact rfl; exact rfl; (focus (with_reducible rfl)); (focus (first | kernel_rfl | rfl))) | refine Under.mk (fun hg => ?_) | fail)
  refine LK.condT2 rfl (by first | with_reducible rfl | rfl) (hc) ?_
  (repeat' first | refine LOps.done ?_ | (apply LOps.mv; (focus (first | exact Goes.free | exact Goes.on rfl rfl (by with_reducible rfl) true (by decide))); (focus (exact rfl)); (focus (exact rfl))) | (apply LOps.asg; (focus (first | exact Goes.free | exact Goes.on rfl rfl (by with_reducible rfl) true (by decide))); (focus (exact rfl)); (focus (exact rfl))) | refine LK.seq ?_ | refine LK.ret' ?_ | refine LK.regc ?_ | (apply retQ; (focus (first | exact lres_one rfl | exact lres_more rfl | (simp only [lres, lresv, Try.results3, go_sem, ↓reduceIte, Nat.reduceEqDiff, reduceCtorEq, Nat.reduceLT, Nat.reduceAdd, Int.reduceBEq, Int.reduceBNe, Int.reduceEq, Int.reduceLE, Int.reduceLT, Int.reduceToNat, Nat.reduceLeDiff, Nat.reduceMul, Nat.reduceSub]; exact rfl)))) | fail)
  all_goals rfl
set_option maxHeartbeats 4000000 in
set_option maxRecDepth 20000 in
theorem turns_ok (a b : Int) (T : Nat) (ha : 1 ≤ a ∧ a ≤ 16) (hb : 1 ≤ b ∧ b ≤ 16) (hT : T ≤ 255) : Fun Try.prog 3 [vi a, vi b, v8 T] (vb true) := by
  have hc : (decide (a < 1) || decide (a > 16) || decide (b < 1) || decide (b > 16)) = false := by simp only [Bool.or_eq_false_iff, decide_eq_false_iff_not]; omega
  have hn := tw_new ha hb
  (refine LCalls.enter Try.func3 rfl (by simp [Try.ntmps3]) (LK.start ?_); simp only [Try.ntmps3, enterA, Nat.zero_add])
  (repeat' first | refine LOps.done ?_ | (apply LOps.mv; (focus (first | exact Goes.free | exact Goes.on rfl rfl (by with_reducible rfl) true (by decide))); (focus (exact rfl)); (focus (exact rfl))) | (apply LOps.asg; (focus (first | exact Goes.free | exact Goes.on rfl rfl (by with_reducible rfl) true (by decide))); (focus (exact rfl)); (focus (exact rfl))) | (apply LOps.loc; (focus (first | exact Goes.free | exact Goes.on rfl rfl (by with_reducible rfl) true (by decide))); (focus (exact rfl)); (focus (exact rfl)); (focus (simp only [go_sem, ↓reduceIte, Nat.reduceEqDiff, reduceCtorEq]; with_reducible rfl))) | (apply LOps.pass; (focus (first | exact Goes.on rfl rfl (by with_reducible rfl) false (by decide) | exact Goes.undef rfl rfl (by with_reducible rfl))); (focus (exact rfl))) | (apply LOps.scEnd; (focus (exact rfl)); (focus (with_reducible rfl))) | refine LK.seq ?_ | refine LK.skip ?_ | (apply LK.condF2; (focus (exact rfl)); (focus (with_reducible rfl)); (focus (first | with_reducible rfl | decide | (with_reducible exact Bool.false_and _) | (with_reducible exact congrArg (fun b => b && _) (Bool.false_and _))))) | refine LK.regc ?_ | (apply LOps.locFn; (focus (first | exact Goes.free | exact Goes.on rfl rfl (by with_reducible rfl) true (by decide))); (focus (exact rfl)); (focus (exact rfl)); (focus (simp only [go_sem]; exact rfl)); (focus (simp only [go_sem])); (focus (exact live_fun)); (focus (first | rfl | simp [go_sem])); (focus (first | rfl | simp [go_sem]))) | (apply LOps.or2; exact rfl; exact rfl; exact rfl; exact rfl; exact rfl; (focus (with_reducible rfl)); (focus (first | kernel_rfl | rfl))) | refine Under.mk (fun hg => ?_) | fail)
  refine LK.condF2 rfl (by first | with_reducible rfl | rfl) (hc) ?_
  (repeat' first | refine LOps.done ?_ | (apply LOps.mv; (focus (first | exact Goes.free | exact Goes.on rfl rfl (by with_reducible rfl) true (by decide))); (focus (exact rfl)); (focus (exact rfl))) | (apply LOps.asg; (focus (first | exact Goes.free | exact Goes.on rfl rfl (by with_reducible rfl) true (by decide))); (focus (exact rfl)); (focus (exact rfl))) | (apply LOps.ext; (focus (first | exact Goes.free | exact Goes.on rfl rfl (by with_reducible rfl) true (by decide))); (focus (exact rfl)); (focus (exact rfl)); (focus (exact rfl))) | (apply LOps.loc; (focus (first | exact Goes.free | exact Goes.on rfl rfl (by with_reducible rfl) true (by decide))); (focus (exact rfl)); (focus (exact rfl)); (focus (simp only [go_sem, ↓reduceIte, Nat.reduceEqDiff, reduceCtorEq, Nat.reduceLT, Nat.reduceAdd, Int.reduceBNe, Nat.reduceLeDiff]; with_reducible rfl))) | refine LK.seq ?_ | refine LK.skip ?_ | refine LK.block ?_ | (apply LK.condF2; (focus (exact rfl)); (focus (with_reducible rfl)); (focus (first | with_reducible rfl | decide | (with_reducible exact Bool.false_and _) | (with_reducible exact congrArg (fun b => b && _) (Bool.false_and _))))) | refine LK.regc ?_ | ((apply LOps.thaw; (focus (exact rfl)); (focus (exact rfl)); (focus (exact rfl)); (focus (exact rfl)); (focus (simp only [go_sem, ↓reduceIte, Nat.reduceAdd]; exact rfl)); (focus (simp only [go_sem, ↓reduceIte, reduceCtorEq]; exact rfl))); (apply LOps.thaw; (focus (exact rfl)); (focus (exact rfl)); (focus (exact rfl)); (focus (exact rfl)); (focus (simp only [go_sem, ↓reduceIte, Nat.reduceAdd]; exact rfl)); (focus (simp only [go_sem, ↓reduceIte]; exact rfl))); (apply LOps.locFn; (focus (first | exact Goes.free | exact Goes.on rfl rfl (by with_reducible rfl) true (by decide))); (focus (exact rfl)); (focus (exact rfl)); (focus (simp only [go_sem, ↓reduceIte, Nat.reduceEqDiff]; exact rfl)); (focus (simp only [go_sem])); (focus (exact hn)); (focus (first | rfl | simp [go_sem])); (focus (first | rfl | simp [go_sem])))) | fail)
  refine LK.loop (fun s : Tn => T - s.k) (fun s => s.k ≤ T ∧ s.x + s.y = s.k ∧ ((s.x : Int) - 1) * b ≤ s.y * a ∧ ((s.y : Int) - 1) * a ≤ s.x * b) (fun s => ⟨100, [(0, vi a), (1, vi b), (2, v8 T), (7, vb true), (8, sT (tw a b (s.x * (720720 / a)) (s.y * (720720 / b)))), (10, vi s.x), (11, vi s.y), (44, v8 T), (45, v8 s.k)]⟩) (fun _ => []) ⟨0, 0, 0⟩ ⟨Nat.zero_le _, rfl, by simp; omega, by simp; omega⟩ (by dsimp only; rw [show ((0 : Nat) : Int) = 0 from rfl, Int.zero_mul, Int.zero_mul]; exact (Sub.by rfl rfl (by first | rfl | (simp only [subB, MB_all_under, MI_all_under, MB_all_idp, MI_all_idp, oF_under, oF_idp, oF_all_under, oF_all_idp, MB_under, MI_under, MB_idp, MI_idp, evOk, ovOk, nvOk, keepOf, vis, LV.under, LV.unders, LV.idp, LV.idps, LO.under, LO.idp, under_pv, idp_pv, List.all_cons, List.all_nil, List.any_cons, List.any_nil, Nat.reduceBEq, beq_self_eq_true, Bool.and_true, Bool.true_and, Bool.or_true, Bool.true_or, Bool.or_false, Bool.false_or, decide_true, decide_false, Nat.reduceLT, Nat.reduceLeDiff, Nat.le_refl, Nat.reduceAdd, Bool.and_self, Bool.or_self]; done)))) ?_
  rintro ⟨k, x, y⟩ ⟨hk, hxy, p1, p2⟩ J hJ
  dsimp only at hk hxy p1 p2 hJ ⊢
  obtain ⟨s1, s2⟩ := tag_le (x := x) ha (by omega)
  obtain ⟨t1, t2⟩ := tag_le (x := y) hb (by omega)
  obtain ⟨_, qa1, qa2⟩ := quo_w (w := a) (by omega)
  obtain ⟨_, qb1, qb2⟩ := quo_w (w := b) (by omega)
  rcases Nat.lt_or_ge k T with hlt | hge
  · have i1 : ((k : Int) < (T : Int)) := by omega
    have hw : IntKind.u8.wrap ((k : Int) + 1) = ((k + 1 : Nat) : Int) := by simp only [IntKind.wrap_u8]; omega
    have hok := tw_ok ha hb ⟨s1, by omega⟩ ⟨t1, by omega⟩
    have hL := tw_least hok
    by_cases hlt2 : (y : Int) * (720720 / b) < x * (720720 / a)
    · rw [if_pos hlt2] at hL
      have hC := tw_two hb hok (by omega)
      have hxb : (y : Int) * a ≤ x * b := by
        rcases Int.le_total ((y : Int) * a) (x * b) with h | h
        · exact h
        · have := (cross ha hb).2 h; omega
      have e : (y : Int) * (720720 / b) + 720720 / b = ((y + 1 : Nat) : Int) * (720720 / b) := by rw [Int.natCast_add, Int.add_mul]; simp
      have e2 : ((y + 1 : Nat) : Int) * a = y * a + a := by rw [Int.natCast_add, Int.add_mul]; simp
      rw [e] at hC
      have w0 := wrapn (n := y) (by omega)
      have w1 : IntKind.i64.wrap ((x : Int) - 1) = (x : Int) - 1 := by rw [IntKind.wrap_i64]; omega
      have w2 : IntKind.i64.wrap (((x : Int) - 1) * b) = ((x : Int) - 1) * b := wrap_mul (by omega) hb
      have w3 : IntKind.i64.wrap (((y + 1 : Nat) : Int) * a) = ((y + 1 : Nat) : Int) * a := wrap_mul (by omega) ha
      have c1 : ¬ (((x : Int) - 1) * b > ((y + 1 : Nat) : Int) * a) := by omega
      have w4 : IntKind.i64.wrap (((y + 1 : Nat) : Int) - 1) = (y : Int) := by rw [IntKind.wrap_i64]; omega
      have w5 : IntKind.i64.wrap ((y : Int) * a) = (y : Int) * a := wrap_mul (by omega) ha
      have w6 : IntKind.i64.wrap ((x : Int) * b) = (x : Int) * b := wrap_mul (by omega) hb
      have c2 : ¬ ((y : Int) * a > (x : Int) * b) := by omega
      (repeat' first | refine LOps.done ?_ | (apply LOps.mv; (focus (first | exact Goes.free | exact Goes.on rfl rfl (by with_reducible rfl) true (by decide))); (focus (exact rfl)); (focus (exact rfl))) | (apply LOps.asg; (focus (first | exact Goes.free | exact Goes.on rfl rfl (by with_reducible rfl) true (by decide))); (focus (exact rfl)); (focus (exact rfl))) | (apply LOps.ext; (focus (first | exact Goes.free | exact Goes.on rfl rfl (by with_reducible rfl) true (by decide))); (focus (exact rfl)); (focus (exact rfl)); (focus (exact rfl))) | (apply LOps.loc; (focus (first | exact Goes.free | exact Goes.on rfl rfl (by with_reducible rfl) true (by decide))); (focus (exact rfl)); (focus (exact rfl)); (focus (simp only [go_sem, ↓reduceIte, Nat.reduceEqDiff, reduceCtorEq, Nat.reduceLT, Nat.reduceAdd, Int.reduceBEq, Int.reduceBNe, Nat.reduceLeDiff, i1, hw, w0, w1, w2, w3, w4, w5, w6, c1, c2]; with_reducible rfl))) | refine LK.seq ?_ | refine LK.skip ?_ | refine LK.block ?_ | refine LK.blk ?_ | refine LK.fin ?_ | (apply LK.condT2; (focus (exact rfl)); (focus (with_reducible rfl)); (focus (first | with_reducible rfl | decide | (with_reducible exact Bool.true_or _) | (with_reducible exact congrArg (fun b => b || _) (Bool.true_or _))))) | (apply LK.condF2; (focus (exact rfl)); (focus (with_reducible rfl)); (focus (first | with_reducible rfl | decide | (with_reducible exact Bool.false_and _) | (with_reducible exact congrArg (fun b => b && _) (Bool.false_and _))))) | refine LK.regc ?_ | (apply LOps.locFn; (focus (first | exact Goes.free | exact Goes.on rfl rfl (by with_reducible rfl) true (by decide))); (focus (exact rfl)); (focus (exact rfl)); (focus (simp only [go_sem, ↓reduceIte, Nat.reduceEqDiff]; exact rfl)); (focus (simp only [go_sem])); (focus (first | exact hL | exact hC)); (focus (first | rfl | simp [go_sem])); (focus (first | rfl | simp [go_sem]))) | (apply LOps.borrowFn; (focus (first | exact Goes.free | exact Goes.on rfl rfl (by with_reducible rfl) true (by decide))); (focus (exact rfl)); (focus (exact rfl)); (focus (simp only [go_sem, ↓reduceIte, Nat.reduceEqDiff]; exact rfl)); (focus (simp only [go_sem])); (focus (simp only [go_sem, ↓reduceIte, Nat.reduceAdd]; exact rfl)); (focus (first | exact hL | exact hC)); (focus (first | rfl | simp [go_sem])); (focus (exact rfl))) | fail)
      apply hJ
      refine ⟨⟨k + 1, x, y + 1⟩, ⟨hlt, by dsimp only; omega, by dsimp only; omega, ?_⟩, by dsimp only; omega, (Sub.by rfl rfl (by first | rfl | (simp only [subB, MB_all_under, MI_all_under, MB_all_idp, MI_all_idp, oF_under, oF_idp, oF_all_under, oF_all_idp, MB_under, MI_under, MB_idp, MI_idp, evOk, ovOk, nvOk, keepOf, vis, LV.under, LV.unders, LV.idp, LV.idps, LO.under, LO.idp, under_pv, idp_pv, List.all_cons, List.all_nil, List.any_cons, List.any_nil, Nat.reduceBEq, beq_self_eq_true, Bool.and_true, Bool.true_and, Bool.or_true, Bool.true_or, Bool.or_false, Bool.false_or, decide_true, decide_false, Nat.reduceLT, Nat.reduceLeDiff, Nat.le_refl, Nat.reduceAdd, Bool.and_self, Bool.or_self]; done)))⟩
      dsimp only
      rw [show (((y + 1 : Nat) : Int) - 1) = (y : Int) by omega]
      exact hxb
    · rw [if_neg hlt2] at hL
      have hC := tw_one ha hok (by omega)
      have hxb : (x : Int) * b ≤ y * a := (cross ha hb).1 (by omega)
      have e : (x : Int) * (720720 / a) + 720720 / a = ((x + 1 : Nat) : Int) * (720720 / a) := by rw [Int.natCast_add, Int.add_mul]; simp
      have e2 : ((x + 1 : Nat) : Int) * b = x * b + b := by rw [Int.natCast_add, Int.add_mul]; simp
      rw [e] at hC
      have w0 := wrapn (n := x) (by omega)
      have w1 : IntKind.i64.wrap (((x + 1 : Nat) : Int) - 1) = (x : Int) := by rw [IntKind.wrap_i64]; omega
      have w2 : IntKind.i64.wrap ((x : Int) * b) = (x : Int) * b := wrap_mul (by omega) hb
      have w3 : IntKind.i64.wrap ((y : Int) * a) = (y : Int) * a := wrap_mul (by omega) ha
      have c1 : ¬ ((x : Int) * b > (y : Int) * a) := by omega
      have w4 : IntKind.i64.wrap ((y : Int) - 1) = (y : Int) - 1 := by rw [IntKind.wrap_i64]; omega
      have w5 : IntKind.i64.wrap (((y : Int) - 1) * a) = ((y : Int) - 1) * a := wrap_mul (by omega) ha
      have w6 : IntKind.i64.wrap (((x + 1 : Nat) : Int) * b) = ((x + 1 : Nat) : Int) * b := wrap_mul (by omega) hb
      have c2 : ¬ (((y : Int) - 1) * a > ((x + 1 : Nat) : Int) * b) := by omega
      (repeat' first | refine LOps.done ?_ | (apply LOps.mv; (focus (first | exact Goes.free | exact Goes.on rfl rfl (by with_reducible rfl) true (by decide))); (focus (exact rfl)); (focus (exact rfl))) | (apply LOps.asg; (focus (first | exact Goes.free | exact Goes.on rfl rfl (by with_reducible rfl) true (by decide))); (focus (exact rfl)); (focus (exact rfl))) | (apply LOps.ext; (focus (first | exact Goes.free | exact Goes.on rfl rfl (by with_reducible rfl) true (by decide))); (focus (exact rfl)); (focus (exact rfl)); (focus (exact rfl))) | (apply LOps.loc; (focus (first | exact Goes.free | exact Goes.on rfl rfl (by with_reducible rfl) true (by decide))); (focus (exact rfl)); (focus (exact rfl)); (focus (simp only [go_sem, ↓reduceIte, Nat.reduceEqDiff, reduceCtorEq, Nat.reduceLT, Nat.reduceAdd, Int.reduceBNe, Nat.reduceLeDiff, i1, hw, w0, w1, w2, w3, w4, w5, w6, c1, c2]; with_reducible rfl))) | refine LK.seq ?_ | refine LK.skip ?_ | refine LK.block ?_ | refine LK.blk ?_ | refine LK.fin ?_ | (apply LK.condT2; (focus (exact rfl)); (focus (with_reducible rfl)); (focus (first | with_reducible rfl | decide | (with_reducible exact Bool.true_or _) | (with_reducible exact congrArg (fun b => b || _) (Bool.true_or _))))) | (apply LK.condF2; (focus (exact rfl)); (focus (with_reducible rfl)); (focus (first | with_reducible rfl | decide | (with_reducible exact Bool.false_and _) | (with_reducible exact congrArg (fun b => b && _) (Bool.false_and _))))) | refine LK.regc ?_ | (apply LOps.locFn; (focus (first | exact Goes.free | exact Goes.on rfl rfl (by with_reducible rfl) true (by decide))); (focus (exact rfl)); (focus (exact rfl)); (focus (simp only [go_sem, ↓reduceIte, Nat.reduceEqDiff]; exact rfl)); (focus (simp only [go_sem])); (focus (first | exact hL | exact hC)); (focus (first | rfl | simp [go_sem])); (focus (first | rfl | simp [go_sem]))) | (apply LOps.borrowFn; (focus (first | exact Goes.free | exact Goes.on rfl rfl (by with_reducible rfl) true (by decide))); (focus (exact rfl)); (focus (exact rfl)); (focus (simp only [go_sem, ↓reduceIte, Nat.reduceEqDiff]; exact rfl)); (focus (simp only [go_sem])); (focus (simp only [go_sem, ↓reduceIte, Nat.reduceAdd]; exact rfl)); (focus (first | exact hL | exact hC)); (focus (first | rfl | simp [go_sem])); (focus (exact rfl))) | fail)
      apply hJ
      refine ⟨⟨k + 1, x + 1, y⟩, ⟨hlt, by dsimp only; omega, ?_, by dsimp only; omega⟩, by dsimp only; omega, (Sub.by rfl rfl (by first | rfl | (simp only [subB, MB_all_under, MI_all_under, MB_all_idp, MI_all_idp, oF_under, oF_idp, oF_all_under, oF_all_idp, MB_under, MI_under, MB_idp, MI_idp, evOk, ovOk, nvOk, keepOf, vis, LV.under, LV.unders, LV.idp, LV.idps, LO.under, LO.idp, under_pv, idp_pv, List.all_cons, List.all_nil, List.any_cons, List.any_nil, Nat.reduceBEq, beq_self_eq_true, Bool.and_true, Bool.true_and, Bool.or_true, Bool.true_or, Bool.or_false, Bool.false_or, decide_true, decide_false, Nat.reduceLT, Nat.reduceLeDiff, Nat.le_refl, Nat.reduceAdd, Bool.and_self, Bool.or_self]; done)))⟩
      dsimp only
      rw [show (((x + 1 : Nat) : Int) - 1) = (x : Int) by omega]
      exact hxb
  · have i1 : ¬ ((k : Int) < (T : Int)) := by omega
    have e1 : IntKind.i64.wrap ((x : Int) + (y : Int)) = (T : Int) := by rw [IntKind.wrap_i64]; omega
    have e2 : IntKind.i64.wrap (T : Int) = (T : Int) := by rw [IntKind.wrap_i64]; omega
    have e3 : ((T : Int) == (T : Int)) = true := by simp
    (repeat' first | refine LOps.done ?_ | (apply LOps.mv; (focus (first | exact Goes.free | exact Goes.on rfl rfl (by with_reducible rfl) true (by decide))); (focus (exact rfl)); (focus (exact rfl))) | (apply LOps.asg; (focus (first | exact Goes.free | exact Goes.on rfl rfl (by with_reducible rfl) true (by decide))); (focus (exact rfl)); (focus (exact rfl))) | (apply LOps.loc; (focus (first | exact Goes.free | exact Goes.on rfl rfl (by with_reducible rfl) true (by decide))); (focus (exact rfl)); (focus (exact rfl)); (focus (simp only [go_sem, ↓reduceIte, Nat.reduceEqDiff, i1, e1, e2, e3]; with_reducible rfl))) | refine LK.seq ?_ | refine LK.ret' ?_ | refine LK.exit' rfl ?_ | (apply LK.condF2; (focus (exact rfl)); (focus (with_reducible rfl)); (focus (first | with_reducible rfl | decide | (with_reducible exact Bool.false_and _) | (with_reducible exact congrArg (fun b => b && _) (Bool.false_and _))))) | refine LK.regc ?_ | (apply retQ; (focus (first | exact lres_one rfl | exact lres_more rfl | (simp only [lres, lresv, Try.results3, go_sem, ↓reduceIte, Nat.reduceEqDiff, reduceCtorEq, Nat.reduceLT, Nat.reduceAdd, Int.reduceBEq, Int.reduceBNe, Int.reduceEq, Int.reduceLE, Int.reduceLT, Int.reduceToNat, Nat.reduceLeDiff, Nat.reduceMul, Nat.reduceSub, i1, e1, e2, e3]; exact rfl)))) | fail)
    all_goals rfl
theorem turns_fun (a b t : Int) (ht : (Lit.int .u8 t).wf = true) : Fun Try.prog 3 [vi a, vi b, v8 t] (vb true) := by
  by_cases h : a < 1 ∨ 16 < a ∨ b < 1 ∨ 16 < b
  · exact turns_skip a b t h
  · simp [Lit.wf, IntKind.min, IntKind.max, IntKind.bits, IntKind.signed] at ht
    obtain ⟨T, rfl⟩ := Int.eq_ofNat_of_zero_le (show 0 ≤ t by omega)
    exact turns_ok a b T (by omega) (by omega) (by omega)
end Go.Proofs.Yteecmlhmddgkkaa
