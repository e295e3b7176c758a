/- The walks of chapter 03: the law DiceHeavy. -/
import Derived.Test.YtbojeohifgmbgaaD7
set_option linter.unusedSimpArgs false
set_option linter.unusedVariables false
namespace Go.Proofs.Ytbojeohifgmbgaa
open Go.Lw
attribute [local irreducible] LK LOps LW
def small (w : List Int) : Prop := ∀ x ∈ w, 0 ≤ x ∧ x ≤ 40
theorem small_odd {w : List Int} (h : small w) : ∀ x ∈ w, odd x = false := fun x hx => by
  have := h x hx
  simp only [odd, Bool.or_eq_false_iff, decide_eq_false_iff_not]; omega
theorem small_sum {w : List Int} (h : small w) : ∀ k, sumTo w k ≤ 40 * k
  | 0 => by simp [sumTo]
  | k + 1 => by
    have ih := small_sum h k
    cases hx : w[k]? with
    | none =>
      have : w.take (k + 1) = w.take k := by rw [List.take_add_one, hx]; simp
      unfold sumTo at ih ⊢
      rw [this]; omega
    | some x =>
      have := h x (List.mem_of_getElem? hx)
      rw [sumTo_succ hx]; omega
/-- How often each one comes of so many draws. -/
def cnt (w : List Int) : Nat → List Int
  | 0 => List.replicate w.length 0
  | n + 1 => (cnt w n).set (pick w n) (((cnt w n)[pick w n]?).getD 0 + 1)
theorem cnt_len (w : List Int) : ∀ n, (cnt w n).length = w.length
  | 0 => by simp [cnt]
  | n + 1 => by rw [cnt, List.length_set]; exact cnt_len w n
theorem cnt_get {w : List Int} (hw : ∀ x ∈ w, odd x = false) : ∀ (n : Nat), (n : Int) ≤ sumTo w w.length → ∀ (i : Nat) (y : Int), w[i]? = some y → (cnt w n)[i]? = some (max 0 (min ((n : Int) - sumTo w i) y))
  | 0, _, i, y, hy => by
    have h1 := (sumTo_bound hw i).1
    have hi := lt_of_get hy
    rw [cnt, List.getElem?_replicate, if_pos hi]
    congr 1
    have := hw y (List.mem_of_getElem? hy)
    simp only [odd, Bool.or_eq_false_iff, decide_eq_false_iff_not] at this
    omega
  | n + 1, hn, i, y, hy => by
    have ih := cnt_get hw n (by omega)
    obtain ⟨z, p1, p2, p3⟩ := pick_spec w n (by omega) (by omega)
    have hz := hw z (List.mem_of_getElem? p1)
    have hyo := hw y (List.mem_of_getElem? hy)
    simp only [odd, Bool.or_eq_false_iff, decide_eq_false_iff_not] at hz hyo
    have hs := sumTo_succ p1
    have hsy := sumTo_succ hy
    have hil := lt_of_get p1
    rw [cnt]
    by_cases e : pick w n = i
    · subst e
      rw [p1] at hy
      obtain rfl := Option.some.inj hy
      rw [List.getElem?_set_self (by rw [cnt_len]; exact hil), ih _ z p1, Option.getD_some]
      congr 1
      omega
    · rw [List.getElem?_set_ne e, ih i y hy]
      congr 1
      rcases Nat.lt_or_ge i (pick w n) with hlt | hge
      · have hm := sumTo_mono hw (show i + 1 ≤ pick w n by omega)
        omega
      · have hm := sumTo_mono hw (show pick w n + 1 ≤ i by omega)
        omega
theorem cnt_all {w : List Int} (hw : ∀ x ∈ w, odd x = false) {n : Nat} (hn : (n : Int) = sumTo w w.length) : cnt w n = w := by
  apply List.ext_getElem?
  intro i
  rcases Nat.lt_or_ge i w.length with hi | hi
  · obtain ⟨y, hy⟩ := idx_all hi
    rw [cnt_get hw n (by omega) i y hy, hy]
    congr 1
    have hm := sumTo_mono hw (show i + 1 ≤ w.length by omega)
    have hs := sumTo_succ hy
    have := hw y (List.mem_of_getElem? hy)
    simp only [odd, Bool.or_eq_false_iff, decide_eq_false_iff_not] at this
    omega
  · rw [List.getElem?_eq_none hi, List.getElem?_eq_none (by rw [cnt_len]; exact hi)]
theorem draw_two {n : Nat} {m : Int} (hn : n < 65536) (hm : (n : Int) < m) : draw [((n / 256 : Nat) : Int), ((n % 256 : Nat) : Int)] 0 m = n := by
  have e : draw [((n / 256 : Nat) : Int), ((n % 256 : Nat) : Int)] 0 m = (((n / 256 : Nat) : Int) * 256 + ((n % 256 : Nat) : Int)).tmod m := by simp [draw, oct, octN]
  rw [e, show ((n / 256 : Nat) : Int) * 256 + ((n % 256 : Nat) : Int) = (n : Int) by omega, Int.tmod_eq_emod_of_nonneg (by omega), Int.emod_eq_of_lt (by omega) hm]
theorem sum_nat {w : List Int} (hw : ∀ x ∈ w, odd x = false) : ∃ s : Nat, sumTo w w.length = (s : Int) := ⟨(sumTo w w.length).toNat, by have := (sumTo_bound hw w.length).1; omega⟩
set_option maxHeartbeats 4000000 in
set_option maxRecDepth 10000 in
theorem dheavy_long (w : List Int) (h : 12 < w.length) : Fun Try.prog 3 [sI w] (vb true) := by
  have hc : ((w.length : Int) > 12) := by omega
  (refine LCalls.enter Try.func3 rfl (by simp [Try.ntmps3]) (LK.start ?_); simp only [Try.ntmps3, enterA])
  (repeat' first | refine LOps.done ?_ | (apply LOps.mv; (focus (first | exact Goes.free | exact Goes.on rfl rfl (by with_reducible rfl) true (by decide))); (focus (exact rfl)); (focus (exact rfl))) | (apply LOps.asg; (focus (first | exact Goes.free | exact Goes.on rfl rfl (by with_reducible rfl) true (by decide))); (focus (exact rfl)); (focus (exact rfl))) | (apply LOps.loc; (focus (first | exact Goes.free | exact Goes.on rfl rfl (by with_reducible rfl) true (by decide))); (focus (exact rfl)); (focus (exact rfl)); (focus (simp only [go_sem, ↓reduceIte, reduceCtorEq, hc]; with_reducible rfl))) | refine LK.seq ?_ | refine LK.skip ?_ | refine LK.ret' ?_ | (apply LK.condT2; (focus (exact rfl)); (focus (with_reducible rfl)); (focus (first | with_reducible rfl | decide | exact Bool.true_or _ | exact congrArg (fun b => b || _) (Bool.true_or _)))) | (apply LK.condF2; (focus (exact rfl)); (focus (with_reducible rfl)); (focus (first | with_reducible rfl | decide | exact Bool.false_and _ | exact congrArg (fun b => b && _) (Bool.false_and _)))) | refine LK.regc ?_ | (apply retQ; (focus (first | exact lres_one rfl | exact lres_more rfl | (simp only [lres, lresv, Try.results3, go_sem, ↓reduceIte, Nat.reduceEqDiff, reduceCtorEq, Nat.reduceLT, Nat.reduceAdd, Int.reduceBEq, Int.reduceBNe, Int.reduceEq, Int.reduceLE, Int.reduceLT, Int.reduceToNat, Nat.reduceLeDiff, Nat.reduceMul, Nat.reduceSub, hc]; exact rfl)))) | (apply LOps.locFn; (focus (first | exact Goes.free | exact Goes.on rfl rfl (by with_reducible rfl) true (by decide))); (focus (exact rfl)); (focus (exact rfl)); (focus (simp only [go_sem]; exact rfl)); (focus (simp only [go_sem])); (focus (exact live_fun)); (focus (first | rfl | simp [go_sem])); (focus (first | rfl | simp [go_sem]))) | fail)
  all_goals rfl
set_option maxHeartbeats 4000000 in
set_option maxRecDepth 10000 in
theorem dheavy_big (w : List Int) (h : w.length ≤ 12) (i : Nat) (y : Int) (hy : w[i]? = some y) (hyo : y < 0 ∨ 40 < y) (hlo : ∀ (j : Nat) (x : Int), j < i → w[j]? = some x → 0 ≤ x ∧ x ≤ 40) : Fun Try.prog 3 [sI w] (vb true) := by
  have hc : ¬ ((w.length : Int) > 12) := by omega
  have hi := lt_of_get hy
  (refine LCalls.enter Try.func3 rfl (by simp [Try.ntmps3]) (LK.start ?_); simp only [Try.ntmps3, enterA])
  (repeat' first | refine LOps.done ?_ | (apply LOps.mv; (focus (first | exact Goes.free | exact Goes.on rfl rfl (by with_reducible rfl) true (by decide))); (focus (exact rfl)); (focus (exact rfl))) | (apply LOps.asg; (focus (first | exact Goes.free | exact Goes.on rfl rfl (by with_reducible rfl) true (by decide))); (focus (exact rfl)); (focus (exact rfl))) | (apply LOps.loc; (focus (first | exact Goes.free | exact Goes.on rfl rfl (by with_reducible rfl) true (by decide))); (focus (exact rfl)); (focus (exact rfl)); (focus (simp only [go_sem, ↓reduceIte, reduceCtorEq, hc]; with_reducible rfl))) | refine LK.seq ?_ | refine LK.skip ?_ | refine LK.block ?_ | (apply LK.condF2; (focus (exact rfl)); (focus (with_reducible rfl)); (focus (first | with_reducible rfl | decide | exact Bool.false_and _ | exact congrArg (fun b => b && _) (Bool.false_and _)))) | refine LK.regc ?_ | (apply LOps.locFn; (focus (first | exact Goes.free | exact Goes.on rfl rfl (by with_reducible rfl) true (by decide))); (focus (exact rfl)); (focus (exact rfl)); (focus (simp only [go_sem]; exact rfl)); (focus (simp only [go_sem])); (focus (exact live_fun)); (focus (first | rfl | simp [go_sem])); (focus (first | rfl | simp [go_sem]))) | fail)
  refine LK.loop (fun k : Nat => w.length - k) (fun k => k ≤ i ∧ 0 ≤ sumTo w k ∧ sumTo w k ≤ 40 * k) (fun k => ⟨99, [(0, sI w), (3, vb true), (4, vi (sumTo w k)), (22, sI w), (23, vi w.length), (24, vi k)]⟩) (fun _ => []) 0 (by simp [sumTo]) (Sub.by rfl rfl rfl) ?_
  rintro k ⟨hk, hs1, hs2⟩ J hJ
  obtain ⟨x, hx⟩ := idx_all (show k < w.length by omega)
  have h1 : ((k : Int) < (w.length : Int)) := by omega
  have hw := wrapn (n := k) (by omega)
  have hsx := sumTo_succ hx
  rcases Nat.lt_or_ge k i with hlt | hge
  · have hxb := hlo k x hlt hx
    have hc2 : (decide (x < 0) || decide (x > 40)) = false := by simp only [Bool.or_eq_false_iff, decide_eq_false_iff_not]; omega
    have hw2 : IntKind.i64.wrap (sumTo w k + x) = sumTo w (k + 1) := by rw [← hsx, IntKind.wrap_i64]; omega
    (repeat' first | refine LOps.done ?_ | (apply LOps.mv; (focus (first | exact Goes.free | exact Goes.on rfl rfl (by with_reducible rfl) true (by decide))); (focus (exact rfl)); (focus (exact rfl))) | (apply LOps.asg; (focus (first | exact Goes.free | exact Goes.on rfl rfl (by with_reducible rfl) true (by decide))); (focus (exact rfl)); (focus (exact rfl))) | (apply LOps.loc; (focus (first | exact Goes.free | exact Goes.on rfl rfl (by with_reducible rfl) true (by decide))); (focus (exact rfl)); (focus (exact rfl)); (focus (simp only [go_sem, ↓reduceIte, Nat.reduceEqDiff, Nat.reduceLT, h1, hx]; with_reducible rfl))) | (apply LOps.pass; (focus (first | exact Goes.on rfl rfl (by with_reducible rfl) false (by decide) | exact Goes.undef rfl rfl (by with_reducible rfl))); (focus (exact rfl))) | (apply LOps.scEnd; (focus (exact rfl)); (focus (with_reducible rfl))) | refine LK.seq ?_ | refine LK.skip ?_ | refine LK.block ?_ | (apply LK.condT2; (focus (exact rfl)); (focus (with_reducible rfl)); (focus (first | with_reducible rfl | decide | exact Bool.true_or _ | exact congrArg (fun b => b || _) (Bool.true_or _)))) | refine LK.regc ?_ | (apply LOps.or2; exact rfl; exact rfl; exact rfl; exact rfl; exact rfl; (focus (with_reducible rfl)); (focus (first | kernel_rfl | rfl))) | refine Under.mk (fun hg => ?_) | fail)
    refine LK.condF2 rfl (by with_reducible rfl) hc2 ?_
    (repeat' first | refine LOps.done ?_ | (apply LOps.mv; (focus (first | exact Goes.free | exact Goes.on rfl rfl (by with_reducible rfl) true (by decide))); (focus (exact rfl)); (focus (exact rfl))) | (apply LOps.asg; (focus (first | exact Goes.free | exact Goes.on rfl rfl (by with_reducible rfl) true (by decide))); (focus (exact rfl)); (focus (exact rfl))) | (apply LOps.loc; (focus (first | exact Goes.free | exact Goes.on rfl rfl (by with_reducible rfl) true (by decide))); (focus (exact rfl)); (focus (exact rfl)); (focus (simp only [go_sem, ↓reduceIte, Nat.reduceEqDiff, hw, hw2]; with_reducible rfl))) | refine LK.skip ?_ | refine LK.blk ?_ | refine LK.fin ?_ | refine LK.regc ?_ | fail)
    apply hJ
    exact ⟨k + 1, ⟨hlt, by omega, by omega⟩, by omega, Sub.by rfl rfl rfl⟩
  · obtain rfl : k = i := by omega
    rw [hx] at hy
    obtain rfl := Option.some.inj hy
    have hc2 : (decide (x < 0) || decide (x > 40)) = true := by simp only [Bool.or_eq_true, decide_eq_true_eq]; omega
    (repeat' first | refine LOps.done ?_ | (apply LOps.mv; (focus (first | exact Goes.free | exact Goes.on rfl rfl (by with_reducible rfl) true (by decide))); (focus (exact rfl)); (focus (exact rfl))) | (apply LOps.asg; (focus (first | exact Goes.free | exact Goes.on rfl rfl (by with_reducible rfl) true (by decide))); (focus (exact rfl)); (focus (exact rfl))) | (apply LOps.loc; (focus (first | exact Goes.free | exact Goes.on rfl rfl (by with_reducible rfl) true (by decide))); (focus (exact rfl)); (focus (exact rfl)); (focus (simp only [go_sem, ↓reduceIte, Nat.reduceEqDiff, Nat.reduceLT, h1, hx]; with_reducible rfl))) | (apply LOps.pass; (focus (first | exact Goes.on rfl rfl (by with_reducible rfl) false (by decide) | exact Goes.undef rfl rfl (by with_reducible rfl))); (focus (exact rfl))) | (apply LOps.scEnd; (focus (exact rfl)); (focus (with_reducible rfl))) | refine LK.seq ?_ | refine LK.skip ?_ | refine LK.block ?_ | (apply LK.condT2; (focus (exact rfl)); (focus (with_reducible rfl)); (focus (first | with_reducible rfl | decide | exact Bool.true_or _ | exact congrArg (fun b => b || _) (Bool.true_or _)))) | refine LK.regc ?_ | (apply LOps.or2; exact rfl; exact rfl; exact rfl; exact rfl; exact rfl; (focus (with_reducible rfl)); (focus (first | kernel_rfl | rfl))) | refine Under.mk (fun hg => ?_) | fail)
    refine LK.condT2 rfl (by with_reducible rfl) hc2 ?_
    (repeat' first | refine LOps.done ?_ | (apply LOps.mv; (focus (first | exact Goes.free | exact Goes.on rfl rfl (by with_reducible rfl) true (by decide))); (focus (exact rfl)); (focus (exact rfl))) | (apply LOps.asg; (focus (first | exact Goes.free | exact Goes.on rfl rfl (by with_reducible rfl) true (by decide))); (focus (exact rfl)); (focus (exact rfl))) | refine LK.seq ?_ | refine LK.ret' ?_ | refine LK.regc ?_ | (apply retQ; (focus (first | exact lres_one rfl | exact lres_more rfl | (simp only [lres, lresv, Try.results3, go_sem, ↓reduceIte, Nat.reduceEqDiff, reduceCtorEq, Nat.reduceLT, Nat.reduceAdd, Int.reduceBEq, Int.reduceBNe, Int.reduceEq, Int.reduceLE, Int.reduceLT, Int.reduceToNat, Nat.reduceLeDiff, Nat.reduceMul, Nat.reduceSub, h1, hx, hw]; exact rfl)))) | fail)
    all_goals rfl
set_option maxHeartbeats 4000000 in
set_option maxRecDepth 10000 in
theorem dheavy_ok (w : List Int) (h : w.length ≤ 12) (hlo : small w) : Fun Try.prog 3 [sI w] (vb true) := by
  have hc : ¬ ((w.length : Int) > 12) := by omega
  have hodd := small_odd hlo
  obtain ⟨s, hs⟩ := sum_nat hodd
  have hsb := small_sum hlo w.length
  have hm1 : w.length ≤ maxLen := by simp only [maxLen]; omega
  have hm2 : 8 * w.length ≤ 281474976710656 := by omega
  have hany : w.any odd = false := by rw [List.any_eq_false]; exact fun x hx => by rw [hodd x hx]; simp
  (refine LCalls.enter Try.func3 rfl (by simp [Try.ntmps3]) (LK.start ?_); simp only [Try.ntmps3, enterA])
  (repeat' first | refine LOps.done ?_ | (apply LOps.mv; (focus (first | exact Goes.free | exact Goes.on rfl rfl (by with_reducible rfl) true (by decide))); (focus (exact rfl)); (focus (exact rfl))) | (apply LOps.asg; (focus (first | exact Goes.free | exact Goes.on rfl rfl (by with_reducible rfl) true (by decide))); (focus (exact rfl)); (focus (exact rfl))) | (apply LOps.loc; (focus (first | exact Goes.free | exact Goes.on rfl rfl (by with_reducible rfl) true (by decide))); (focus (exact rfl)); (focus (exact rfl)); (focus (simp only [go_sem, ↓reduceIte, reduceCtorEq, hc]; with_reducible rfl))) | refine LK.seq ?_ | refine LK.skip ?_ | refine LK.block ?_ | (apply LK.condF2; (focus (exact rfl)); (focus (with_reducible rfl)); (focus (first | with_reducible rfl | decide | exact Bool.false_and _ | exact congrArg (fun b => b && _) (Bool.false_and _)))) | refine LK.regc ?_ | (apply LOps.locFn; (focus (first | exact Goes.free | exact Goes.on rfl rfl (by with_reducible rfl) true (by decide))); (focus (exact rfl)); (focus (exact rfl)); (focus (simp only [go_sem]; exact rfl)); (focus (simp only [go_sem])); (focus (exact live_fun)); (focus (first | rfl | simp [go_sem])); (focus (first | rfl | simp [go_sem]))) | fail)
  refine LK.loop (fun k : Nat => w.length - k) (fun k => k ≤ w.length ∧ 0 ≤ sumTo w k ∧ sumTo w k ≤ 40 * k) (fun k => ⟨99, [(0, sI w), (3, vb true), (4, vi (sumTo w k)), (22, sI w), (23, vi w.length), (24, vi k)]⟩) (fun _ => []) 0 (by simp [sumTo]) (Sub.by rfl rfl rfl) ?_
  rintro k ⟨hk, hs1, hs2⟩ J hJ
  rcases Nat.lt_or_ge k w.length with hlt | hge
  · obtain ⟨x, hx⟩ := idx_all hlt
    have h1 : ((k : Int) < (w.length : Int)) := by omega
    have hw := wrapn (n := k) (by omega)
    have hsx := sumTo_succ hx
    have hxb := hlo x (List.mem_of_getElem? hx)
    have hc2 : (decide (x < 0) || decide (x > 40)) = false := by simp only [Bool.or_eq_false_iff, decide_eq_false_iff_not]; omega
    have hw2 : IntKind.i64.wrap (sumTo w k + x) = sumTo w (k + 1) := by rw [← hsx, IntKind.wrap_i64]; omega
    (repeat' first | refine LOps.done ?_ | (apply LOps.mv; (focus (first | exact Goes.free | exact Goes.on rfl rfl (by with_reducible rfl) true (by decide))); (focus (exact rfl)); (focus (exact rfl))) | (apply LOps.asg; (focus (first | exact Goes.free | exact Goes.on rfl rfl (by with_reducible rfl) true (by decide))); (focus (exact rfl)); (focus (exact rfl))) | (apply LOps.loc; (focus (first | exact Goes.free | exact Goes.on rfl rfl (by with_reducible rfl) true (by decide))); (focus (exact rfl)); (focus (exact rfl)); (focus (simp only [go_sem, ↓reduceIte, Nat.reduceEqDiff, Nat.reduceLT, h1, hx]; with_reducible rfl))) | (apply LOps.pass; (focus (first | exact Goes.on rfl rfl (by with_reducible rfl) false (by decide) | exact Goes.undef rfl rfl (by with_reducible rfl))); (focus (exact rfl))) | (apply LOps.scEnd; (focus (exact rfl)); (focus (with_reducible rfl))) | refine LK.seq ?_ | refine LK.skip ?_ | refine LK.block ?_ | (apply LK.condT2; (focus (exact rfl)); (focus (with_reducible rfl)); (focus (first | with_reducible rfl | decide | exact Bool.true_or _ | exact congrArg (fun b => b || _) (Bool.true_or _)))) | refine LK.regc ?_ | (apply LOps.or2; exact rfl; exact rfl; exact rfl; exact rfl; exact rfl; (focus (with_reducible rfl)); (focus (first | kernel_rfl | rfl))) | refine Under.mk (fun hg => ?_) | fail)
    refine LK.condF2 rfl (by with_reducible rfl) hc2 ?_
    (repeat' first | refine LOps.done ?_ | (apply LOps.mv; (focus (first | exact Goes.free | exact Goes.on rfl rfl (by with_reducible rfl) true (by decide))); (focus (exact rfl)); (focus (exact rfl))) | (apply LOps.asg; (focus (first | exact Goes.free | exact Goes.on rfl rfl (by with_reducible rfl) true (by decide))); (focus (exact rfl)); (focus (exact rfl))) | (apply LOps.loc; (focus (first | exact Goes.free | exact Goes.on rfl rfl (by with_reducible rfl) true (by decide))); (focus (exact rfl)); (focus (exact rfl)); (focus (simp only [go_sem, ↓reduceIte, Nat.reduceEqDiff, hw, hw2]; with_reducible rfl))) | refine LK.skip ?_ | refine LK.blk ?_ | refine LK.fin ?_ | refine LK.regc ?_ | fail)
    apply hJ
    exact ⟨k + 1, ⟨hlt, by omega, by omega⟩, by omega, Sub.by rfl rfl rfl⟩
  · obtain rfl : k = w.length := by omega
    rw [hs]
    have h1 : ¬ ((w.length : Int) < (w.length : Int)) := by omega
    (repeat' first | refine LOps.done ?_ | (apply LOps.mv; (focus (first | exact Goes.free | exact Goes.on rfl rfl (by with_reducible rfl) true (by decide))); (focus (exact rfl)); (focus (exact rfl))) | (apply LOps.asg; (focus (first | exact Goes.free | exact Goes.on rfl rfl (by with_reducible rfl) true (by decide))); (focus (exact rfl)); (focus (exact rfl))) | (apply LOps.loc; (focus (first | exact Goes.free | exact Goes.on rfl rfl (by with_reducible rfl) true (by decide))); (focus (exact rfl)); (focus (exact rfl)); (focus (simp only [go_sem, ↓reduceIte, Nat.reduceEqDiff, Nat.reduceLT, h1, hm1, hm2]; with_reducible rfl))) | refine LK.seq ?_ | refine LK.block ?_ | refine LK.exit' rfl ?_ | (apply LK.condF2; (focus (exact rfl)); (focus (with_reducible rfl)); (focus (first | with_reducible rfl | decide | exact Bool.false_and _ | exact congrArg (fun b => b && _) (Bool.false_and _)))) | refine LK.regc ?_ | fail)
    refine LK.loop (fun n : Nat => s - n) (fun n => n ≤ s) (fun n => ⟨99, [(0, sI w), (3, vb true), (4, vi s), (7, .own 0 w.length 0 w.length), (42, vi s), (43, vi n)]⟩) (fun n => [(0, .arr 1 (oF (cI .i64) (cnt w n)))]) 0 (Nat.zero_le _) (by dsimp only [cnt]; exact (Sub.by rfl rfl (by first | rfl | (simp only [subB, oF_all_under, LV.under, LO.under, List.all_cons, List.all_nil, decide_true, Nat.reduceLT, Bool.and_self]; done)))) ?_
    intro n hn J' hJ'
    have hcl := cnt_len w n
    rcases Nat.lt_or_ge n s with hlt | hge
    · have h2 : ((n : Int) < (s : Int)) := by omega
      have hw := wrapn (n := n) (by omega)
      have q1 : IntKind.i64.wrap ((n : Int).tdiv 256) = ((n / 256 : Nat) : Int) := by rw [Int.tdiv_eq_ediv_of_nonneg (by omega), IntKind.wrap_i64]; omega
      have q2 : IntKind.u8.wrap ((n / 256 : Nat) : Int) = ((n / 256 : Nat) : Int) := by rw [IntKind.wrap_u8]; omega
      have r1 : (n : Int).tmod 256 = ((n % 256 : Nat) : Int) := by rw [Int.tmod_eq_emod_of_nonneg (by omega)]; omega
      have r2 : IntKind.u8.wrap ((n % 256 : Nat) : Int) = ((n % 256 : Nat) : Int) := by rw [IntKind.wrap_u8]; omega
      have hb2 : octB [((n / 256 : Nat) : Int), ((n % 256 : Nat) : Int)] := by
        intro x hx
        simp only [List.mem_cons, List.not_mem_nil, or_false] at hx
        rcases hx with rfl | rfl <;> omega
      have hh := heavy_fun [((n / 256 : Nat) : Int), ((n % 256 : Nat) : Int)] w 0 hb2 (by simp) (by omega)
      have hE0 : hE [((n / 256 : Nat) : Int), ((n % 256 : Nat) : Int)] w 0 = 0 := by
        have hbad : hBad [((n / 256 : Nat) : Int), ((n % 256 : Nat) : Int)] w 0 = false := by
          have : chk [((n / 256 : Nat) : Int), ((n % 256 : Nat) : Int)] 0 = 0 := chk_of (k := 0) (Nat.zero_le _)
          simp only [hBad, this, hany, Bool.or_eq_false_iff, decide_eq_false_iff_not, bne_self_eq_false, and_true, true_and]; omega
        rw [hE, hbad, if_neg (by simp), if_neg (by omega), if_neg (by omega)]
      have hN0 : hN [((n / 256 : Nat) : Int), ((n % 256 : Nat) : Int)] w 0 = (pick w n : Nat) := by
        rw [hN, if_pos hE0, hs, Int.toNat_zero, draw_two (by omega) h2]
      rw [hE0, hN0] at hh
      obtain ⟨y, p1, p2, p3⟩ := pick_spec w n (by omega) (by omega)
      have hpl := lt_of_get p1
      obtain ⟨z, hz⟩ := idx_all (show pick w n < (cnt w n).length by omega)
      have c1 : ¬ (((pick w n : Nat) : Int) < 0) := by omega
      have c2 : ¬ (((pick w n : Nat) : Int) ≥ (w.length : Int)) := by omega
      have c3 : (((pick w n : Nat) : Int) < (w.length : Int)) := by omega
      have hzb : 0 ≤ z ∧ z ≤ 40 := by
        have := cnt_get hodd n (by omega) _ y p1
        rw [hz] at this
        have := Option.some.inj this
        have hyb := hlo y (List.mem_of_getElem? p1)
        omega
      have hw2 : IntKind.i64.wrap (z + 1) = z + 1 := by rw [IntKind.wrap_i64]; omega
      have hset : (cnt w n).set (pick w n) (z + 1) = cnt w (n + 1) := by rw [cnt, hz, Option.getD_some]
      (repeat' first | refine LOps.done ?_ | (apply LOps.mv; (focus (first | exact Goes.free | exact Goes.on rfl rfl (by with_reducible rfl) true (by decide))); (focus (exact rfl)); (focus (exact rfl))) | (apply LOps.asg; (focus (first | exact Goes.free | exact Goes.on rfl rfl (by with_reducible rfl) true (by decide))); (focus (exact rfl)); (focus (exact rfl))) | (apply LOps.ext; (focus (first | exact Goes.free | exact Goes.on rfl rfl (by with_reducible rfl) true (by decide))); (focus (exact rfl)); (focus (exact rfl)); (focus (exact rfl))) | (apply LOps.loc; (focus (first | exact Goes.free | exact Goes.on rfl rfl (by with_reducible rfl) true (by decide))); (focus (exact rfl)); (focus (exact rfl)); (focus (simp only [go_sem, ↓reduceIte, Nat.reduceEqDiff, reduceCtorEq, Nat.reduceLT, Nat.reduceAdd, Int.reduceBNe, Int.reduceEq, Nat.reduceLeDiff, h2, hw, q1, q2, r1, r2, hcl, hz, c1, c2, c3, hw2]; with_reducible rfl))) | (apply LOps.loc0; (focus (first | exact Goes.free | exact Goes.on rfl rfl (by with_reducible rfl) true (by decide))); (focus (exact rfl)); (focus (simp only [go_sem, ↓reduceIte, Nat.reduceEqDiff, reduceCtorEq, Nat.reduceLT, Nat.reduceAdd, hcl, hz, hset]; with_reducible rfl))) | refine LK.seq ?_ | refine LK.skip ?_ | refine LK.block ?_ | refine LK.blk ?_ | refine LK.fin ?_ | (apply LK.condT2; (focus (exact rfl)); (focus (with_reducible rfl)); (focus (first | with_reducible rfl | decide | exact Bool.true_or _ | exact congrArg (fun b => b || _) (Bool.true_or _)))) | (apply LK.condF2; (focus (exact rfl)); (focus (with_reducible rfl)); (focus (first | with_reducible rfl | decide | exact Bool.false_and _ | exact congrArg (fun b => b && _) (Bool.false_and _)))) | refine LK.regc ?_ | ((apply LOps.thaw; (focus (exact rfl)); (focus (exact rfl)); (focus (exact rfl)); (focus (exact rfl)); (focus (simp only [go_sem, ↓reduceIte, reduceCtorEq, Nat.reduceAdd]; exact rfl)); (focus (simp only [go_sem, ↓reduceIte, reduceCtorEq]; exact rfl))); (apply LOps.locFn; (focus (first | exact Goes.free | exact Goes.on rfl rfl (by with_reducible rfl) true (by decide))); (focus (exact rfl)); (focus (exact rfl)); (focus (simp only [go_sem, ↓reduceIte, Nat.reduceEqDiff]; exact rfl)); (focus (simp only [go_sem])); (focus (exact hh)); (focus (first | rfl | simp [go_sem])); (focus (first | rfl | simp [go_sem])))) | fail)
      apply hJ'
      exact ⟨n + 1, hlt, by omega, (Sub.by rfl rfl (by first | rfl | (simp only [subB, oF_all_under, LV.under, LO.under, List.all_cons, List.all_nil, decide_true, Nat.reduceLT, Bool.and_self]; done)))⟩
    · obtain rfl : n = s := by omega
      have hall := cnt_all hodd hs.symm
      have h2 : ¬ ((n : Int) < (n : Int)) := by omega
      have hsm := same_fun w w (by omega)
      have hh := heavy_fun [] w 0 (by intro x hx; cases hx) (by simp) (by omega)
      rw [hall]
      by_cases hz : n = 0
      · subst hz
        have hE5 : hE [] w 0 = 5 := by
          have hbad : hBad [] w 0 = false := by
            have : chk [] 0 = 0 := by decide
            simp only [hBad, this, hany, Bool.or_eq_false_iff, decide_eq_false_iff_not, bne_self_eq_false, and_true, true_and]; omega
          rw [hE, hbad, if_neg (by simp), if_neg (by omega), if_pos (by omega)]
        rw [hE5] at hh
        (repeat' first | refine LOps.done ?_ | (apply LOps.mv; (focus (first | exact Goes.free | exact Goes.on rfl rfl (by with_reducible rfl) true (by decide))); (focus (exact rfl)); (focus (exact rfl))) | (apply LOps.asg; (focus (first | exact Goes.free | exact Goes.on rfl rfl (by with_reducible rfl) true (by decide))); (focus (exact rfl)); (focus (exact rfl))) | (apply LOps.ext; (focus (first | exact Goes.free | exact Goes.on rfl rfl (by with_reducible rfl) true (by decide))); (focus (exact rfl)); (focus (exact rfl)); (focus (exact rfl))) | (apply LOps.loc; (focus (first | exact Goes.free | exact Goes.on rfl rfl (by with_reducible rfl) true (by decide))); (focus (exact rfl)); (focus (exact rfl)); (focus (simp only [go_sem, ↓reduceIte, Nat.reduceEqDiff, reduceCtorEq, Nat.reduceLT, Nat.reduceAdd, h2]; with_reducible rfl))) | (apply LOps.loc0; (focus (first | exact Goes.free | exact Goes.on rfl rfl (by with_reducible rfl) true (by decide))); (focus (exact rfl)); (focus (simp only [go_sem, ↓reduceIte, Nat.reduceEqDiff, reduceCtorEq, Nat.reduceLT, Nat.reduceAdd]; with_reducible rfl))) | refine LK.seq ?_ | refine LK.ret' ?_ | refine LK.exit' rfl ?_ | (apply LK.condT2; (focus (exact rfl)); (focus (with_reducible rfl)); (focus (first | with_reducible rfl | decide | exact Bool.true_or _ | exact congrArg (fun b => b || _) (Bool.true_or _)))) | (apply LK.condF2; (focus (exact rfl)); (focus (with_reducible rfl)); (focus (first | with_reducible rfl | decide | exact Bool.false_and _ | exact congrArg (fun b => b && _) (Bool.false_and _)))) | refine LK.regc ?_ | (apply retQ; (focus (first | exact lres_one rfl | exact lres_more rfl | (simp only [lres, lresv, Try.results3, go_sem, ↓reduceIte, Nat.reduceEqDiff, reduceCtorEq, Nat.reduceLT, Nat.reduceAdd, Int.reduceBEq, Int.reduceBNe, Int.reduceEq, Int.reduceLE, Int.reduceLT, Int.reduceToNat, Nat.reduceLeDiff, Nat.reduceMul, Nat.reduceSub, h2]; exact rfl)))) | (apply LOps.locFn; (focus (first | exact Goes.free | exact Goes.on rfl rfl (by with_reducible rfl) true (by decide))); (focus (exact rfl)); (focus (exact rfl)); (focus (simp only [go_sem, ↓reduceIte, Nat.reduceEqDiff]; exact rfl)); (focus (simp only [go_sem])); (focus (first | exact hsm | (refine Fun.argsLe ?_ (hh); (repeat' first | exact LV.le_refl _ | exact LV.le_nil _ | exact le_nilF _ _ | exact LV.le_any _ _ _ | refine LV.le_tup ?_ | refine LV.le_agg ?_ | exact LV.les_nil | refine LV.les_cons ?_ ?_); done))); (focus (first | rfl | simp [go_sem])); (focus (first | rfl | simp [go_sem]))) | fail)
        all_goals simp
      · have hz2 : ((n : Int) == 0) = false := by rw [beq_eq_false_iff_ne]; omega
        (repeat' first | refine LOps.done ?_ | (apply LOps.mv; (focus (first | exact Goes.free | exact Goes.on rfl rfl (by with_reducible rfl) true (by decide))); (focus (exact rfl)); (focus (exact rfl))) | (apply LOps.asg; (focus (first | exact Goes.free | exact Goes.on rfl rfl (by with_reducible rfl) true (by decide))); (focus (exact rfl)); (focus (exact rfl))) | (apply LOps.loc; (focus (first | exact Goes.free | exact Goes.on rfl rfl (by with_reducible rfl) true (by decide))); (focus (exact rfl)); (focus (exact rfl)); (focus (simp only [go_sem, ↓reduceIte, Nat.reduceEqDiff, reduceCtorEq, h2, hz2]; with_reducible rfl))) | refine LK.seq ?_ | refine LK.skip ?_ | refine LK.ret' ?_ | refine LK.exit' rfl ?_ | (apply LK.condF2; (focus (exact rfl)); (focus (with_reducible rfl)); (focus (first | with_reducible rfl | decide | exact Bool.false_and _ | exact congrArg (fun b => b && _) (Bool.false_and _)))) | refine LK.regc ?_ | (apply retQ; (focus (first | exact lres_one rfl | exact lres_more rfl | (simp only [lres, lresv, Try.results3, go_sem, ↓reduceIte, Nat.reduceEqDiff, reduceCtorEq, Nat.reduceLT, Nat.reduceAdd, Int.reduceBEq, Int.reduceBNe, Int.reduceEq, Int.reduceLE, Int.reduceLT, Int.reduceToNat, Nat.reduceLeDiff, Nat.reduceMul, Nat.reduceSub, h2, hz2]; exact rfl)))) | (apply LOps.borrowFn; (focus (first | exact Goes.free | exact Goes.on rfl rfl (by with_reducible rfl) true (by decide))); (focus (exact rfl)); (focus (exact rfl)); (focus (simp only [go_sem, ↓reduceIte, Nat.reduceEqDiff]; exact rfl)); (focus (simp only [go_sem])); (focus (simp only [go_sem, ↓reduceIte]; exact rfl)); (focus (first | exact hsm | exact hh)); (focus (first | rfl | simp [go_sem])); (focus (exact rfl))) | fail)
        all_goals simp
theorem dheavy_fun (w : List Int) : Fun Try.prog 3 [sI w] (vb true) := by
  rcases Nat.lt_or_ge 12 w.length with h | h
  · exact dheavy_long w h
  · rcases first_of (w := w) (p := fun x => decide (x < 0) || decide (40 < x)) with h1 | ⟨i, y, h1, h2, h3⟩
    · exact dheavy_ok w h fun x hx => by
        have := h1 x hx
        simp only [Bool.or_eq_false_iff, decide_eq_false_iff_not] at this; omega
    · refine dheavy_big w h i y h1 (by simpa using h2) fun j x hj hx => ?_
      have := h3 j x hj hx
      simp only [Bool.or_eq_false_iff, decide_eq_false_iff_not] at this; omega
end Go.Proofs.Ytbojeohifgmbgaa
