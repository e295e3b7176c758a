/- The walks of chapter 17: Check. -/
import Derived.Test.YtnfmkijakhpgbaaI2
set_option linter.unusedSimpArgs false
set_option linter.unusedVariables false
namespace Go.Proofs.Ytnfmkijakhpgbaa
open Go.Lw
attribute [local irreducible] LK LOps LW
/-- Whom one met. -/
def metS (n : Nat) (s : List Int) : Nat → List Bool
  | 0 => List.replicate n false
  | k + 1 => match s[k]? with
    | some i => (metS n s k).set i.toNat true
    | none => metS n s k
theorem metS_len (n : Nat) (s : List Int) : ∀ k, (metS n s k).length = n
  | 0 => by simp [metS]
  | k + 1 => by
    simp only [metS]
    split
    · rw [List.length_set]; exact metS_len n s k
    · exact metS_len n s k
theorem metS_get (n : Nat) (s : List Int) (j : Nat) (hj : j < n) : ∀ k, (∀ i ∈ s.take k, 0 ≤ i) → (metS n s k)[j]? = some (decide ((j : Int) ∈ s.take k))
  | 0, _ => by simp [metS, hj]
  | k + 1, h => by
    have ht : s.take (k + 1) = s.take k ++ (s[k]?).toList := List.take_add_one ..
    have ih := metS_get n s j hj k fun i hi => h i (by rw [ht]; exact List.mem_append_left _ hi)
    simp only [metS]
    cases hx : s[k]? with
    | none => rw [ht, hx, ih]; simp
    | some x =>
      have hx0 := h x (by rw [ht, hx]; simp)
      rw [ht, hx, List.getElem?_set]
      simp only [Option.toList_some, List.mem_append, List.mem_singleton]
      by_cases e : x.toNat = j
      · subst e
        simp [metS_len, hj, Int.toNat_of_nonneg hx0]
      · have e2 : (j : Int) ≠ x := by rintro rfl; simp at e
        simp [e, ih, e2]
theorem not_nodup {w : List Int} {k : Nat} {x : Int} (hx : w[k]? = some x) (hm : x ∈ w.take k) : ¬ w.Nodup := by
  intro h
  have h2 : (w.take (k + 1)).Nodup := h.sublist (List.take_sublist _ _)
  rw [List.take_add_one, hx, Option.toList_some, List.nodup_append] at h2
  exact h2.2.2 x hm x (by simp) rfl
theorem nodup_step {w : List Int} {k : Nat} {x : Int} (hx : w[k]? = some x) (h : (w.take k).Nodup) (hn : x ∉ w.take k) : (w.take (k + 1)).Nodup := by
  rw [List.take_add_one, hx, Option.toList_some, List.nodup_append]
  refine ⟨h, by simp, fun a ha b hb => ?_⟩
  obtain rfl : b = x := by simpa using hb
  rintro rfl; exact hn ha
theorem mem_step {w : List Int} {k : Nat} {x : Int} {p : Int → Prop} (hx : w[k]? = some x) (h : ∀ y ∈ w.take k, p y) (hp : p x) : ∀ y ∈ w.take (k + 1), p y := by
  intro y hy
  rw [List.take_add_one, hx, Option.toList_some, List.mem_append, List.mem_singleton] at hy
  rcases hy with hy | rfl
  · exact h y hy
  · exact hp
theorem getD_of {a : List Int} {n : Nat} {x : Int} (hx : a[n]? = some x) : a.getD n 0 = x := by simp [List.getD_eq_getElem?_getD, hx]
set_option maxHeartbeats 4000000 in
set_option maxRecDepth 10000 in
theorem check_inR (a s : List Int) (hl : a.length ≤ 100000) (hr : ¬ inR a) : Fun Try.prog 9 [dv a s] (vi 1) := by
  have hc := counted_bad a s hl hr
  (refine LCalls.enter Try.func9 rfl (by simp [Try.ntmps9]) (LK.start ?_); simp only [Try.ntmps9, enterA])
  (repeat' first | refine LOps.done ?_ | (apply LOps.mv; (focus (first | exact Goes.free | exact Goes.on rfl rfl (by with_reducible rfl) true (by decide))); (focus (exact rfl)); (focus (exact rfl))) | (apply LOps.asg; (focus (first | exact Goes.free | exact Goes.on rfl rfl (by with_reducible rfl) true (by decide))); (focus (exact rfl)); (focus (exact rfl))) | (apply LOps.ext; (focus (first | exact Goes.free | exact Goes.on rfl rfl (by with_reducible rfl) true (by decide))); (focus (exact rfl)); (focus (exact rfl)); (focus (exact rfl))) | (apply LOps.loc; (focus (first | exact Goes.free | exact Goes.on rfl rfl (by with_reducible rfl) true (by decide))); (focus (exact rfl)); (focus (exact rfl)); (focus (simp only [go_sem, ↓reduceIte, reduceCtorEq, Nat.reduceLT, Nat.reduceAdd]; with_reducible rfl))) | (apply LOps.loc0; (focus (first | exact Goes.free | exact Goes.on rfl rfl (by with_reducible rfl) true (by decide))); (focus (exact rfl)); (focus (simp only [go_sem, ↓reduceIte, Nat.reduceEqDiff, reduceCtorEq, Nat.reduceLT, Nat.reduceAdd]; with_reducible rfl))) | (apply LOps.pass; (focus (first | exact Goes.on rfl rfl (by with_reducible rfl) false (by decide) | exact Goes.undef rfl rfl (by with_reducible rfl))); (focus (exact rfl))) | refine LK.seq ?_ | refine LK.ret' ?_ | (apply LK.condT2; (focus (exact rfl)); (focus (with_reducible rfl)); (focus (first | with_reducible rfl | decide | (with_reducible exact Bool.true_or _) | (with_reducible exact congrArg (fun b => b || _) (Bool.true_or _))))) | refine LK.regc ?_ | (apply retQ; (focus (first | exact lres_one rfl | exact lres_more rfl | (simp only [lres, lresv, Try.results9, go_sem, ↓reduceIte, Nat.reduceEqDiff, reduceCtorEq, Nat.reduceLT, Nat.reduceAdd, Int.reduceBEq, Int.reduceBNe, Int.reduceEq, Int.reduceLE, Int.reduceLT, Int.reduceToNat, Nat.reduceLeDiff, Nat.reduceMul, Nat.reduceSub]; exact rfl)))) | (apply LOps.locFn; (focus (first | exact Goes.free | exact Goes.on rfl rfl (by with_reducible rfl) true (by decide))); (focus (exact rfl)); (focus (exact rfl)); (focus (simp only [go_sem, ↓reduceIte]; exact rfl)); (focus (simp only [go_sem])); (focus (exact hc)); (focus (first | rfl | simp [go_sem])); (focus (first | rfl | simp [go_sem]))) | fail)
  all_goals rfl
theorem fits_is (a : List Int) (hl : a.length ≤ 100000) : Fun Try.prog 28 [tv4 (num a 0) (num a 1) (num a 2) (num a 3)] (vb (fit a)) := by
  have h0 := num_le a 0
  have h1 := num_le a 1
  have h2 := num_le a 2
  exact fits_fun _ _ _ _ ⟨by omega, by omega, by omega⟩
set_option maxHeartbeats 4000000 in
set_option maxRecDepth 10000 in
theorem check_head (a s : List Int) (hl : a.length ≤ 100000) (hr : inR a) (h : ¬ (1 ≤ a.length ∧ a.length ≤ 64 ∧ fit a = true ∧ s.length = num a 2 + num a 3)) : Fun Try.prog 9 [dv a s] (vi 1) := by
  have hc := counted_ok a s hl hr
  have hf := fits_is a hl
  have l2 := num_le a 2
  have l3 := num_le a 3
  have w1 : IntKind.i64.wrap ((num a 2 : Int) + (num a 3 : Int)) = ((num a 2 + num a 3 : Nat) : Int) := by rw [IntKind.wrap_i64]; omega
  have hb : (decide ((a.length : Int) < 1) || decide ((a.length : Int) > 64) || !(fit a) || ((s.length : Int) != ((num a 2 + num a 3 : Nat) : Int))) = true := by
    simp only [Bool.or_eq_true, decide_eq_true_eq, Bool.not_eq_true', bne_iff_ne, ne_eq]
    by_cases c : fit a = true
    · have h' : ¬ (1 ≤ a.length ∧ a.length ≤ 64 ∧ s.length = num a 2 + num a 3) := fun ⟨p, q, r⟩ => h ⟨p, q, c, r⟩
      by_cases p : 1 ≤ a.length
      · by_cases q : a.length ≤ 64
        · right; intro e; exact h' ⟨p, q, by omega⟩
        · exact .inl (.inl (.inr (by omega)))
      · exact .inl (.inl (.inl (by omega)))
    · exact .inl (.inr (by simpa using c))
  (refine LCalls.enter Try.func9 rfl (by simp [Try.ntmps9]) (LK.start ?_); simp only [Try.ntmps9, enterA])
  (repeat' first | refine LOps.done ?_ | (apply LOps.mv; (focus (first | exact Goes.free | exact Goes.on rfl rfl (by with_reducible rfl) true (by decide))); (focus (exact rfl)); (focus (exact rfl))) | (apply LOps.asg; (focus (first | exact Goes.free | exact Goes.on rfl rfl (by with_reducible rfl) true (by decide))); (focus (exact rfl)); (focus (exact rfl))) | (apply LOps.ext; (focus (first | exact Goes.free | exact Goes.on rfl rfl (by with_reducible rfl) true (by decide))); (focus (exact rfl)); (focus (exact rfl)); (focus (exact rfl))) | (apply LOps.loc; (focus (first | exact Goes.free | exact Goes.on rfl rfl (by with_reducible rfl) true (by decide))); (focus (exact rfl)); (focus (exact rfl)); (focus (simp only [go_sem, ↓reduceIte, Nat.reduceEqDiff, reduceCtorEq, Nat.reduceLT, Nat.reduceAdd, Int.reduceLE, Int.reduceLT, Int.reduceToNat, w1, n4]; with_reducible rfl))) | (apply LOps.loc0; (focus (first | exact Goes.free | exact Goes.on rfl rfl (by with_reducible rfl) true (by decide))); (focus (exact rfl)); (focus (simp only [go_sem, ↓reduceIte, Nat.reduceEqDiff, reduceCtorEq, Nat.reduceLT, Nat.reduceAdd]; with_reducible rfl))) | (apply LOps.pass; (focus (first | exact Goes.on rfl rfl (by with_reducible rfl) false (by decide) | exact Goes.undef rfl rfl (by with_reducible rfl))); (focus (exact rfl))) | (apply LOps.scEnd; (focus (exact rfl)); (focus (with_reducible rfl))) | refine LK.seq ?_ | refine LK.regc ?_ | (apply LOps.locFn; (focus (first | exact Goes.free | exact Goes.on rfl rfl (by with_reducible rfl) true (by decide))); (focus (exact rfl)); (focus (exact rfl)); (focus (simp only [go_sem, ↓reduceIte]; exact rfl)); (focus (simp only [go_sem])); (focus (first | exact hc | exact hf)); (focus (first | rfl | simp [go_sem])); (focus (first | rfl | simp [go_sem]))) | (apply LOps.or2; exact rfl; exact rfl; exact rfl; exact rfl; exact rfl; (focus (with_reducible rfl)); (focus (first | kernel_rfl | rfl))) | refine Under.mk (fun hg => ?_) | fail)
  refine LK.condT2 rfl (by first | with_reducible rfl | rfl) (hb) ?_
  (repeat' first | refine LOps.done ?_ | (apply LOps.loc; (focus (first | exact Goes.free | exact Goes.on rfl rfl (by with_reducible rfl) true (by decide))); (focus (exact rfl)); (focus (exact rfl)); (focus (simp only [go_sem]; with_reducible rfl))) | refine LK.seq ?_ | refine LK.ret' ?_ | refine LK.regc ?_ | (apply retQ; (focus (first | exact lres_one rfl | exact lres_more rfl | (simp only [lres, lresv, Try.results9, go_sem, ↓reduceIte, Nat.reduceEqDiff, reduceCtorEq, Nat.reduceLT, Nat.reduceAdd, Int.reduceBEq, Int.reduceBNe, Int.reduceEq, Int.reduceLE, Int.reduceLT, Int.reduceToNat, Nat.reduceLeDiff, Nat.reduceMul, Nat.reduceSub]; exact rfl)))) | fail)
  all_goals rfl
set_option maxHeartbeats 4000000 in
set_option maxRecDepth 10000 in
theorem check_loop (a s : List Int) (hl : a.length ≤ 100000) (hs : s.length ≤ 100000) (hr : inR a) (h1 : 1 ≤ a.length) (h2 : a.length ≤ 64) (h3 : fit a = true) (h4 : s.length = num a 2 + num a 3) : Fun Try.prog 9 [dv a s] (vi (if inS a s then 0 else 1)) := by
  have hc := counted_ok a s hl hr
  have hf := fits_is a hl
  have l2 := num_le a 2
  have l3 := num_le a 3
  have w1 : IntKind.i64.wrap ((num a 2 : Int) + (num a 3 : Int)) = ((num a 2 + num a 3 : Nat) : Int) := by rw [IntKind.wrap_i64]; omega
  have c1 : ¬ ((a.length : Int) < 1) := by omega
  have c2 : ¬ ((a.length : Int) > 64) := by omega
  have c3 : ((s.length : Int) != ((num a 2 + num a 3 : Nat) : Int)) = false := by rw [h4]; simp
  have m1 : a.length ≤ maxLen := by simp only [maxLen]; omega
  have m2 : a.length ≤ 281474976710656 := by omega
  rw [h3] at hf
  (refine LCalls.enter Try.func9 rfl (by simp [Try.ntmps9]) (LK.start ?_); simp only [Try.ntmps9, enterA])
  (repeat' first | refine LOps.done ?_ | (apply LOps.mv; (focus (first | exact Goes.free | exact Goes.on rfl rfl (by with_reducible rfl) true (by decide))); (focus (exact rfl)); (focus (exact rfl))) | (apply LOps.asg; (focus (first | exact Goes.free | exact Goes.on rfl rfl (by with_reducible rfl) true (by decide))); (focus (exact rfl)); (focus (exact rfl))) | (apply LOps.ext; (focus (first | exact Goes.free | exact Goes.on rfl rfl (by with_reducible rfl) true (by decide))); (focus (exact rfl)); (focus (exact rfl)); (focus (exact rfl))) | (apply LOps.loc; (focus (first | exact Goes.free | exact Goes.on rfl rfl (by with_reducible rfl) true (by decide))); (focus (exact rfl)); (focus (exact rfl)); (focus (simp only [go_sem, ↓reduceIte, Nat.reduceEqDiff, reduceCtorEq, Nat.reduceLT, Nat.reduceAdd, Int.reduceLE, Int.reduceLT, Int.reduceToNat, w1, n4, c1, c2, c3, m1, m2]; with_reducible rfl))) | (apply LOps.loc0; (focus (first | exact Goes.free | exact Goes.on rfl rfl (by with_reducible rfl) true (by decide))); (focus (exact rfl)); (focus (simp only [go_sem, ↓reduceIte, Nat.reduceEqDiff, reduceCtorEq, Nat.reduceLT, Nat.reduceAdd]; with_reducible rfl))) | refine LK.seq ?_ | refine LK.skip ?_ | refine LK.block ?_ | (apply LK.condF2; (focus (exact rfl)); (focus (with_reducible rfl)); (focus (first | with_reducible rfl | decide | (with_reducible exact Bool.false_and _) | (with_reducible exact congrArg (fun b => b && _) (Bool.false_and _))))) | refine LK.regc ?_ | (apply LOps.locFn; (focus (first | exact Goes.free | exact Goes.on rfl rfl (by with_reducible rfl) true (by decide))); (focus (exact rfl)); (focus (exact rfl)); (focus (simp only [go_sem, ↓reduceIte]; exact rfl)); (focus (simp only [go_sem])); (focus (first | exact hc | exact hf)); (focus (first | rfl | simp [go_sem])); (focus (first | rfl | simp [go_sem]))) | fail)
  refine LK.loop (fun k : Nat => s.length - k) (fun k => k ≤ s.length ∧ (∀ i ∈ s.take k, 0 ≤ i ∧ i < a.length ∧ 2 ≤ a.getD i.toNat 0) ∧ (s.take k).Nodup) (fun k => ⟨80, [(1, .ptr 0 1 0 0), (5, .own 2 a.length 0 a.length), (48, sI s), (49, vi s.length), (50, vi k)]⟩) (fun k => [(0, .arr 2 [[sI a, sI s]]), (2, .arr 1 (oF cB (metS a.length s k)))]) 0 ⟨Nat.zero_le _, by simp, by simp⟩ (by dsimp only [metS]; exact (Sub.by rfl rfl (by first | rfl | (simp only [subB, oF_all_under, LV.under, LO.under, List.all_cons, List.all_nil, decide_true, Nat.reduceLT, Bool.and_self]; done)))) ?_
  rintro k ⟨hk, hv, hnd⟩ J hJ
  rcases Nat.lt_or_ge k s.length with hlt | hge
  · obtain ⟨x, hx⟩ := idx_all hlt
    have i1 : ((k : Int) < (s.length : Int)) := by omega
    have hw := wrapn (n := k) (by omega)
    have hml := metS_len a.length s k
    have hno : ∀ (p : ¬ (0 ≤ x ∧ x < a.length ∧ 2 ≤ a.getD x.toNat 0)), ¬ inS a s := fun p q => p (q.1 x (List.mem_of_getElem? hx))
    by_cases b0 : x < 0
    · rw [if_neg (hno (by omega))]
      (repeat' first | refine LOps.done ?_ | (apply LOps.mv; (focus (first | exact Goes.free | exact Goes.on rfl rfl (by with_reducible rfl) true (by decide))); (focus (exact rfl)); (focus (exact rfl))) | (apply LOps.asg; (focus (first | exact Goes.free | exact Goes.on rfl rfl (by with_reducible rfl) true (by decide))); (focus (exact rfl)); (focus (exact rfl))) | (apply LOps.loc; (focus (first | exact Goes.free | exact Goes.on rfl rfl (by with_reducible rfl) true (by decide))); (focus (exact rfl)); (focus (exact rfl)); (focus (simp only [go_sem, ↓reduceIte, Nat.reduceEqDiff, Nat.reduceLT, i1, hx, b0]; with_reducible rfl))) | (apply LOps.pass; (focus (first | exact Goes.on rfl rfl (by with_reducible rfl) false (by decide) | exact Goes.undef rfl rfl (by with_reducible rfl))); (focus (exact rfl))) | refine LK.seq ?_ | refine LK.skip ?_ | refine LK.block ?_ | refine LK.ret' ?_ | (apply LK.condT2; (focus (exact rfl)); (focus (with_reducible rfl)); (focus (first | with_reducible rfl | decide | (with_reducible exact Bool.true_or _) | (with_reducible exact congrArg (fun b => b || _) (Bool.true_or _))))) | refine LK.regc ?_ | (apply retQ; (focus (first | exact lres_one rfl | exact lres_more rfl | (simp only [lres, lresv, Try.results9, go_sem, ↓reduceIte, Nat.reduceEqDiff, reduceCtorEq, Nat.reduceLT, Nat.reduceAdd, Int.reduceBEq, Int.reduceBNe, Int.reduceEq, Int.reduceLE, Int.reduceLT, Int.reduceToNat, Nat.reduceLeDiff, Nat.reduceMul, Nat.reduceSub, i1, hx, b0]; exact rfl)))) | fail)
      all_goals rfl
    · by_cases b1 : x ≥ (a.length : Int)
      · rw [if_neg (hno (by omega))]
        have htk : (metS a.length s k).take a.length = metS a.length s k := List.take_of_length_le (by omega)
        (repeat' first | refine LOps.done ?_ | (apply LOps.mv; (focus (first | exact Goes.free | exact Goes.on rfl rfl (by with_reducible rfl) true (by decide))); (focus (exact rfl)); (focus (exact rfl))) | (apply LOps.asg; (focus (first | exact Goes.free | exact Goes.on rfl rfl (by with_reducible rfl) true (by decide))); (focus (exact rfl)); (focus (exact rfl))) | (apply LOps.loc; (focus (first | exact Goes.free | exact Goes.on rfl rfl (by with_reducible rfl) true (by decide))); (focus (exact rfl)); (focus (exact rfl)); (focus (simp only [go_sem, ↓reduceIte, Nat.reduceEqDiff, reduceCtorEq, Nat.reduceLT, i1, hx, b0, b1, hml, htk]; with_reducible rfl))) | (apply LOps.pass; (focus (first | exact Goes.on rfl rfl (by with_reducible rfl) false (by decide) | exact Goes.undef rfl rfl (by with_reducible rfl))); (focus (exact rfl))) | refine LK.seq ?_ | refine LK.skip ?_ | refine LK.block ?_ | refine LK.ret' ?_ | (apply LK.condT2; (focus (exact rfl)); (focus (with_reducible rfl)); (focus (first | with_reducible rfl | decide | (with_reducible exact Bool.true_or _) | (with_reducible exact congrArg (fun b => b || _) (Bool.true_or _))))) | refine LK.regc ?_ | (apply retQ; (focus (first | exact lres_one rfl | exact lres_more rfl | (simp only [lres, lresv, Try.results9, go_sem, ↓reduceIte, Nat.reduceEqDiff, reduceCtorEq, Nat.reduceLT, Nat.reduceAdd, Int.reduceBEq, Int.reduceBNe, Int.reduceEq, Int.reduceLE, Int.reduceLT, Int.reduceToNat, Nat.reduceLeDiff, Nat.reduceMul, Nat.reduceSub, i1, hx, b0, b1, hml, htk]; exact rfl)))) | fail)
        all_goals rfl
      · obtain ⟨n, rfl⟩ := Int.eq_ofNat_of_zero_le (show 0 ≤ x by omega)
        have hn : n < a.length := by omega
        obtain ⟨y, hy⟩ := idx_all hn
        have hm := metS_get a.length s n hn k fun i hi => (hv i hi).1
        have hyd := getD_of hy
        have htk : (metS a.length s k).take a.length = metS a.length s k := List.take_of_length_le (by omega)
        have b2 : ((n : Int) < (a.length : Int)) := by omega
        obtain ⟨z, hz⟩ := idx_all (show n < (metS a.length s k).length by omega)
        have hs : (metS a.length s k).set n true = metS a.length s (k + 1) := by simp only [metS, hx, Int.toNat_natCast]
        have b3 : ¬ ((n : Int) ≥ (a.length : Int)) := b1
        (repeat' first | refine LOps.done ?_ | (apply LOps.mv; (focus (first | exact Goes.free | exact Goes.on rfl rfl (by with_reducible rfl) true (by decide))); (focus (exact rfl)); (focus (exact rfl))) | (apply LOps.asg; (focus (first | exact Goes.free | exact Goes.on rfl rfl (by with_reducible rfl) true (by decide))); (focus (exact rfl)); (focus (exact rfl))) | (apply LOps.loc; (focus (first | exact Goes.free | exact Goes.on rfl rfl (by with_reducible rfl) true (by decide))); (focus (exact rfl)); (focus (exact rfl)); (focus (simp only [go_sem, ↓reduceIte, Nat.reduceEqDiff, reduceCtorEq, Nat.reduceLT, i1, hx, b0, b3, b2, hml, htk, hm, hy]; with_reducible rfl))) | (apply LOps.pass; (focus (first | exact Goes.on rfl rfl (by with_reducible rfl) false (by decide) | exact Goes.undef rfl rfl (by with_reducible rfl))); (focus (exact rfl))) | (apply LOps.scEnd; (focus (exact rfl)); (focus (with_reducible rfl))) | refine LK.seq ?_ | refine LK.skip ?_ | refine LK.block ?_ | (apply LK.condT2; (focus (exact rfl)); (focus (with_reducible rfl)); (focus (first | with_reducible rfl | decide | (with_reducible exact Bool.true_or _) | (with_reducible exact congrArg (fun b => b || _) (Bool.true_or _))))) | refine LK.regc ?_ | (apply LOps.or2; exact rfl; exact rfl; exact rfl; exact rfl; exact rfl; (focus (with_reducible rfl)); (focus (first | kernel_rfl | rfl))) | refine Under.mk (fun hg => ?_) | fail)
        cases hb : (decide ((n : Int) ∈ s.take k) || decide (y < 2)) with
        | true =>
          have hni : ¬ inS a s := by
            simp only [Bool.or_eq_true, decide_eq_true_eq] at hb
            rcases hb with hb | hb
            · exact fun q => not_nodup hx hb q.2
            · refine hno ?_
              rw [Int.toNat_natCast, hyd]; omega
          rw [if_neg hni]
          (repeat' first | refine LOps.done ?_ | (apply LOps.loc; (focus (first | exact Goes.free | exact Goes.on rfl rfl (by with_reducible rfl) true (by decide))); (focus (exact rfl)); (focus (exact rfl)); (focus (simp only [go_sem]; with_reducible rfl))) | refine LK.seq ?_ | refine LK.ret' ?_ | (apply LK.condT2; (focus (exact rfl)); (focus (with_reducible rfl)); (focus (first | with_reducible rfl | decide | (with_reducible exact Bool.true_or _) | (with_reducible exact congrArg (fun b => b || _) (Bool.true_or _))))) | refine LK.regc ?_ | (apply retQ; (focus (first | exact lres_one rfl | exact lres_more rfl | (simp only [lres, lresv, Try.results9, go_sem, ↓reduceIte, Nat.reduceEqDiff, reduceCtorEq, Nat.reduceLT, Nat.reduceAdd, Int.reduceBEq, Int.reduceBNe, Int.reduceEq, Int.reduceLE, Int.reduceLT, Int.reduceToNat, Nat.reduceLeDiff, Nat.reduceMul, Nat.reduceSub]; exact rfl)))) | fail)
          all_goals rfl
        | false =>
          simp only [Bool.or_eq_false_iff, decide_eq_false_iff_not] at hb
          (repeat' first | refine LOps.done ?_ | (apply LOps.mv; (focus (first | exact Goes.free | exact Goes.on rfl rfl (by with_reducible rfl) true (by decide))); (focus (exact rfl)); (focus (exact rfl))) | (apply LOps.loc; (focus (first | exact Goes.free | exact Goes.on rfl rfl (by with_reducible rfl) true (by decide))); (focus (exact rfl)); (focus (exact rfl)); (focus (simp only [go_sem, ↓reduceIte, Nat.reduceEqDiff, reduceCtorEq, Nat.reduceLT, hw, b2, hml]; with_reducible rfl))) | (apply LOps.loc0; (focus (first | exact Goes.free | exact Goes.on rfl rfl (by with_reducible rfl) true (by decide))); (focus (exact rfl)); (focus (simp only [go_sem, ↓reduceIte, reduceCtorEq, Nat.reduceLT, hml, hm, hs]; with_reducible rfl))) | refine LK.skip ?_ | refine LK.blk ?_ | refine LK.fin ?_ | (apply LK.condF2; (focus (exact rfl)); (focus (with_reducible rfl)); (focus (first | with_reducible rfl | decide | (with_reducible exact Bool.false_and _) | (with_reducible exact congrArg (fun b => b && _) (Bool.false_and _))))) | refine LK.regc ?_ | fail)
          apply hJ
          refine ⟨k + 1, ⟨hlt, mem_step (p := fun i => 0 ≤ i ∧ i < a.length ∧ 2 ≤ a.getD i.toNat 0) hx hv ?_, nodup_step hx hnd hb.1⟩, by omega, (Sub.by rfl rfl (by first | rfl | (simp only [subB, oF_all_under, LV.under, LO.under, List.all_cons, List.all_nil, decide_true, Nat.reduceLT, Bool.and_self]; done)))⟩
          rw [Int.toNat_natCast, hyd]; omega
  · have i1 : ¬ ((k : Int) < (s.length : Int)) := by omega
    rw [List.take_of_length_le hge] at hv hnd
    rw [if_pos ⟨hv, hnd⟩]
    (repeat' first | refine LOps.done ?_ | (apply LOps.loc; (focus (first | exact Goes.free | exact Goes.on rfl rfl (by with_reducible rfl) true (by decide))); (focus (exact rfl)); (focus (exact rfl)); (focus (simp only [go_sem, ↓reduceIte, Nat.reduceEqDiff, i1]; with_reducible rfl))) | refine LK.seq ?_ | refine LK.ret' ?_ | refine LK.exit' rfl ?_ | (apply LK.condF2; (focus (exact rfl)); (focus (with_reducible rfl)); (focus (first | with_reducible rfl | decide | (with_reducible exact Bool.false_and _) | (with_reducible exact congrArg (fun b => b && _) (Bool.false_and _))))) | refine LK.regc ?_ | (apply retQ; (focus (first | exact lres_one rfl | exact lres_more rfl | (simp only [lres, lresv, Try.results9, go_sem, ↓reduceIte, Nat.reduceEqDiff, reduceCtorEq, Nat.reduceLT, Nat.reduceAdd, Int.reduceBEq, Int.reduceBNe, Int.reduceEq, Int.reduceLE, Int.reduceLT, Int.reduceToNat, Nat.reduceLeDiff, Nat.reduceMul, Nat.reduceSub, i1]; exact rfl)))) | fail)
    all_goals rfl
theorem check_fun (a s : List Int) (hl : a.length ≤ 100000) (hs : s.length ≤ 100000) : Fun Try.prog 9 [dv a s] (vi (chk a s)) := by
  by_cases hr : inR a
  · by_cases h : 1 ≤ a.length ∧ a.length ≤ 64 ∧ fit a = true ∧ s.length = num a 2 + num a 3
    · obtain ⟨h1, h2, h3, h4⟩ := h
      have := check_loop a s hl hs hr h1 h2 h3 h4
      have e : chk a s = if inS a s then 0 else 1 := by
        by_cases c : inS a s
        · rw [if_pos c, chk_ok ⟨hr, h1, h2, h3, h4, c⟩]
        · rw [if_neg c, chk_no fun q => c q.2.2.2.2.2]
      rw [e]; exact this
    · rw [chk_no fun q => h ⟨q.2.1, q.2.2.1, q.2.2.2.1, q.2.2.2.2.1⟩]
      exact check_head a s hl hr h
  · rw [chk_no fun q => hr q.1]
    exact check_inR a s hl hr
end Go.Proofs.Ytnfmkijakhpgbaa
