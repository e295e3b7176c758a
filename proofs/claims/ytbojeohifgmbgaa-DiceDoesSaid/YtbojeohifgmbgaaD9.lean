/- The walks of chapter 03: the law DiceOrder. -/
import Derived.Test.YtbojeohifgmbgaaD7
set_option linter.unusedSimpArgs false
set_option linter.unusedVariables false
namespace Go.Proofs.Ytbojeohifgmbgaa
open Go.Lw
attribute [local irreducible] LK LOps LW
theorem unB_obytes : ∀ l : List Int, unB (oF (cI .u8) l) = some l
  | [] => rfl
  | x :: l => by
    have := unB_obytes l
    simp [oF, rF, cI, unB] at this ⊢
    exact this
attribute [local go_sem] unB_obytes
theorem octN_min {l : List Int} {a : Nat} (h : a ≤ l.length) : octN l a = min l.length (a + 1) := by unfold octN; split <;> omega
theorem drawN_min {l : List Int} {a : Nat} (h : a ≤ l.length) : drawN l a = min l.length (a + 2) := by
  unfold drawN; rw [octN_min (octN_le h), octN_min h]; omega
theorem shuf_min {l : List Int} {a : Nat} (h : a ≤ l.length) (n : Nat) : ∀ j, (shuf l a n j).2 = min l.length (a + 2 * j)
  | 0 => by simp [shuf]; omega
  | j + 1 => by rw [shuf, drawN_min (shuf_at h n j), shuf_min h n j]; omega
/-- Each number once. -/
structure Once (n : Nat) (p : List Int) : Prop where
  len : p.length = n
  lo : ∀ (j : Nat) (x : Int), p[j]? = some x → 0 ≤ x ∧ x < n
  inj : ∀ (j j' : Nat) (x : Int), p[j]? = some x → p[j']? = some x → j = j'
theorem once_iota (n : Nat) : Once n (iota n) := by
  have get : ∀ (j : Nat) (x : Int), (iota n)[j]? = some x → x = (j : Int) ∧ j < n := by
    intro j x h
    have hl := lt_of_get h
    rw [iota_len] at hl
    rw [iota, List.getElem?_map, List.getElem?_range hl] at h
    have : ((j : Int)) = x := by simpa using h
    omega
  refine ⟨iota_len n, fun j x h => ?_, fun j j' x h h' => ?_⟩
  · have := get j x h; omega
  · have h1 := get j x h; have h2 := get j' x h'; omega
theorem swap_get {p : List Int} {i k : Nat} {x y : Int} (hx : p[i]? = some x) (hy : p[k]? = some y) (j : Nat) : (swap p i k)[j]? = if j = k then some x else if j = i then some y else p[j]? := by
  have hi := lt_of_get hx
  have hk := lt_of_get hy
  unfold swap
  rw [hx, hy, Option.getD_some, Option.getD_some]
  by_cases e : j = k
  · subst e; rw [if_pos rfl, List.getElem?_set_self (by rw [List.length_set]; exact hk)]
  · rw [if_neg e, List.getElem?_set_ne (Ne.symm e)]
    by_cases e2 : j = i
    · subst e2; rw [if_pos rfl, List.getElem?_set_self hi]
    · rw [if_neg e2, List.getElem?_set_ne (Ne.symm e2)]
theorem once_swap {n : Nat} {p : List Int} {i k : Nat} (h : Once n p) (hi : i < n) (hk : k < n) : Once n (swap p i k) := by
  obtain ⟨x, hx⟩ := idx_all (show i < p.length by rw [h.len]; exact hi)
  obtain ⟨y, hy⟩ := idx_all (show k < p.length by rw [h.len]; exact hk)
  have g := swap_get hx hy
  refine ⟨by rw [swap_len]; exact h.len, fun j z hz => ?_, fun j j' z hz hz' => ?_⟩
  · rw [g] at hz
    split at hz
    · obtain rfl := Option.some.inj hz; exact h.lo i _ hx
    · split at hz
      · obtain rfl := Option.some.inj hz; exact h.lo k _ hy
      · exact h.lo j z hz
  · rw [g] at hz hz'
    have e1 : ∀ m, (p[m]? = some x → m = i) := fun m hm => h.inj m i x hm hx
    have e2 : ∀ m, (p[m]? = some y → m = k) := fun m hm => h.inj m k y hm hy
    by_cases a1 : j = k
    · rw [if_pos a1] at hz
      obtain rfl := Option.some.inj hz
      by_cases a2 : j' = k
      · omega
      · rw [if_neg a2] at hz'
        by_cases a3 : j' = i
        · rw [if_pos a3] at hz'
          have := e1 k (by rw [hy]; exact hz')
          omega
        · rw [if_neg a3] at hz'
          exact absurd (e1 j' hz') a3
    · rw [if_neg a1] at hz
      by_cases a2 : j' = k
      · rw [if_pos a2] at hz'
        obtain rfl := Option.some.inj hz'
        by_cases a3 : j = i
        · rw [if_pos a3] at hz
          have := e1 k (by rw [hy]; exact hz)
          omega
        · rw [if_neg a3] at hz
          exact absurd (e1 j hz) a3
      · rw [if_neg a2] at hz'
        by_cases a3 : j = i
        · rw [if_pos a3] at hz
          obtain rfl := Option.some.inj hz
          by_cases a4 : j' = i
          · omega
          · rw [if_neg a4] at hz'
            exact absurd (e2 j' hz') a2
        · rw [if_neg a3] at hz
          by_cases a4 : j' = i
          · rw [if_pos a4] at hz'
            obtain rfl := Option.some.inj hz'
            exact absurd (e2 j hz) a1
          · rw [if_neg a4] at hz'
            exact h.inj j j' z hz hz'
theorem once_shuf {l : List Int} (hb : octB l) (a n : Nat) : ∀ j, j ≤ n - 1 → Once n (shuf l a n j).1
  | 0, _ => once_iota n
  | j + 1, h => by
    have ih := once_shuf hb a n j (by omega)
    have hd := draw_lt hb (shuf l a n j).2 (show 1 ≤ ((n - 1 - j : Nat) + 1 : Int) by omega)
    rw [shuf]
    exact once_swap ih (by omega) (by omega)
/-- Who has been met. -/
def mt (p : List Int) (n : Nat) : Nat → List Bool
  | 0 => List.replicate n false
  | k + 1 => (mt p n k).set ((p[k]?).getD 0).toNat true
theorem mt_len (p : List Int) (n : Nat) : ∀ k, (mt p n k).length = n
  | 0 => by simp [mt]
  | k + 1 => by rw [mt, List.length_set]; exact mt_len p n k
theorem mt_new {n : Nat} {p : List Int} (h : Once n p) : ∀ (k : Nat), k ≤ n → ∀ v : Nat, (mt p n k)[v]? = some true → ∃ j, j < k ∧ p[j]? = some (v : Int)
  | 0, _, v, hv => by
    rw [mt, List.getElem?_replicate] at hv
    split at hv <;> simp at hv
  | k + 1, hk, v, hv => by
    rw [mt] at hv
    obtain ⟨x, hx⟩ := idx_all (show k < p.length by rw [h.len]; omega)
    by_cases e : ((p[k]?).getD 0).toNat = v
    · rw [hx, Option.getD_some] at e
      have := h.lo k x hx
      exact ⟨k, by omega, by rw [hx]; congr 1; omega⟩
    · rw [List.getElem?_set_ne e] at hv
      obtain ⟨j, h1, h2⟩ := mt_new h k (by omega) v hv
      exact ⟨j, by omega, h2⟩
set_option maxHeartbeats 4000000 in
set_option maxRecDepth 10000 in
theorem dorder_long (l : List Int) (a n : Int) (h : 1000 < l.length) : Fun Try.prog 4 [dv l a, vi n] (vb true) := by
  have hc : ((l.length : Int) > 1000) := by omega
  (refine LCalls.enter Try.func4 rfl (by simp [Try.ntmps4]) (LK.start ?_); simp only [Try.ntmps4, enterA, Nat.zero_add])
  (repeat' first | refine LOps.done ?_ | (apply LOps.mv; (focus (first | exact Goes.free | exact Goes.on rfl rfl (by with_reducible rfl) true (by decide))); (focus (exact rfl)); (focus (exact rfl))) | (apply LOps.asg; (focus (first | exact Goes.free | exact Goes.on rfl rfl (by with_reducible rfl) true (by decide))); (focus (exact rfl)); (focus (exact rfl))) | (apply LOps.loc; (focus (first | exact Goes.free | exact Goes.on rfl rfl (by with_reducible rfl) true (by decide))); (focus (exact rfl)); (focus (exact rfl)); (focus (simp only [go_sem, ↓reduceIte, reduceCtorEq, Nat.reduceLT, Nat.reduceAdd, hc]; with_reducible rfl))) | refine LK.seq ?_ | refine LK.skip ?_ | refine LK.ret' ?_ | (apply LK.condT2; (focus (exact rfl)); (focus (with_reducible rfl)); (focus (first | with_reducible rfl | decide | exact Bool.true_or _ | exact congrArg (fun b => b || _) (Bool.true_or _)))) | (apply LK.condF2; (focus (exact rfl)); (focus (with_reducible rfl)); (focus (first | with_reducible rfl | decide | exact Bool.false_and _ | exact congrArg (fun b => b && _) (Bool.false_and _)))) | refine LK.regc ?_ | (apply retQ; (focus (first | exact lres_one rfl | exact lres_more rfl | (simp only [lres, lresv, Try.results4, go_sem, ↓reduceIte, Nat.reduceEqDiff, reduceCtorEq, Nat.reduceLT, Nat.reduceAdd, Int.reduceBEq, Int.reduceBNe, Int.reduceEq, Int.reduceLE, Int.reduceLT, Int.reduceToNat, Nat.reduceLeDiff, Nat.reduceMul, Nat.reduceSub, hc]; exact rfl)))) | (apply LOps.locFn; (focus (first | exact Goes.free | exact Goes.on rfl rfl (by with_reducible rfl) true (by decide))); (focus (exact rfl)); (focus (exact rfl)); (focus (simp only [go_sem]; exact rfl)); (focus (simp only [go_sem])); (focus (exact live_fun)); (focus (first | rfl | simp [go_sem])); (focus (first | rfl | simp [go_sem]))) | fail)
  all_goals rfl
set_option maxHeartbeats 4000000 in
set_option maxRecDepth 10000 in
theorem dorder_bad (l : List Int) (a n : Int) (h : ¬ 1000 < l.length) (hb : octB l) (ho : oOk l a n = false) : Fun Try.prog 4 [dv l a, vi n] (vb true) := by
  have hc : ¬ ((l.length : Int) > 1000) := by omega
  have hf := order_fun l a n hb (by omega)
  simp only [oV, oL, oA, oE, ho] at hf
  have hck := check_fun l a
  (refine LCalls.enter Try.func4 rfl (by simp [Try.ntmps4]) (LK.start ?_); simp only [Try.ntmps4, enterA, Nat.zero_add])
  (repeat' first | refine LOps.done ?_ | (apply LOps.mv; (focus (first | exact Goes.free | exact Goes.on rfl rfl (by with_reducible rfl) true (by decide))); (focus (exact rfl)); (focus (exact rfl))) | (apply LOps.asg; (focus (first | exact Goes.free | exact Goes.on rfl rfl (by with_reducible rfl) true (by decide))); (focus (exact rfl)); (focus (exact rfl))) | (apply LOps.ext; (focus (first | exact Goes.free | exact Goes.on rfl rfl (by with_reducible rfl) true (by decide))); (focus (exact rfl)); (focus (exact rfl)); (focus (exact rfl))) | (apply LOps.loc; (focus (first | exact Goes.free | exact Goes.on rfl rfl (by with_reducible rfl) true (by decide))); (focus (exact rfl)); (focus (exact rfl)); (focus (simp only [go_sem, ↓reduceIte, Nat.reduceEqDiff, reduceCtorEq, Nat.reduceLT, Nat.reduceAdd, Int.reduceBNe, hc]; with_reducible rfl))) | (apply LOps.loc0; (focus (first | exact Goes.free | exact Goes.on rfl rfl (by with_reducible rfl) true (by decide))); (focus (exact rfl)); (focus (simp only [go_sem, ↓reduceIte, Nat.reduceEqDiff, reduceCtorEq, Nat.reduceLT, Nat.reduceAdd]; with_reducible rfl))) | (apply LOps.pass; (focus (first | exact Goes.on rfl rfl (by with_reducible rfl) false (by decide) | exact Goes.undef rfl rfl (by with_reducible rfl))); (focus (exact rfl))) | (apply LOps.scEnd; (focus (exact rfl)); (focus (with_reducible rfl))) | refine LK.seq ?_ | refine LK.skip ?_ | refine LK.ret' ?_ | (apply LK.condT2; (focus (exact rfl)); (focus (with_reducible rfl)); (focus (first | with_reducible rfl | decide | exact Bool.true_or _ | exact congrArg (fun b => b || _) (Bool.true_or _)))) | (apply LK.condF2; (focus (exact rfl)); (focus (with_reducible rfl)); (focus (first | with_reducible rfl | decide | exact Bool.false_and _ | exact congrArg (fun b => b && _) (Bool.false_and _)))) | refine LK.regc ?_ | (apply retQ; (focus (first | exact lres_one rfl | exact lres_more rfl | (simp only [lres, lresv, Try.results4, go_sem, ↓reduceIte, Nat.reduceEqDiff, reduceCtorEq, Nat.reduceLT, Nat.reduceAdd, Int.reduceBEq, Int.reduceBNe, Int.reduceEq, Int.reduceLE, Int.reduceLT, Int.reduceToNat, Nat.reduceLeDiff, Nat.reduceMul, Nat.reduceSub, hc]; exact rfl)))) | (apply LOps.locFn; (focus (first | exact Goes.free | exact Goes.on rfl rfl (by with_reducible rfl) true (by decide))); (focus (exact rfl)); (focus (exact rfl)); (focus (simp only [go_sem, ↓reduceIte, Nat.reduceEqDiff]; exact rfl)); (focus (simp only [go_sem])); (focus (first | exact live_fun | exact hf | exact hck)); (focus (first | rfl | simp [go_sem])); (focus (first | rfl | simp [go_sem]))) | (apply LOps.or2; exact rfl; exact rfl; exact rfl; exact rfl; exact rfl; (focus (with_reducible rfl)); (focus (first | kernel_rfl | rfl))) | refine Under.mk (fun hg => ?_) | fail)
  congr 3
  simp only [oOk, Bool.and_eq_false_iff, beq_eq_false_iff_ne, decide_eq_false_iff_not] at ho
  simp only [Bool.or_eq_true, decide_eq_true_eq, bne_iff_ne, ne_eq]
  rcases ho with (h | h) | h
  · exact .inr h
  · exact .inl (.inl (by omega))
  · exact .inl (.inr (by omega))
set_option maxHeartbeats 4000000 in
set_option maxRecDepth 10000 in
theorem dorder_ok (l : List Int) (a n : Nat) (h : ¬ 1000 < l.length) (hb : octB l) (ha : a ≤ l.length) (hn : n ≤ 256) : Fun Try.prog 4 [dv l a, vi n] (vb true) := by
  have hc : ¬ ((l.length : Int) > 1000) := by omega
  have hf := order_ok l a n ha hb (by omega) hn
  have hon : Once n (orderL l a n) := once_shuf hb a n (n - 1) (Nat.le_refl _)
  have hol := hon.len
  have hm1 : n ≤ maxLen := by simp only [maxLen]; omega
  have hm2 : n ≤ 281474976710656 := by omega
  have hN : orderN l a n = min l.length (a + 2 * (n - 1)) := shuf_min ha n (n - 1)
  have w1 : IntKind.i64.wrap ((n : Int) - 1) = (n : Int) - 1 := by rw [IntKind.wrap_i64]; omega
  have w2 : IntKind.i64.wrap (2 * (if (n : Int) - 1 < 0 then 0 else (n : Int) - 1)) = ((2 * (n - 1) : Nat) : Int) := by rw [IntKind.wrap_i64]; split <;> omega
  generalize orderL l a n = p at hf hon hol
  generalize orderN l a n = b at hf hN
  (refine LCalls.enter Try.func4 rfl (by simp [Try.ntmps4]) (LK.start ?_); simp only [Try.ntmps4, enterA, Nat.zero_add])
  (repeat' first | refine LOps.done ?_ | (apply LOps.mv; (focus (first | exact Goes.free | exact Goes.on rfl rfl (by with_reducible rfl) true (by decide))); (focus (exact rfl)); (focus (exact rfl))) | (apply LOps.asg; (focus (first | exact Goes.free | exact Goes.on rfl rfl (by with_reducible rfl) true (by decide))); (focus (exact rfl)); (focus (exact rfl))) | (apply LOps.ext; (focus (first | exact Goes.free | exact Goes.on rfl rfl (by with_reducible rfl) true (by decide))); (focus (exact rfl)); (focus (exact rfl)); (focus (exact rfl))) | (apply LOps.loc; (focus (first | exact Goes.free | exact Goes.on rfl rfl (by with_reducible rfl) true (by decide))); (focus (exact rfl)); (focus (exact rfl)); (focus (simp only [go_sem, ↓reduceIte, Nat.reduceEqDiff, reduceCtorEq, Nat.reduceLT, Nat.reduceAdd, Int.reduceBNe, hc, hm1, hm2]; with_reducible rfl))) | (apply LOps.loc0; (focus (first | exact Goes.free | exact Goes.on rfl rfl (by with_reducible rfl) true (by decide))); (focus (exact rfl)); (focus (simp only [go_sem, ↓reduceIte, Nat.reduceEqDiff, reduceCtorEq, Nat.reduceLT, Nat.reduceAdd]; with_reducible rfl))) | refine LK.seq ?_ | refine LK.skip ?_ | refine LK.block ?_ | (apply LK.condF2; (focus (exact rfl)); (focus (with_reducible rfl)); (focus (first | with_reducible rfl | decide | exact Bool.false_and _ | exact congrArg (fun b => b && _) (Bool.false_and _)))) | refine LK.regc ?_ | (apply LOps.locFn; (focus (first | exact Goes.free | exact Goes.on rfl rfl (by with_reducible rfl) true (by decide))); (focus (exact rfl)); (focus (exact rfl)); (focus (simp only [go_sem, ↓reduceIte, Nat.reduceEqDiff]; exact rfl)); (focus (simp only [go_sem])); (focus (first | exact live_fun | exact hf)); (focus (first | rfl | simp [go_sem])); (focus (first | rfl | simp [go_sem]))) | fail)
  refine LK.loop (fun k : Nat => n - k) (fun k => k ≤ n) (fun k => ⟨104, [(1, vi n), (2, .ptr 0 1 0 0), (5, vb true), (6, sI p), (7, .ptr 1 1 0 0), (9, .own 2 n 0 n), (49, sI p), (50, vi n), (51, vi k)]⟩) (fun k => [(0, .arr 2 [[sU l, vi a]]), (1, .arr 2 [[sU l, vi b]]), (2, .arr 1 (oF cB (mt p n k)))]) 0 (Nat.zero_le _) (by dsimp only [mt]; rw [← hol]; exact (Sub.by rfl rfl (by first | rfl | (simp only [subB, oF_all_under, LV.under, LO.under, List.all_cons, List.all_nil, decide_true, Nat.reduceLT, Bool.and_self]; done)))) ?_
  intro k hk J hJ
  have hml := mt_len p n k
  rcases Nat.lt_or_ge k n with hlt | hge
  · obtain ⟨x, hx⟩ := idx_all (show k < p.length by omega)
    have hxb := hon.lo k x hx
    obtain ⟨q, rfl⟩ := Int.eq_ofNat_of_zero_le hxb.1
    obtain ⟨b0, hb0⟩ := idx_all (show q < (mt p n k).length by omega)
    have hbf : b0 = false := by
      cases b0 with
      | false => rfl
      | true =>
        obtain ⟨j, h1, h2⟩ := mt_new hon k hk q hb0
        have := hon.inj j k _ h2 hx
        omega
    subst hbf
    have i1 : ((k : Int) < (n : Int)) := by omega
    have i2 : ((k : Int) < (p.length : Int)) := by omega
    have i3 : ((q : Int) < (n : Int)) := by omega
    have c1 : ¬ ((q : Int) < 0) := by omega
    have c2 : ¬ ((q : Int) ≥ (n : Int)) := by omega
    have hw := wrapn (n := k) (by omega)
    have hs : (mt p n k).set q true = mt p n (k + 1) := by rw [mt, hx, Option.getD_some, Int.toNat_natCast]
    (repeat' first | refine LOps.done ?_ | (apply LOps.mv; (focus (first | exact Goes.free | exact Goes.on rfl rfl (by with_reducible rfl) true (by decide))); (focus (exact rfl)); (focus (exact rfl))) | (apply LOps.asg; (focus (first | exact Goes.free | exact Goes.on rfl rfl (by with_reducible rfl) true (by decide))); (focus (exact rfl)); (focus (exact rfl))) | (apply LOps.loc; (focus (first | exact Goes.free | exact Goes.on rfl rfl (by with_reducible rfl) true (by decide))); (focus (exact rfl)); (focus (exact rfl)); (focus (simp only [go_sem, ↓reduceIte, Nat.reduceEqDiff, reduceCtorEq, Nat.reduceLT, i1, i2, i3, c1, c2, hx, hb0, hw, hml]; with_reducible rfl))) | (apply LOps.loc0; (focus (first | exact Goes.free | exact Goes.on rfl rfl (by with_reducible rfl) true (by decide))); (focus (exact rfl)); (focus (simp only [go_sem, ↓reduceIte, Nat.reduceEqDiff, reduceCtorEq, Nat.reduceLT, hb0, hs, hml]; with_reducible rfl))) | refine LK.seq ?_ | refine LK.skip ?_ | refine LK.block ?_ | refine LK.blk ?_ | refine LK.fin ?_ | (apply LK.condT2; (focus (exact rfl)); (focus (with_reducible rfl)); (focus (first | with_reducible rfl | decide | exact Bool.true_or _ | exact congrArg (fun b => b || _) (Bool.true_or _)))) | (apply LK.condF2; (focus (exact rfl)); (focus (with_reducible rfl)); (focus (first | with_reducible rfl | decide | exact Bool.false_and _ | exact congrArg (fun b => b && _) (Bool.false_and _)))) | refine LK.regc ?_ | fail)
    apply hJ
    exact ⟨k + 1, hlt, by omega, (Sub.by rfl rfl (by first | rfl | (simp only [subB, oF_all_under, LV.under, LO.under, List.all_cons, List.all_nil, decide_true, Nat.reduceLT, Bool.and_self]; done)))⟩
  · have i1 : ¬ ((k : Int) < (n : Int)) := by omega
    (repeat' first | refine LOps.done ?_ | (apply LOps.mv; (focus (first | exact Goes.free | exact Goes.on rfl rfl (by with_reducible rfl) true (by decide))); (focus (exact rfl)); (focus (exact rfl))) | (apply LOps.asg; (focus (first | exact Goes.free | exact Goes.on rfl rfl (by with_reducible rfl) true (by decide))); (focus (exact rfl)); (focus (exact rfl))) | (apply LOps.loc; (focus (first | exact Goes.free | exact Goes.on rfl rfl (by with_reducible rfl) true (by decide))); (focus (exact rfl)); (focus (exact rfl)); (focus (simp only [go_sem, ↓reduceIte, Nat.reduceEqDiff, reduceCtorEq, Nat.reduceLT, i1, hol, w1, w2]; with_reducible rfl))) | (apply LOps.pass; (focus (first | exact Goes.on rfl rfl (by with_reducible rfl) false (by decide) | exact Goes.undef rfl rfl (by with_reducible rfl))); (focus (exact rfl))) | (apply LOps.scEnd; (focus (exact rfl)); (focus (with_reducible rfl))) | refine LK.seq ?_ | refine LK.ret' ?_ | refine LK.exit' rfl ?_ | (apply LK.condF2; (focus (exact rfl)); (focus (with_reducible rfl)); (focus (first | with_reducible rfl | decide | exact Bool.false_and _ | exact congrArg (fun b => b && _) (Bool.false_and _)))) | refine LK.regc ?_ | (apply retQ; (focus (first | exact lres_one rfl | exact lres_more rfl | (simp only [lres, lresv, Try.results4, go_sem, ↓reduceIte, Nat.reduceEqDiff, reduceCtorEq, Nat.reduceLT, Nat.reduceAdd, Int.reduceBEq, Int.reduceBNe, Int.reduceEq, Int.reduceLE, Int.reduceLT, Int.reduceToNat, Nat.reduceLeDiff, Nat.reduceMul, Nat.reduceSub, i1, hol, w1, w2]; exact rfl)))) | (apply LOps.and2; exact rfl; exact rfl; exact rfl; exact rfl; exact rfl; (focus (with_reducible rfl)); (focus (first | kernel_rfl | rfl))) | refine Under.mk (fun hg => ?_) | fail)
    have w3 : IntKind.i64.wrap ((a : Int) + ((2 * (n - 1) : Nat) : Int)) = (a : Int) + ((2 * (n - 1) : Nat) : Int) := by rw [IntKind.wrap_i64]; omega
    rw [w3]
    congr 3
    rw [Bool.and_true, beq_iff_eq]
    split <;> omega
theorem dorder_fun (l : List Int) (a n : Int) (hb : octB l) : Fun Try.prog 4 [dv l a, vi n] (vb true) := by
  by_cases h : 1000 < l.length
  · exact dorder_long l a n h
  · by_cases ho : oOk l a n = true
    · have h2 := ho
      simp only [oOk, Bool.and_eq_true, beq_iff_eq, decide_eq_true_eq] at h2
      obtain ⟨k, rfl, hk⟩ := chk_nat h2.1.1
      obtain ⟨j, rfl⟩ := Int.eq_ofNat_of_zero_le h2.1.2
      exact dorder_ok l k j h hb hk (by have := h2.2; omega)
    · exact dorder_bad l a n h hb (by simpa using ho)
theorem octets_of {l : List Int} (h : ∀ n ∈ l, (Lit.int .u8 n).wf = true) : octB l := by
  intro x hx
  have := h x hx
  simp [Lit.wf, IntKind.min, IntKind.max, IntKind.bits, IntKind.signed] at this
  omega
end Go.Proofs.Ytbojeohifgmbgaa
