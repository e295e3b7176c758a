/- The walks of chapter 16: the law PickLucky. -/
import Derived.Test.YtflfhgpcmocilaaK17
import Derived.Test.YtflfhgpcmocilaaK15
set_option linter.unusedSimpArgs false
set_option linter.unusedVariables false
namespace Go.Proofs.Ytflfhgpcmocilaa
open Go.Lw
attribute [local irreducible] LK LOps LW
/-- What comes to each that is busy. -/
def msk : List Int → List Bool → List Int
  | x :: w, y :: b => (if y then x else 0) :: msk w b
  | _, _ => []
def ten (x : Int) : Lo.Ten := ⟨x, 0, 0, 0, 0⟩
def tens (w : List Int) : List Lo.Ten := w.map ten
def lim (w : List Int) : Prop := ∀ x ∈ w, 1 ≤ x ∧ x ≤ 16
theorem msk_len : ∀ (w : List Int) (b : List Bool), w.length ≤ b.length → (msk w b).length = w.length
  | [], b, _ => by cases b <;> rfl
  | x :: w, [], h => by simp at h
  | x :: w, y :: b, h => by
    have := msk_len w b (by simpa using h)
    simp [msk, this]
theorem msk_get : ∀ (w : List Int) (b : List Bool) (i : Nat) (x : Int) (y : Bool), w[i]? = some x → b[i]? = some y → (msk w b)[i]? = some (if y then x else 0)
  | [], b, i, x, y, h, _ => by simp at h
  | x :: w, [], i, _, y, _, h => by simp at h
  | x :: w, y :: b, 0, u, v, h, h' => by
    simp at h h'; subst h; subst h'; simp [msk]
  | x :: w, y :: b, i + 1, u, v, h, h' => by
    have := msk_get w b i u v (by simpa using h) (by simpa using h')
    simpa [msk] using this
theorem msk_take : ∀ (w : List Int) (b : List Bool), msk w (b.take w.length) = msk w b
  | [], b => by cases b <;> rfl
  | x :: w, [] => rfl
  | x :: w, y :: b => by simp [msk, msk_take w b]
theorem wts_hi (t : List Lo.Ten) (b : List Bool) : ∀ (k j : Nat), k ≤ j → j < t.length → (wts t b k)[j]? = some 0
  | 0, j, _, h => by rw [wts, List.getElem?_replicate, if_pos h]
  | k + 1, j, hk, h => by
    rw [wts]
    split
    · rw [List.getElem?_set_ne (by omega)]; exact wts_hi t b k j (by omega) h
    · exact wts_hi t b k j (by omega) h
theorem wts_get (t : List Lo.Ten) (b : List Bool) : ∀ (k j : Nat) (x : Lo.Ten) (y : Bool), j < k → t[j]? = some x → b[j]? = some y → (wts t b k)[j]? = some (if y then x.w else 0)
  | 0, j, _, _, h, _, _ => absurd h (Nat.not_lt_zero _)
  | k + 1, j, x, y, hk, hx, hy => by
    have hj := lt_of_get hx
    by_cases e : j = k
    · subst e
      rw [wts, hx, hy]
      cases y with
      | true => simp only [if_true]; rw [List.getElem?_set_self (by rw [wts_len]; exact hj)]
      | false => simp only [Bool.false_eq_true, if_false]; exact wts_hi t b j j (Nat.le_refl _) hj
    · rw [wts]
      split
      · rw [List.getElem?_set_ne (by omega)]; exact wts_get t b k j x y (by omega) hx hy
      · exact wts_get t b k j x y (by omega) hx hy
theorem tens_len (w : List Int) : (tens w).length = w.length := by simp [tens]
theorem wts_msk (w : List Int) (b : List Bool) (h : w.length ≤ b.length) : wts (tens w) (b.take w.length) (tens w).length = msk w b := by
  have hl := msk_len w b h
  apply List.ext_getElem?
  intro i
  rcases Nat.lt_or_ge i w.length with hi | hi
  · obtain ⟨x, hx⟩ := idx_all hi
    obtain ⟨y, hy⟩ := idx_all (show i < b.length by omega)
    rw [msk_get w b i x y hx hy]
    have := wts_get (tens w) (b.take w.length) (tens w).length i (ten x) y (by rw [tens_len]; exact hi) (by simp [tens, hx]) (by rw [List.getElem?_take, if_pos hi, hy])
    exact this
  · rw [List.getElem?_eq_none (by rw [wts_len, tens_len]; exact hi), List.getElem?_eq_none (by rw [hl]; exact hi)]
theorem msk_small {w : List Int} (h : lim w) : ∀ (b : List Bool), ∀ x ∈ msk w b, 0 ≤ x ∧ x ≤ 16 := by
  induction w with
  | nil => intro b x hx; cases b <;> simp [msk] at hx
  | cons u w ih =>
    intro b x hx
    cases b with
    | nil => simp [msk] at hx
    | cons y b =>
      simp only [msk, List.mem_cons] at hx
      rcases hx with rfl | hx
      · have := h u (by simp)
        split <;> omega
      · exact ih (fun z hz => h z (by simp [hz])) b x hx
theorem chk_tens {w : List Int} (h : lim w) (h1 : 1 ≤ w.length) (h2 : w.length ≤ 8) : Lo.chk (tens w) = 0 := by
  have ha : (tens w).any Lo.oddT = false := by
    rw [List.any_eq_false]
    intro x hx
    simp only [tens, List.mem_map] at hx
    obtain ⟨y, hy, rfl⟩ := hx
    have := h y hy
    have e : Lo.win y 1 16 = true := Lo.win_iff.2 this
    simp only [Lo.oddT, ten, e]; decide
  have hb : Lo.badT (tens w) = false := by
    simp only [Lo.badT, ha, tens_len, Bool.or_eq_false_iff, decide_eq_false_iff_not, and_true]; omega
  rw [Lo.chk, hb, if_neg (by simp)]
/-- How often each one comes of so many draws. -/
def cnt (w : List Int) : Nat → List Int
  | 0 => List.replicate w.length 0
  | n + 1 => (cnt w n).set (pick w n) (((cnt w n)[pick w n]?).getD 0 + 1)
theorem cnt_len (w : List Int) : ∀ n, (cnt w n).length = w.length
  | 0 => by simp [cnt]
  | n + 1 => by rw [cnt, List.length_set]; exact cnt_len w n
theorem cnt_get {w : List Int} (hw : ∀ x ∈ w, odd x = false) : ∀ (n : Nat), (n : Int) ≤ sumTo w w.length → ∀ (i : Nat) (y : Int), w[i]? = some y → (cnt w n)[i]? = some (max 0 (min ((n : Int) - sumTo w i) y))
  | 0, _, i, y, hy => by
    have h1 := (sumTo_bound hw i).1
    have hi := lt_of_get hy
    rw [cnt, List.getElem?_replicate, if_pos hi]
    congr 1
    have := hw y (List.mem_of_getElem? hy)
    simp only [odd, Bool.or_eq_false_iff, decide_eq_false_iff_not] at this
    omega
  | n + 1, hn, i, y, hy => by
    have ih := cnt_get hw n (by omega)
    obtain ⟨z, p1, p2, p3⟩ := pick_spec w n (by omega) (by omega)
    have hz := hw z (List.mem_of_getElem? p1)
    have hyo := hw y (List.mem_of_getElem? hy)
    simp only [odd, Bool.or_eq_false_iff, decide_eq_false_iff_not] at hz hyo
    have hs := sumTo_succ p1
    have hsy := sumTo_succ hy
    have hil := lt_of_get p1
    rw [cnt]
    by_cases e : pick w n = i
    · subst e
      rw [p1] at hy
      obtain rfl := Option.some.inj hy
      rw [List.getElem?_set_self (by rw [cnt_len]; exact hil), ih _ z p1, Option.getD_some]
      congr 1
      omega
    · rw [List.getElem?_set_ne e, ih i y hy]
      congr 1
      rcases Nat.lt_or_ge i (pick w n) with hlt | hge
      · have hm := sumTo_mono hw (show i + 1 ≤ pick w n by omega)
        omega
      · have hm := sumTo_mono hw (show pick w n + 1 ≤ i by omega)
        omega
theorem cnt_all {w : List Int} (hw : ∀ x ∈ w, odd x = false) {n : Nat} (hn : (n : Int) = sumTo w w.length) : cnt w n = w := by
  apply List.ext_getElem?
  intro i
  rcases Nat.lt_or_ge i w.length with hi | hi
  · obtain ⟨y, hy⟩ := idx_all hi
    rw [cnt_get hw n (by omega) i y hy, hy]
    congr 1
    have hm := sumTo_mono hw (show i + 1 ≤ w.length by omega)
    have hs := sumTo_succ hy
    have := hw y (List.mem_of_getElem? hy)
    simp only [odd, Bool.or_eq_false_iff, decide_eq_false_iff_not] at this
    omega
  · rw [List.getElem?_eq_none hi, List.getElem?_eq_none (by rw [cnt_len]; exact hi)]
theorem draw_one {n : Nat} {m : Int} (hm : (n : Int) < m) : draw [0, (n : Int)] 0 m = n := by
  have e : draw [0, (n : Int)] 0 m = ((0 : Int) * 256 + (n : Int)).tmod m := by simp [draw, oct, octN]
  rw [e, show (0 : Int) * 256 + (n : Int) = (n : Int) by omega, Int.tmod_eq_emod_of_nonneg (by omega), Int.emod_eq_of_lt (by omega) hm]
theorem drawN_one (n : Nat) : drawN [0, (n : Int)] 0 = 2 := by simp [drawN, octN]
theorem sum_nat {w : List Int} (hw : ∀ x ∈ w, odd x = false) : ∃ s : Nat, sumTo w w.length = (s : Int) := ⟨(sumTo w w.length).toNat, by have := (sumTo_bound hw w.length).1; omega⟩
theorem small_sum {w : List Int} (h : ∀ x ∈ w, 0 ≤ x ∧ x ≤ 16) : ∀ k, 0 ≤ sumTo w k ∧ sumTo w k ≤ 16 * k
  | 0 => by simp [sumTo]
  | k + 1 => by
    have ih := small_sum h k
    cases hx : w[k]? with
    | none =>
      have : w.take (k + 1) = w.take k := by rw [List.take_add_one, hx]; simp
      unfold sumTo at ih ⊢
      rw [this]; omega
    | some x =>
      have := h x (List.mem_of_getElem? hx)
      rw [sumTo_succ hx]; omega
set_option maxHeartbeats 4000000 in
set_option maxRecDepth 10000 in
theorem lk_skip (w : List Int) (b : List Bool) (h : w.length < 1 ∨ 8 < w.length ∨ b.length < w.length) : Fun Try.prog 6 [sI w, sB b] (vb true) := by
  have hc : (decide ((w.length : Int) < 1) || decide ((w.length : Int) > 8) || decide ((b.length : Int) < (w.length : Int))) = true := by simp only [Bool.or_eq_true, decide_eq_true_eq]; omega
  (refine LCalls.enter Try.func6 rfl (by simp [Try.ntmps6]) (LK.start ?_); simp only [Try.ntmps6, enterA, Nat.zero_add])
  (repeat' first | refine LOps.done ?_ | (apply LOps.mv; (focus (first | exact Goes.free | exact Goes.on rfl rfl (by with_reducible rfl) true (by decide))); (focus (exact rfl)); (focus (exact rfl))) | (apply LOps.asg; (focus (first | exact Goes.free | exact Goes.on rfl rfl (by with_reducible rfl) true (by decide))); (focus (exact rfl)); (focus (exact rfl))) | (apply LOps.loc; (focus (first | exact Goes.free | exact Goes.on rfl rfl (by with_reducible rfl) true (by decide))); (focus (exact rfl)); (focus (exact rfl)); (focus (simp only [go_sem, ↓reduceIte, Nat.reduceEqDiff, reduceCtorEq]; with_reducible rfl))) | (apply LOps.pass; (focus (first | exact Goes.on rfl rfl (by with_reducible rfl) false (by decide) | exact Goes.undef rfl rfl (by with_reducible rfl))); (focus (exact rfl))) | (apply LOps.scEnd; (focus (exact rfl)); (focus (with_reducible rfl))) | refine LK.seq ?_ | refine LK.skip ?_ | (apply LK.condF2; (focus (exact rfl)); (focus (with_reducible rfl)); (focus (first | with_reducible rfl | decide | (with_reducible exact Bool.false_and _) | (with_reducible exact congrArg (fun b => b && _) (Bool.false_and _))))) | refine LK.regc ?_ | (apply LOps.locFn; (focus (first | exact Goes.free | exact Goes.on rfl rfl (by with_reducible rfl) true (by decide))); (focus (exact rfl)); (focus (exact rfl)); (focus (simp only [go_sem]; exact rfl)); (focus (simp only [go_sem])); (focus (exact live_fun)); (focus (first | rfl | simp [go_sem])); (focus (first | rfl | simp [go_sem]))) | (apply LOps.or2; exact rfl; exact rfl; exact rfl; exact rfl; exact rfl; (focus (with_reducible rfl)); (focus (first | kernel_rfl | rfl))) | refine Under.mk (fun hg => ?_) | fail)
  refine LK.condT2 rfl (by first | with_reducible rfl | rfl) (hc) ?_
  (repeat' first | refine LOps.done ?_ | (apply LOps.mv; (focus (first | exact Goes.free | exact Goes.on rfl rfl (by with_reducible rfl) true (by decide))); (focus (exact rfl)); (focus (exact rfl))) | (apply LOps.asg; (focus (first | exact Goes.free | exact Goes.on rfl rfl (by with_reducible rfl) true (by decide))); (focus (exact rfl)); (focus (exact rfl))) | refine LK.seq ?_ | refine LK.ret' ?_ | refine LK.regc ?_ | (apply retQ; (focus (first | exact lres_one rfl | exact lres_more rfl | (simp only [lres, lresv, Try.results6, go_sem, ↓reduceIte, Nat.reduceEqDiff, reduceCtorEq, Nat.reduceLT, Nat.reduceAdd, Int.reduceBEq, Int.reduceBNe, Int.reduceEq, Int.reduceLE, Int.reduceLT, Int.reduceToNat, Nat.reduceLeDiff, Nat.reduceMul, Nat.reduceSub]; exact rfl)))) | fail)
  all_goals rfl
theorem tens_push {w : List Int} {k : Nat} {x : Int} (hx : w[k]? = some x) : oF Lo.cT (tens (w.take k)) ++ [[vi x, vi 0, vi 0, vi 0, vi 0]] = oF Lo.cT (tens (w.take (k + 1))) := by
  rw [List.take_add_one, hx]
  simp [tens, oF, rF, ten, Lo.cT]
set_option maxHeartbeats 4000000 in
set_option maxRecDepth 10000 in
theorem lk_bad (w : List Int) (b : List Bool) (h : ¬ (w.length < 1 ∨ 8 < w.length ∨ b.length < w.length)) (i : Nat) (y : Int) (hy : w[i]? = some y) (hyo : y < 1 ∨ 16 < y) (hlo : ∀ (j : Nat) (x : Int), j < i → w[j]? = some x → 1 ≤ x ∧ x ≤ 16) : Fun Try.prog 6 [sI w, sB b] (vb true) := by
  have hc : (decide ((w.length : Int) < 1) || decide ((w.length : Int) > 8) || decide ((b.length : Int) < (w.length : Int))) = false := by simp only [Bool.or_eq_false_iff, decide_eq_false_iff_not]; omega
  have hil := lt_of_get hy
  (refine LCalls.enter Try.func6 rfl (by simp [Try.ntmps6]) (LK.start ?_); simp only [Try.ntmps6, enterA, Nat.zero_add])
  (repeat' first | refine LOps.done ?_ | (apply LOps.mv; (focus (first | exact Goes.free | exact Goes.on rfl rfl (by with_reducible rfl) true (by decide))); (focus (exact rfl)); (focus (exact rfl))) | (apply LOps.asg; (focus (first | exact Goes.free | exact Goes.on rfl rfl (by with_reducible rfl) true (by decide))); (focus (exact rfl)); (focus (exact rfl))) | (apply LOps.loc; (focus (first | exact Goes.free | exact Goes.on rfl rfl (by with_reducible rfl) true (by decide))); (focus (exact rfl)); (focus (exact rfl)); (focus (simp only [go_sem, ↓reduceIte, Nat.reduceEqDiff, reduceCtorEq]; with_reducible rfl))) | (apply LOps.pass; (focus (first | exact Goes.on rfl rfl (by with_reducible rfl) false (by decide) | exact Goes.undef rfl rfl (by with_reducible rfl))); (focus (exact rfl))) | (apply LOps.scEnd; (focus (exact rfl)); (focus (with_reducible rfl))) | refine LK.seq ?_ | refine LK.skip ?_ | (apply LK.condF2; (focus (exact rfl)); (focus (with_reducible rfl)); (focus (first | with_reducible rfl | decide | (with_reducible exact Bool.false_and _) | (with_reducible exact congrArg (fun b => b && _) (Bool.false_and _))))) | refine LK.regc ?_ | (apply LOps.locFn; (focus (first | exact Goes.free | exact Goes.on rfl rfl (by with_reducible rfl) true (by decide))); (focus (exact rfl)); (focus (exact rfl)); (focus (simp only [go_sem]; exact rfl)); (focus (simp only [go_sem])); (focus (exact live_fun)); (focus (first | rfl | simp [go_sem])); (focus (first | rfl | simp [go_sem]))) | (apply LOps.or2; exact rfl; exact rfl; exact rfl; exact rfl; exact rfl; (focus (with_reducible rfl)); (focus (first | kernel_rfl | rfl))) | refine Under.mk (fun hg => ?_) | fail)
  refine LK.condF2 rfl (by first | with_reducible rfl | rfl) (hc) ?_
  (repeat' first | refine LOps.done ?_ | (apply LOps.mv; (focus (first | exact Goes.free | exact Goes.on rfl rfl (by with_reducible rfl) true (by decide))); (focus (exact rfl)); (focus (exact rfl))) | (apply LOps.loc; (focus (first | exact Goes.free | exact Goes.on rfl rfl (by with_reducible rfl) true (by decide))); (focus (exact rfl)); (focus (exact rfl)); (focus (simp only [go_sem, ↓reduceIte]; with_reducible rfl))) | refine LK.seq ?_ | refine LK.skip ?_ | refine LK.block ?_ | refine LK.regc ?_ | fail)
  refine LK.own0 6 5 (by simp only [upd, go_sem]; rfl) rfl ?_
  refine LK.loop (fun k : Nat => w.length - k) (fun k => k ≤ i ∧ 0 ≤ sumTo (msk w b) k ∧ sumTo (msk w b) k ≤ 16 * k) (fun k => ⟨166, [(0, sI w), (1, sB b), (5, vb true), (6, .own 0 k 0 k), (7, vi (sumTo (msk w b) k)), (39, sI w), (40, vi w.length), (41, vi k)]⟩) (fun k => [(0, .arr 5 (oF Lo.cT (tens (w.take k))))]) 0 (by simp [sumTo]) (by dsimp only [tens]; exact (Sub.by rfl rfl (by first | rfl | (simp only [subB, MB_all_under, MI_all_under, MB_all_idp, MI_all_idp, oF_under, oF_idp, oF_all_under, oF_all_idp, MB_under, MI_under, MB_idp, MI_idp, evOk, ovOk, nvOk, keepOf, vis, LV.under, LV.unders, LV.idp, LV.idps, LO.under, LO.idp, under_pv, idp_pv, List.all_cons, List.all_nil, List.any_cons, List.any_nil, Nat.reduceBEq, beq_self_eq_true, Bool.and_true, Bool.true_and, Bool.or_true, Bool.true_or, Bool.or_false, Bool.false_or, decide_true, decide_false, Nat.reduceLT, Nat.reduceLeDiff, Nat.le_refl, Nat.reduceAdd, Bool.and_self, Bool.or_self]; done)))) ?_
  rintro k ⟨hk, hs1, hs2⟩ J hJ
  have i1 : ((k : Int) < (w.length : Int)) := by omega
  obtain ⟨x, hx⟩ := idx_all (show k < w.length by omega)
  rcases Nat.lt_or_ge k i with hlt | hge
  · obtain ⟨z, hz⟩ := idx_all (show k < b.length by omega)
    have hxb := hlo k x hlt hx
    have i3 : ((k : Int) < (b.length : Int)) := by omega
    have hm := msk_get w b k x z hx hz
    have hsx := sumTo_succ hm
    have hc2 : (decide (x < 1) || decide (x > 16)) = false := by simp only [Bool.or_eq_false_iff, decide_eq_false_iff_not]; omega
    have hwk := wrapn (n := k) (by omega)
    have hp := tens_push hx
    have htl : (tens (w.take k)).length = k := by rw [tens_len, List.length_take]; omega
    have hr : k + 1 ≤ maxLen ∧ (k + 1) * 40 ≤ 140737488355328 := by simp only [maxLen]; omega
    cases z with
    | true =>
      rw [if_pos rfl] at hsx
      have hw2 : IntKind.i64.wrap (sumTo (msk w b) k + x) = sumTo (msk w b) (k + 1) := by rw [← hsx, IntKind.wrap_i64]; omega
      (repeat' first | refine LOps.done ?_ | (apply LOps.mv; (focus (first | exact Goes.free | exact Goes.on rfl rfl (by with_reducible rfl) true (by decide))); (focus (exact rfl)); (focus (exact rfl))) | (apply LOps.asg; (focus (first | exact Goes.free | exact Goes.on rfl rfl (by with_reducible rfl) true (by decide))); (focus (exact rfl)); (focus (exact rfl))) | (apply LOps.loc; (focus (first | exact Goes.free | exact Goes.on rfl rfl (by with_reducible rfl) true (by decide))); (focus (exact rfl)); (focus (exact rfl)); (focus (simp only [go_sem, ↓reduceIte, Nat.reduceEqDiff, Nat.reduceLT, i1, hx]; with_reducible rfl))) | (apply LOps.pass; (focus (first | exact Goes.on rfl rfl (by with_reducible rfl) false (by decide) | exact Goes.undef rfl rfl (by with_reducible rfl))); (focus (exact rfl))) | (apply LOps.scEnd; (focus (exact rfl)); (focus (with_reducible rfl))) | refine LK.seq ?_ | refine LK.skip ?_ | refine LK.block ?_ | (apply LK.condT2; (focus (exact rfl)); (focus (with_reducible rfl)); (focus (first | with_reducible rfl | decide | (with_reducible exact Bool.true_or _) | (with_reducible exact congrArg (fun b => b || _) (Bool.true_or _))))) | refine LK.regc ?_ | (apply LOps.or2; exact rfl; exact rfl; exact rfl; exact rfl; exact rfl; (focus (with_reducible rfl)); (focus (first | kernel_rfl | rfl))) | refine Under.mk (fun hg => ?_) | fail)
      refine LK.condF2 rfl (by first | with_reducible rfl | rfl) (hc2) ?_
      (repeat' first | refine LOps.done ?_ | (apply LOps.mv; (focus (first | exact Goes.free | exact Goes.on rfl rfl (by with_reducible rfl) true (by decide))); (focus (exact rfl)); (focus (exact rfl))) | (apply LOps.asg; (focus (first | exact Goes.free | exact Goes.on rfl rfl (by with_reducible rfl) true (by decide))); (focus (exact rfl)); (focus (exact rfl))) | (apply LOps.loc; (focus (first | exact Goes.free | exact Goes.on rfl rfl (by with_reducible rfl) true (by decide))); (focus (exact rfl)); (focus (exact rfl)); (focus (simp only [go_sem, ↓reduceIte, Nat.reduceEqDiff, reduceCtorEq, Nat.reduceLT, Nat.reduceAdd, Nat.reduceLeDiff, i3, hz, hp, hwk, hw2, hr, htl]; with_reducible rfl))) | refine LK.seq ?_ | refine LK.skip ?_ | refine LK.blk ?_ | refine LK.fin ?_ | (apply LK.condT2; (focus (exact rfl)); (focus (with_reducible rfl)); (focus (first | with_reducible rfl | decide | (with_reducible exact Bool.true_or _) | (with_reducible exact congrArg (fun b => b || _) (Bool.true_or _))))) | refine LK.regc ?_ | fail)
      apply hJ
      exact ⟨k + 1, ⟨hlt, by omega, by omega⟩, by omega, (Sub.by rfl rfl (by first | rfl | (simp only [subB, oF_all_under, LV.under, LO.under, List.all_cons, List.all_nil, decide_true, Nat.reduceLT, Nat.reduceAdd, Bool.and_self]; done)))⟩
    | false =>
      rw [if_neg (by simp)] at hsx
      (repeat' first | refine LOps.done ?_ | (apply LOps.mv; (focus (first | exact Goes.free | exact Goes.on rfl rfl (by with_reducible rfl) true (by decide))); (focus (exact rfl)); (focus (exact rfl))) | (apply LOps.asg; (focus (first | exact Goes.free | exact Goes.on rfl rfl (by with_reducible rfl) true (by decide))); (focus (exact rfl)); (focus (exact rfl))) | (apply LOps.loc; (focus (first | exact Goes.free | exact Goes.on rfl rfl (by with_reducible rfl) true (by decide))); (focus (exact rfl)); (focus (exact rfl)); (focus (simp only [go_sem, ↓reduceIte, Nat.reduceEqDiff, Nat.reduceLT, i1, hx]; with_reducible rfl))) | (apply LOps.pass; (focus (first | exact Goes.on rfl rfl (by with_reducible rfl) false (by decide) | exact Goes.undef rfl rfl (by with_reducible rfl))); (focus (exact rfl))) | (apply LOps.scEnd; (focus (exact rfl)); (focus (with_reducible rfl))) | refine LK.seq ?_ | refine LK.skip ?_ | refine LK.block ?_ | (apply LK.condT2; (focus (exact rfl)); (focus (with_reducible rfl)); (focus (first | with_reducible rfl | decide | (with_reducible exact Bool.true_or _) | (with_reducible exact congrArg (fun b => b || _) (Bool.true_or _))))) | refine LK.regc ?_ | (apply LOps.or2; exact rfl; exact rfl; exact rfl; exact rfl; exact rfl; (focus (with_reducible rfl)); (focus (first | kernel_rfl | rfl))) | refine Under.mk (fun hg => ?_) | fail)
      refine LK.condF2 rfl (by first | with_reducible rfl | rfl) (hc2) ?_
      (repeat' first | refine LOps.done ?_ | (apply LOps.mv; (focus (first | exact Goes.free | exact Goes.on rfl rfl (by with_reducible rfl) true (by decide))); (focus (exact rfl)); (focus (exact rfl))) | (apply LOps.asg; (focus (first | exact Goes.free | exact Goes.on rfl rfl (by with_reducible rfl) true (by decide))); (focus (exact rfl)); (focus (exact rfl))) | (apply LOps.loc; (focus (first | exact Goes.free | exact Goes.on rfl rfl (by with_reducible rfl) true (by decide))); (focus (exact rfl)); (focus (exact rfl)); (focus (simp only [go_sem, ↓reduceIte, Nat.reduceEqDiff, reduceCtorEq, Nat.reduceLT, Nat.reduceAdd, Nat.reduceLeDiff, i3, hz, hp, hwk, hr, htl]; with_reducible rfl))) | refine LK.seq ?_ | refine LK.skip ?_ | refine LK.blk ?_ | refine LK.fin ?_ | (apply LK.condF2; (focus (exact rfl)); (focus (with_reducible rfl)); (focus (first | with_reducible rfl | decide | (with_reducible exact Bool.false_and _) | (with_reducible exact congrArg (fun b => b && _) (Bool.false_and _))))) | refine LK.regc ?_ | fail)
      apply hJ
      refine ⟨k + 1, ⟨hlt, by omega, by omega⟩, by omega, ?_⟩
      dsimp only
      rw [show sumTo (msk w b) (k + 1) = sumTo (msk w b) k by omega]
      exact (Sub.by rfl rfl (by first | rfl | (simp only [subB, oF_all_under, LV.under, LO.under, List.all_cons, List.all_nil, decide_true, Nat.reduceLT, Nat.reduceAdd, Bool.and_self]; done)))
  · obtain rfl : k = i := by omega
    rw [hx] at hy
    obtain rfl := Option.some.inj hy
    have hc2 : (decide (x < 1) || decide (x > 16)) = true := by simp only [Bool.or_eq_true, decide_eq_true_eq]; omega
    (repeat' first | refine LOps.done ?_ | (apply LOps.mv; (focus (first | exact Goes.free | exact Goes.on rfl rfl (by with_reducible rfl) true (by decide))); (focus (exact rfl)); (focus (exact rfl))) | (apply LOps.asg; (focus (first | exact Goes.free | exact Goes.on rfl rfl (by with_reducible rfl) true (by decide))); (focus (exact rfl)); (focus (exact rfl))) | (apply LOps.loc; (focus (first | exact Goes.free | exact Goes.on rfl rfl (by with_reducible rfl) true (by decide))); (focus (exact rfl)); (focus (exact rfl)); (focus (simp only [go_sem, ↓reduceIte, Nat.reduceEqDiff, Nat.reduceLT, i1, hx]; with_reducible rfl))) | (apply LOps.pass; (focus (first | exact Goes.on rfl rfl (by with_reducible rfl) false (by decide) | exact Goes.undef rfl rfl (by with_reducible rfl))); (focus (exact rfl))) | (apply LOps.scEnd; (focus (exact rfl)); (focus (with_reducible rfl))) | refine LK.seq ?_ | refine LK.skip ?_ | refine LK.block ?_ | (apply LK.condT2; (focus (exact rfl)); (focus (with_reducible rfl)); (focus (first | with_reducible rfl | decide | (with_reducible exact Bool.true_or _) | (with_reducible exact congrArg (fun b => b || _) (Bool.true_or _))))) | refine LK.regc ?_ | (apply LOps.or2; exact rfl; exact rfl; exact rfl; exact rfl; exact rfl; (focus (with_reducible rfl)); (focus (first | kernel_rfl | rfl))) | refine Under.mk (fun hg => ?_) | fail)
    refine LK.condT2 rfl (by first | with_reducible rfl | rfl) (hc2) ?_
    (repeat' first | refine LOps.done ?_ | (apply LOps.mv; (focus (first | exact Goes.free | exact Goes.on rfl rfl (by with_reducible rfl) true (by decide))); (focus (exact rfl)); (focus (exact rfl))) | (apply LOps.asg; (focus (first | exact Goes.free | exact Goes.on rfl rfl (by with_reducible rfl) true (by decide))); (focus (exact rfl)); (focus (exact rfl))) | refine LK.seq ?_ | refine LK.ret' ?_ | refine LK.regc ?_ | (apply retQ; (focus (first | exact lres_one rfl | exact lres_more rfl | (simp only [lres, lresv, Try.results6, go_sem, ↓reduceIte, Nat.reduceEqDiff, reduceCtorEq, Nat.reduceLT, Nat.reduceAdd, Int.reduceBEq, Int.reduceBNe, Int.reduceEq, Int.reduceLE, Int.reduceLT, Int.reduceToNat, Nat.reduceLeDiff, Nat.reduceMul, Nat.reduceSub, i1, hx]; exact rfl)))) | fail)
    all_goals rfl
end Go.Proofs.Ytflfhgpcmocilaa
