/- Chapter 11: DeleteFunc, as Drop gives it. -/
import Derived.Test.YtoppnepjemhckaaJ8
set_option linter.unusedSimpArgs false
set_option linter.unusedVariables false
namespace Go.Proofs.Ytoppnepjemhckaa
open Go.Lw
attribute [local irreducible] LK LOps LW
theorem oJ_set (l : List Jn) (i : Nat) (x : Jn) : (oF cJ l).set i [LV.pv (PV.sc (Value.int IntKind.i64 x.1)), LV.pv (PV.sc (Value.int IntKind.i64 x.2))] = oF cJ (l.set i x) := by
  simp [oF, rF, List.map_set, cJ]
theorem first_of {α : Type} {w : List α} {p : α → Bool} : (∀ x ∈ w, p x = false) ∨ ∃ (i : Nat) (y : α), w[i]? = some y ∧ p y = true ∧ ∀ (j : Nat) (x : α), j < i → w[j]? = some x → p x = false := by
  induction w with
  | nil => exact .inl (by simp)
  | cons a w ih =>
    cases hp : p a with
    | true => exact .inr ⟨0, a, rfl, hp, fun j x hj => absurd hj (Nat.not_lt_zero _)⟩
    | false =>
      rcases ih with h | ⟨i, y, h1, h2, h3⟩
      · refine .inl fun x hx => ?_
        rcases List.mem_cons.1 hx with rfl | hx
        · exact hp
        · exact h x hx
      · refine .inr ⟨i + 1, y, h1, h2, fun j x hj hx => ?_⟩
        cases j with
        | zero => obtain rfl : a = x := by simpa using hx
                  exact hp
        | succ j => exact h3 j x (by omega) hx
/-- The array, and how many are kept, behind so many. -/
def del (p : Jn → Bool) (l : List Jn) : Nat → List Jn × Nat
  | 0 => (l, 0)
  | j + 1 => match l[j]? with
    | some x => if p x = true then del p l j else ((del p l j).1.set (del p l j).2 x, (del p l j).2 + 1)
    | none => del p l j
theorem del_inv (p : Jn → Bool) (l : List Jn) : ∀ j, j ≤ l.length → (del p l j).1.length = l.length ∧ (del p l j).2 ≤ j ∧ (∀ m, (del p l j).2 ≤ m → (del p l j).1[m]? = l[m]?) ∧ (del p l j).1.take (del p l j).2 = (l.take j).filter (fun x => !(p x))
  | 0, _ => ⟨rfl, Nat.le_refl _, fun _ _ => rfl, by simp [del]⟩
  | j + 1, h => by
    obtain ⟨h1, h2, h3, h4⟩ := del_inv p l j (by omega)
    obtain ⟨x, hx⟩ := idx_all (show j < l.length by omega)
    have ht : l.take (j + 1) = l.take j ++ [x] := by rw [List.take_add_one, hx]; rfl
    by_cases e : p x = true
    · have : del p l (j + 1) = del p l j := by rw [del, hx]; simp [e]
      rw [this, ht, List.filter_append]
      refine ⟨h1, by omega, h3, ?_⟩
      rw [h4]; simp [e]
    · have : del p l (j + 1) = ((del p l j).1.set (del p l j).2 x, (del p l j).2 + 1) := by rw [del, hx]; simp [e]
      rw [this, ht, List.filter_append]
      generalize del p l j = s at h1 h2 h3 h4
      obtain ⟨c, i⟩ := s
      dsimp only at h1 h2 h3 h4 ⊢
      refine ⟨by rw [List.length_set]; exact h1, by omega, fun m hm => ?_, ?_⟩
      · rw [List.getElem?_set_ne (by omega)]; exact h3 m (by omega)
      · rw [List.take_add_one, List.take_set_of_le (Nat.le_refl _), h4, List.getElem?_set_self (by omega)]
        simp [e]
theorem del_first {p : Jn → Bool} {l : List Jn} : ∀ {j : Nat}, j ≤ l.length → (∀ (m : Nat) (x : Jn), m < j → l[m]? = some x → p x = false) → del p l j = (l, j)
  | 0, _, _ => rfl
  | j + 1, h, hn => by
    obtain ⟨x, hx⟩ := idx_all (show j < l.length by omega)
    have hne := hn j x (Nat.lt_succ_self _) hx
    rw [del, hx]
    simp only [hne, Bool.false_eq_true, if_false]
    rw [del_first (by omega) fun m y hm hy => hn m y (by omega) hy]
    congr 1
    apply List.ext_getElem?
    intro k
    by_cases e : j = k
    · subst e; rw [List.getElem?_set_self (by show j < l.length; omega), hx]
    · rw [List.getElem?_set_ne e]
def delN (p : Jn → Bool) (l : List Jn) : Nat := (del p l l.length).2
def delL (p : Jn → Bool) (l : List Jn) : List Jn := (del p l l.length).1.take (delN p l) ++ List.replicate (l.length - delN p l) (0, 0)
theorem delL_take (p : Jn → Bool) (l : List Jn) : (delL p l).take (delN p l) = l.filter (fun x => !(p x)) := by
  obtain ⟨h1, h2, h3, h4⟩ := del_inv p l l.length (Nat.le_refl _)
  have : ((del p l l.length).1.take (delN p l)).length = delN p l := by rw [List.length_take]; unfold delN; omega
  rw [delL, List.take_left' this]
  rw [List.take_length] at h4
  exact h4
theorem delN_le (p : Jn → Bool) (l : List Jn) : delN p l ≤ l.length := (del_inv p l l.length (Nat.le_refl _)).2.1
theorem delL_len (p : Jn → Bool) (l : List Jn) : (delL p l).length = l.length := by
  have h := del_inv p l l.length (Nat.le_refl _)
  rw [delL, List.length_append, List.length_take, List.length_replicate, h.1]
  have := delN_le p l
  omega
theorem delL_none {p : Jn → Bool} {l : List Jn} (h : ∀ x ∈ l, p x = false) : delN p l = l.length ∧ delL p l = l := by
  have h1 : del p l l.length = (l, l.length) := del_first (Nat.le_refl _) fun m x _ hx => h x (List.mem_of_getElem? hx)
  have h2 : delN p l = l.length := by rw [delN, h1]
  refine ⟨h2, ?_⟩
  rw [delL, h2, h1]; simp
/-- Who of those that are taken out, behind so many. -/
def whoS (p : Jn → Bool) (l : List Jn) : Nat → List Int
  | 0 => []
  | j + 1 => match l[j]? with
    | some x => if p x = true then whoS p l j ++ [x.2] else whoS p l j
    | none => whoS p l j
theorem whoS_eq (p : Jn → Bool) (l : List Jn) : ∀ j, whoS p l j = ((l.take j).filter p).map (·.2)
  | 0 => by simp [whoS]
  | j + 1 => by
    rw [whoS, List.take_add_one, List.filter_append, List.map_append, ← whoS_eq p l j]
    cases h : l[j]? with
    | none => simp
    | some x => by_cases e : p x = true <;> simp [e]
theorem whoS_len (p : Jn → Bool) (l : List Jn) : ∀ j, (whoS p l j).length ≤ j
  | 0 => by simp [whoS]
  | j + 1 => by
    have := whoS_len p l j
    rw [whoS]
    split
    · split
      · rw [List.length_append, List.length_singleton]; omega
      · omega
    · omega
theorem whoS_first {p : Jn → Bool} {l : List Jn} : ∀ {j : Nat}, (∀ (m : Nat) (x : Jn), m < j → l[m]? = some x → p x = false) → whoS p l j = []
  | 0, _ => rfl
  | j + 1, hn => by
    rw [whoS, whoS_first fun m y hm hy => hn m y (by omega) hy]
    cases h : l[j]? with
    | none => rfl
    | some x => simp [hn j x (Nat.lt_succ_self _) h]
set_option maxHeartbeats 4000000 in
set_option maxRecDepth 10000 in
theorem delete_drop (l : List Jn) (me : Int) (n : Nat) (hn : l.length = n) (hl : n ≤ 100000) (p : Jn → Bool) (hp : p = (fun x : Jn => x.2 == me)) :
    LCalls Try.prog 27 [.own 1 n 0 n, .fn (.func 30) [.ptr 0 1 0 0]] (fun u s => u = .own 1 n 0 (delN p l) ∧ s = ⟨2, [(1, .arr 2 (oF cJ (delL p l))), (0, .arr 1 [[vi me]])]⟩) ⟨2, [(1, .arr 2 (oF cJ l)), (0, .arr 1 [[vi me]])]⟩ := by
  have ht : l.take n = l := List.take_of_length_le (by omega)
  have hpx : ∀ x : Jn, (x.2 == me) = p x := by rw [hp]; exact fun _ => rfl
  clear hp
  refine LCalls.forget rfl (by simp [LO.under, LV.under, oF_all_under]) ?_
  rcases first_of (w := l) (p := p) with hno | ⟨i0, y, hi, hy, hlo⟩
  · obtain ⟨d1, d2⟩ := delL_none hno
    rw [d1, d2, hn]
    (refine LCalls.enter Try.func27 rfl (by simp [Try.ntmps27]) (LK.start ?_); simp only [Try.ntmps27, enterA, Nat.zero_add])
    (repeat' first | refine LOps.done ?_ | (apply LOps.mv; (focus (first | exact Goes.free | exact Goes.on rfl rfl (by with_reducible rfl) true (by decide))); (focus (exact rfl)); (focus (exact rfl))) | (apply LOps.loc; (focus (first | exact Goes.free | exact Goes.on rfl rfl (by with_reducible rfl) true (by decide))); (focus (exact rfl)); (focus (exact rfl)); (focus (simp only [go_sem, ↓reduceIte, reduceCtorEq, hn, ht]; with_reducible rfl))) | refine LK.seq ?_ | refine LK.block ?_ | refine LK.regc ?_ | ((apply LOps.inline; (focus (first | exact Goes.free | exact Goes.on rfl rfl (by with_reducible rfl) true (by decide))); (focus (exact rfl)); (focus (exact rfl)); (focus (simp only [go_sem, ↓reduceIte, Nat.reduceEqDiff]; exact rfl)); (focus (simp only [go_sem]))); (first | (refine LCalls.enter Try.func37 rfl (by simp [Try.ntmps37]) (LK.start ?_); simp only [Try.ntmps37, enterA, Nat.zero_add]) | fail)) | fail)
    refine LK.loop (fun k : Nat => n - k) (fun k => k ≤ n) (fun k => ⟨19, [(0, .own 1 n 0 n), (1, .fn (.func 30) [.ptr 0 1 0 0]), (7, vi n), (8, vi k)]⟩) (fun k => [(1, .arr 2 (oF cJ l)), (0, .arr 1 [[vi me]])]) 0 (Nat.zero_le _) (Sub.by rfl rfl (by first | rfl | (simp only [subB, oF_all_under, LV.under, LV.unders, LO.under, List.all_cons, List.all_nil, decide_true, Nat.reduceLT, Bool.and_self]; done))) ?_
    intro k hk J hJ
    rcases Nat.lt_or_ge k n with hlt | hge
    · obtain ⟨x, hx⟩ := idx_all (show k < l.length by omega)
      have hne := hno x (List.mem_of_getElem? hx)
      have hq := hpx x
      rw [hne] at hq
      have i1 : ((k : Int) < (n : Int)) := by omega
      have hw := wrapn (n := k) (by omega)
      have hs : whoS p l (k + 1) = whoS p l k := by rw [whoS, hx]; simp [hne]
      (repeat' first | refine LOps.done ?_ | (apply LOps.mv; (focus (first | exact Goes.free | exact Goes.on rfl rfl (by with_reducible rfl) true (by decide))); (focus (exact rfl)); (focus (exact rfl))) | (apply LOps.asg; (focus (first | exact Goes.free | exact Goes.on rfl rfl (by with_reducible rfl) true (by decide))); (focus (exact rfl)); (focus (exact rfl))) | (apply LOps.loc; (focus (first | exact Goes.free | exact Goes.on rfl rfl (by with_reducible rfl) true (by decide))); (focus (exact rfl)); (focus (exact rfl)); (focus (simp only [go_sem, ↓reduceIte, Nat.reduceEqDiff, reduceCtorEq, Nat.reduceLT, Nat.reduceAdd, i1, hx, hw, hn, hq, cJ_eq]; with_reducible rfl))) | refine LK.seq ?_ | refine LK.skip ?_ | refine LK.block ?_ | refine LK.blk ?_ | refine LK.fin ?_ | refine LK.ret' ?_ | (apply LK.condT2; (focus (exact rfl)); (focus (with_reducible rfl)); (focus (first | with_reducible rfl | decide | (with_reducible exact Bool.true_or _) | (with_reducible exact congrArg (fun b => b || _) (Bool.true_or _))))) | (apply LK.condF2; (focus (exact rfl)); (focus (with_reducible rfl)); (focus (first | with_reducible rfl | decide | (with_reducible exact Bool.false_and _) | (with_reducible exact congrArg (fun b => b && _) (Bool.false_and _))))) | refine LK.regc ?_ | (apply retQ; (focus (first | exact lres_one rfl | exact lres_more rfl | (simp only [lres, lresv, Try.results37, Try.results30, go_sem, ↓reduceIte, Nat.reduceEqDiff, reduceCtorEq, Nat.reduceLT, Nat.reduceAdd, Int.reduceBEq, Int.reduceBNe, Int.reduceEq, Int.reduceLE, Int.reduceLT, Int.reduceToNat, Nat.reduceLeDiff, Nat.reduceMul, Nat.reduceSub, i1, hx, hw, hn, hq, cJ_eq]; exact rfl)))) | ((apply LOps.inline; (focus (first | exact Goes.free | exact Goes.on rfl rfl (by with_reducible rfl) true (by decide))); (focus (exact rfl)); (focus (exact rfl)); (focus (simp only [go_sem, ↓reduceIte, Nat.reduceEqDiff]; exact rfl)); (focus (simp only [go_sem]))); (first | (refine LCalls.enter Try.func30 rfl (by simp [Try.ntmps30]) (LK.start ?_); simp only [Try.ntmps30, enterA, Nat.zero_add]) | fail)) | fail)
      apply hJ
      refine ⟨k + 1, hlt, by omega, ?_⟩
      skip
      exact (Sub.by rfl rfl (by first | rfl | (simp only [subB, oF_all_under, LV.under, LV.unders, LO.under, List.all_cons, List.all_nil, decide_true, Nat.reduceLT, Bool.and_self]; done)))
    · have i1 : ¬ ((k : Int) < (n : Int)) := by omega
      obtain rfl : k = n := by omega
      (repeat' first | refine LOps.done ?_ | (apply LOps.mv; (focus (first | exact Goes.free | exact Goes.on rfl rfl (by with_reducible rfl) true (by decide))); (focus (exact rfl)); (focus (exact rfl))) | (apply LOps.asg; (focus (first | exact Goes.free | exact Goes.on rfl rfl (by with_reducible rfl) true (by decide))); (focus (exact rfl)); (focus (exact rfl))) | (apply LOps.loc; (focus (first | exact Goes.free | exact Goes.on rfl rfl (by with_reducible rfl) true (by decide))); (focus (exact rfl)); (focus (exact rfl)); (focus (simp only [go_sem, ↓reduceIte, Nat.reduceEqDiff, i1]; with_reducible rfl))) | refine LK.seq ?_ | refine LK.ret' ?_ | refine LK.exit' rfl ?_ | (apply LK.condT2; (focus (exact rfl)); (focus (with_reducible rfl)); (focus (first | with_reducible rfl | decide | (with_reducible exact Bool.true_or _) | (with_reducible exact congrArg (fun b => b || _) (Bool.true_or _))))) | (apply LK.condF2; (focus (exact rfl)); (focus (with_reducible rfl)); (focus (first | with_reducible rfl | decide | (with_reducible exact Bool.false_and _) | (with_reducible exact congrArg (fun b => b && _) (Bool.false_and _))))) | refine LK.regc ?_ | (apply retQ; (focus (first | exact lres_one rfl | exact lres_more rfl | (simp only [lres, lresv, Try.results37, Try.results27, go_sem, ↓reduceIte, Nat.reduceEqDiff, reduceCtorEq, Nat.reduceLT, Nat.reduceAdd, Int.reduceBEq, Int.reduceBNe, Int.reduceEq, Int.reduceLE, Int.reduceLT, Int.reduceToNat, Nat.reduceLeDiff, Nat.reduceMul, Nat.reduceSub, i1]; exact rfl)))) | fail)
      all_goals exact ⟨rfl, rfl⟩
  · have hil := lt_of_get hi
    have hqy := hpx y
    rw [hy] at hqy
    (refine LCalls.enter Try.func27 rfl (by simp [Try.ntmps27]) (LK.start ?_); simp only [Try.ntmps27, enterA, Nat.zero_add])
    (repeat' first | refine LOps.done ?_ | (apply LOps.mv; (focus (first | exact Goes.free | exact Goes.on rfl rfl (by with_reducible rfl) true (by decide))); (focus (exact rfl)); (focus (exact rfl))) | (apply LOps.loc; (focus (first | exact Goes.free | exact Goes.on rfl rfl (by with_reducible rfl) true (by decide))); (focus (exact rfl)); (focus (exact rfl)); (focus (simp only [go_sem, ↓reduceIte, reduceCtorEq, hn, ht]; with_reducible rfl))) | refine LK.seq ?_ | refine LK.block ?_ | refine LK.regc ?_ | ((apply LOps.inline; (focus (first | exact Goes.free | exact Goes.on rfl rfl (by with_reducible rfl) true (by decide))); (focus (exact rfl)); (focus (exact rfl)); (focus (simp only [go_sem, ↓reduceIte, Nat.reduceEqDiff]; exact rfl)); (focus (simp only [go_sem]))); (first | (refine LCalls.enter Try.func37 rfl (by simp [Try.ntmps37]) (LK.start ?_); simp only [Try.ntmps37, enterA, Nat.zero_add]) | fail)) | fail)
    refine LK.loop (fun k : Nat => n - k) (fun k => k ≤ i0) (fun k => ⟨19, [(0, .own 1 n 0 n), (1, .fn (.func 30) [.ptr 0 1 0 0]), (7, vi n), (8, vi k)]⟩) (fun k => [(1, .arr 2 (oF cJ l)), (0, .arr 1 [[vi me]])]) 0 (Nat.zero_le _) (Sub.by rfl rfl (by first | rfl | (simp only [subB, oF_all_under, LV.under, LV.unders, LO.under, List.all_cons, List.all_nil, decide_true, Nat.reduceLT, Bool.and_self]; done))) ?_
    intro k hk J hJ
    have i1 : ((k : Int) < (n : Int)) := by omega
    rcases Nat.lt_or_ge k i0 with hlt | hge
    · obtain ⟨x, hx⟩ := idx_all (show k < l.length by omega)
      have hne := hlo k x hlt hx
      have hq := hpx x
      rw [hne] at hq
      have hw := wrapn (n := k) (by omega)
      have hs : whoS p l (k + 1) = whoS p l k := by rw [whoS, hx]; simp [hne]
      (repeat' first | refine LOps.done ?_ | (apply LOps.mv; (focus (first | exact Goes.free | exact Goes.on rfl rfl (by with_reducible rfl) true (by decide))); (focus (exact rfl)); (focus (exact rfl))) | (apply LOps.asg; (focus (first | exact Goes.free | exact Goes.on rfl rfl (by with_reducible rfl) true (by decide))); (focus (exact rfl)); (focus (exact rfl))) | (apply LOps.loc; (focus (first | exact Goes.free | exact Goes.on rfl rfl (by with_reducible rfl) true (by decide))); (focus (exact rfl)); (focus (exact rfl)); (focus (simp only [go_sem, ↓reduceIte, Nat.reduceEqDiff, reduceCtorEq, Nat.reduceLT, Nat.reduceAdd, i1, hx, hw, hn, hq, cJ_eq]; with_reducible rfl))) | refine LK.seq ?_ | refine LK.skip ?_ | refine LK.block ?_ | refine LK.blk ?_ | refine LK.fin ?_ | refine LK.ret' ?_ | (apply LK.condT2; (focus (exact rfl)); (focus (with_reducible rfl)); (focus (first | with_reducible rfl | decide | (with_reducible exact Bool.true_or _) | (with_reducible exact congrArg (fun b => b || _) (Bool.true_or _))))) | (apply LK.condF2; (focus (exact rfl)); (focus (with_reducible rfl)); (focus (first | with_reducible rfl | decide | (with_reducible exact Bool.false_and _) | (with_reducible exact congrArg (fun b => b && _) (Bool.false_and _))))) | refine LK.regc ?_ | (apply retQ; (focus (first | exact lres_one rfl | exact lres_more rfl | (simp only [lres, lresv, Try.results37, Try.results30, go_sem, ↓reduceIte, Nat.reduceEqDiff, reduceCtorEq, Nat.reduceLT, Nat.reduceAdd, Int.reduceBEq, Int.reduceBNe, Int.reduceEq, Int.reduceLE, Int.reduceLT, Int.reduceToNat, Nat.reduceLeDiff, Nat.reduceMul, Nat.reduceSub, i1, hx, hw, hn, hq, cJ_eq]; exact rfl)))) | ((apply LOps.inline; (focus (first | exact Goes.free | exact Goes.on rfl rfl (by with_reducible rfl) true (by decide))); (focus (exact rfl)); (focus (exact rfl)); (focus (simp only [go_sem, ↓reduceIte, Nat.reduceEqDiff]; exact rfl)); (focus (simp only [go_sem]))); (first | (refine LCalls.enter Try.func30 rfl (by simp [Try.ntmps30]) (LK.start ?_); simp only [Try.ntmps30, enterA, Nat.zero_add]) | fail)) | fail)
      apply hJ
      refine ⟨k + 1, hlt, by omega, ?_⟩
      skip
      exact (Sub.by rfl rfl (by first | rfl | (simp only [subB, oF_all_under, LV.under, LV.unders, LO.under, List.all_cons, List.all_nil, decide_true, Nat.reduceLT, Bool.and_self]; done)))
    · obtain rfl : k = i0 := by omega
      have hw := wrapn (n := k) (by omega)
      have hm1 : ((k : Int) == -1) = false := by rw [beq_eq_false_iff_ne]; omega
      (repeat' first | refine LOps.done ?_ | (apply LOps.mv; (focus (first | exact Goes.free | exact Goes.on rfl rfl (by with_reducible rfl) true (by decide))); (focus (exact rfl)); (focus (exact rfl))) | (apply LOps.asg; (focus (first | exact Goes.free | exact Goes.on rfl rfl (by with_reducible rfl) true (by decide))); (focus (exact rfl)); (focus (exact rfl))) | (apply LOps.loc; (focus (first | exact Goes.free | exact Goes.on rfl rfl (by with_reducible rfl) true (by decide))); (focus (exact rfl)); (focus (exact rfl)); (focus (simp only [go_sem, ↓reduceIte, Nat.reduceEqDiff, reduceCtorEq, Nat.reduceLT, Nat.reduceAdd, i1, hi, hw, hn, hm1, hqy, cJ_eq]; with_reducible rfl))) | refine LK.seq ?_ | refine LK.skip ?_ | refine LK.block ?_ | refine LK.ret' ?_ | (apply LK.condT2; (focus (exact rfl)); (focus (with_reducible rfl)); (focus (first | with_reducible rfl | decide | (with_reducible exact Bool.true_or _) | (with_reducible exact congrArg (fun b => b || _) (Bool.true_or _))))) | (apply LK.condF2; (focus (exact rfl)); (focus (with_reducible rfl)); (focus (first | with_reducible rfl | decide | (with_reducible exact Bool.false_and _) | (with_reducible exact congrArg (fun b => b && _) (Bool.false_and _))))) | refine LK.regc ?_ | (apply retQ; (focus (first | exact lres_one rfl | exact lres_more rfl | (simp only [lres, lresv, Try.results37, Try.results27, Try.results30, go_sem, ↓reduceIte, Nat.reduceEqDiff, reduceCtorEq, Nat.reduceLT, Nat.reduceAdd, Int.reduceBEq, Int.reduceBNe, Int.reduceEq, Int.reduceLE, Int.reduceLT, Int.reduceToNat, Nat.reduceLeDiff, Nat.reduceMul, Nat.reduceSub, i1, hi, hw, hn, hm1, ht, hqy, cJ_eq]; exact rfl)))) | ((apply LOps.inline; (focus (first | exact Goes.free | exact Goes.on rfl rfl (by with_reducible rfl) true (by decide))); (focus (exact rfl)); (focus (exact rfl)); (focus (simp only [go_sem, ↓reduceIte, Nat.reduceEqDiff]; exact rfl)); (focus (simp only [go_sem]))); (first | (refine LCalls.enter Try.func30 rfl (by simp [Try.ntmps30]) (LK.start ?_); simp only [Try.ntmps30, enterA, Nat.zero_add]) | fail)) | fail)
      have h0 : del p l k = (l, k) := del_first (by omega) hlo
      have h00 : del p l (k + 1) = (l, k) := by rw [del, hi]; simp [h0, hy]
      refine LK.loop (fun j : Nat => n - j) (fun j => k + 1 ≤ j ∧ j ≤ n) (fun j => ⟨42, [(0, .own 1 n 0 n), (1, .fn (.func 30) [.ptr 0 1 0 0]), (5, vi ((del p l j).2 : Nat)), (6, vi j)]⟩) (fun j => [(1, .arr 2 (oF cJ (del p l j).1)), (0, .arr 1 [[vi me]])]) (k + 1) ⟨Nat.le_refl _, by omega⟩ (by dsimp only; rw [h00]; exact (Sub.by rfl rfl (by first | rfl | (simp only [subB, oF_all_under, LV.under, LV.unders, LO.under, List.all_cons, List.all_nil, decide_true, Nat.reduceLT, Bool.and_self]; done)))) ?_
      rintro j ⟨hj1, hj2⟩ J' hJ'
      obtain ⟨d1, d2, d3, d4⟩ := del_inv p l j (by omega)
      have htj : (del p l j).1.take n = (del p l j).1 := List.take_of_length_le (by omega)
      rcases Nat.lt_or_ge j n with hlt | hge2
      · obtain ⟨x, hx⟩ := idx_all (show j < l.length by omega)
        have hxd : (del p l j).1[j]? = some x := by rw [d3 j d2]; exact hx
        have c1 : ((j : Int) < (n : Int)) := by omega
        have c2 : (((del p l j).2 : Nat) : Int) < (n : Int) := by omega
        have hwj := wrapn (n := j) (by omega)
        have hwi := wrapn (n := (del p l j).2) (by omega)
        obtain ⟨z, hz⟩ := idx_all (show (del p l j).2 < (del p l j).1.length by omega)
        have hwl := whoS_len p l j
        have hmx : (whoS p l j).length + 1 ≤ maxLen ∧ ((whoS p l j).length + 1) * 8 ≤ 140737488355328 := by simp only [maxLen]; omega
        have htw : (whoS p l j).take (whoS p l j).length = whoS p l j := List.take_length
        cases e : p x with
        | true =>
          have hq := hpx x
          rw [e] at hq
          have hs : del p l (j + 1) = del p l j := by rw [del, hx]; simp [e]
          have hsw : whoS p l (j + 1) = whoS p l j ++ [x.2] := by rw [whoS, hx]; simp [e]
          have hap : oF (cI .i64) (whoS p l j) ++ [[vi x.2]] = oF (cI .i64) (whoS p l j ++ [x.2]) := by simp [oF, rF, cI]
          rw [hn] at d1
          (repeat' first | refine LOps.done ?_ | (apply LOps.mv; (focus (first | exact Goes.free | exact Goes.on rfl rfl (by with_reducible rfl) true (by decide))); (focus (exact rfl)); (focus (exact rfl))) | (apply LOps.asg; (focus (first | exact Goes.free | exact Goes.on rfl rfl (by with_reducible rfl) true (by decide))); (focus (exact rfl)); (focus (exact rfl))) | (apply LOps.loc; (focus (first | exact Goes.free | exact Goes.on rfl rfl (by with_reducible rfl) true (by decide))); (focus (exact rfl)); (focus (exact rfl)); (focus (simp only [go_sem, ↓reduceIte, Nat.reduceEqDiff, reduceCtorEq, Nat.reduceLT, Nat.reduceAdd, c1, hxd, hwj, d1, htj, hq, cJ_eq]; with_reducible rfl))) | (apply LOps.loc0; (focus (first | exact Goes.free | exact Goes.on rfl rfl (by with_reducible rfl) true (by decide))); (focus (exact rfl)); (focus (simp only [go_sem, ↓reduceIte, Nat.reduceEqDiff, reduceCtorEq, Nat.reduceLT, Nat.reduceAdd]; with_reducible rfl))) | refine LK.seq ?_ | refine LK.skip ?_ | refine LK.block ?_ | refine LK.blk ?_ | refine LK.fin ?_ | refine LK.ret' ?_ | (apply LK.condT2; (focus (exact rfl)); (focus (with_reducible rfl)); (focus (first | with_reducible rfl | decide | (with_reducible exact Bool.true_or _) | (with_reducible exact congrArg (fun b => b || _) (Bool.true_or _))))) | (apply LK.condF2; (focus (exact rfl)); (focus (with_reducible rfl)); (focus (first | with_reducible rfl | decide | (with_reducible exact Bool.false_and _) | (with_reducible exact congrArg (fun b => b && _) (Bool.false_and _))))) | refine LK.regc ?_ | (apply retQ; (focus (first | exact lres_one rfl | exact lres_more rfl | (simp only [lres, lresv, Try.results27, Try.results30, go_sem, ↓reduceIte, Nat.reduceEqDiff, reduceCtorEq, Nat.reduceLT, Nat.reduceAdd, Int.reduceBEq, Int.reduceBNe, Int.reduceEq, Int.reduceLE, Int.reduceLT, Int.reduceToNat, Nat.reduceLeDiff, Nat.reduceMul, Nat.reduceSub, c1, c2, hxd, hwj, hwi, d1, htj, hz, hq, cJ_eq]; exact rfl)))) | ((apply LOps.inline; (focus (first | exact Goes.free | exact Goes.on rfl rfl (by with_reducible rfl) true (by decide))); (focus (exact rfl)); (focus (exact rfl)); (focus (simp only [go_sem, ↓reduceIte, Nat.reduceEqDiff]; exact rfl)); (focus (simp only [go_sem]))); (first | (refine LCalls.enter Try.func30 rfl (by simp [Try.ntmps30]) (LK.start ?_); simp only [Try.ntmps30, enterA, Nat.zero_add]) | fail)) | fail)
          apply hJ'
          refine ⟨j + 1, ⟨by omega, by omega⟩, by omega, ?_⟩
          dsimp only
          rw [hs]
          skip
          exact (Sub.by rfl rfl (by first | rfl | (simp only [subB, oF_all_under, LV.under, LV.unders, LO.under, List.all_cons, List.all_nil, decide_true, Nat.reduceLT, Bool.and_self]; done)))
        | false =>
          have hq := hpx x
          rw [e] at hq
          have hs : del p l (j + 1) = ((del p l j).1.set (del p l j).2 x, (del p l j).2 + 1) := by rw [del, hx]; simp [e]
          have hsw : whoS p l (j + 1) = whoS p l j := by rw [whoS, hx]; simp [e]
          rw [hn] at d1
          (repeat' first | refine LOps.done ?_ | (apply LOps.mv; (focus (first | exact Goes.free | exact Goes.on rfl rfl (by with_reducible rfl) true (by decide))); (focus (exact rfl)); (focus (exact rfl))) | (apply LOps.asg; (focus (first | exact Goes.free | exact Goes.on rfl rfl (by with_reducible rfl) true (by decide))); (focus (exact rfl)); (focus (exact rfl))) | (apply LOps.loc; (focus (first | exact Goes.free | exact Goes.on rfl rfl (by with_reducible rfl) true (by decide))); (focus (exact rfl)); (focus (exact rfl)); (focus (simp only [go_sem, ↓reduceIte, Nat.reduceEqDiff, reduceCtorEq, Nat.reduceLT, Nat.reduceAdd, c1, c2, hxd, hwj, hwi, d1, htj, hq, cJ_eq]; with_reducible rfl))) | (apply LOps.loc0; (focus (first | exact Goes.free | exact Goes.on rfl rfl (by with_reducible rfl) true (by decide))); (focus (exact rfl)); (focus (simp only [go_sem, ↓reduceIte, Nat.reduceEqDiff, reduceCtorEq, Nat.reduceLT, Nat.reduceAdd, d1, hz, cJ_eq, oJ_set]; with_reducible rfl))) | refine LK.seq ?_ | refine LK.skip ?_ | refine LK.block ?_ | refine LK.blk ?_ | refine LK.fin ?_ | refine LK.ret' ?_ | (apply LK.condT2; (focus (exact rfl)); (focus (with_reducible rfl)); (focus (first | with_reducible rfl | decide | (with_reducible exact Bool.true_or _) | (with_reducible exact congrArg (fun b => b || _) (Bool.true_or _))))) | refine LK.regc ?_ | (apply retQ; (focus (first | exact lres_one rfl | exact lres_more rfl | (simp only [lres, lresv, Try.results27, Try.results30, go_sem, ↓reduceIte, Nat.reduceEqDiff, reduceCtorEq, Nat.reduceLT, Nat.reduceAdd, Int.reduceBEq, Int.reduceBNe, Int.reduceEq, Int.reduceLE, Int.reduceLT, Int.reduceToNat, Nat.reduceLeDiff, Nat.reduceMul, Nat.reduceSub, c1, c2, hxd, hwj, hwi, d1, htj, hz, hq, cJ_eq, oJ_set]; exact rfl)))) | ((apply LOps.inline; (focus (first | exact Goes.free | exact Goes.on rfl rfl (by with_reducible rfl) true (by decide))); (focus (exact rfl)); (focus (exact rfl)); (focus (simp only [go_sem, ↓reduceIte, Nat.reduceEqDiff]; exact rfl)); (focus (simp only [go_sem]))); (first | (refine LCalls.enter Try.func30 rfl (by simp [Try.ntmps30]) (LK.start ?_); simp only [Try.ntmps30, enterA, Nat.zero_add]) | fail)) | fail)
          apply hJ'
          refine ⟨j + 1, ⟨by omega, by omega⟩, by omega, ?_⟩
          dsimp only
          rw [hs]
          dsimp only
          exact (Sub.by rfl rfl (by first | rfl | (simp only [subB, oF_all_under, LV.under, LV.unders, LO.under, List.all_cons, List.all_nil, decide_true, Nat.reduceLT, Bool.and_self]; done)))
      · obtain rfl : j = n := by omega
        have c1 : ¬ ((j : Int) < (j : Int)) := by omega
        have hdn : (del p l j).2 = delN p l := by rw [delN, hn]
        have hdnl := delN_le p l
        have c2 : ((delN p l : Nat) : Int) ≤ (j : Int) := by omega
        have c3 : delN p l ≤ j := by omega
        have c4 : (0 : Int) ≤ ((delN p l : Nat) : Int) := by omega
        have c5 : delN p l + (j - delN p l) = j := by omega
        have hL : (del p l j).1.take (delN p l) ++ List.replicate (j - delN p l) (0, 0) = delL p l := by rw [delL, hn]
        rw [hn] at d1
        rw [hdn]
        have d5 : (del p l j).1.drop j = [] := List.drop_eq_nil_of_le (by omega)
        have hdl : (delL p l).length = j := by rw [delL_len, hn]
        have hrz : List.replicate (j - delN p l) [vi 0, vi 0] = oF cJ (List.replicate (j - delN p l) (0, 0)) := by simp [oF, rF, cJ]
        (repeat' first | refine LOps.done ?_ | (apply LOps.mv; (focus (first | exact Goes.free | exact Goes.on rfl rfl (by with_reducible rfl) true (by decide))); (focus (exact rfl)); (focus (exact rfl))) | (apply LOps.asg; (focus (first | exact Goes.free | exact Goes.on rfl rfl (by with_reducible rfl) true (by decide))); (focus (exact rfl)); (focus (exact rfl))) | (apply LOps.loc; (focus (first | exact Goes.free | exact Goes.on rfl rfl (by with_reducible rfl) true (by decide))); (focus (exact rfl)); (focus (exact rfl)); (focus (simp only [go_sem, ↓reduceIte, Nat.reduceEqDiff, c1, c3, c4, d1, htj, hdl]; with_reducible rfl))) | (apply LOps.loc0; (focus (first | exact Goes.free | exact Goes.on rfl rfl (by with_reducible rfl) true (by decide))); (focus (exact rfl)); (focus (simp only [go_sem, ↓reduceIte, Nat.reduceLT, Nat.reduceAdd, c5, d1, d5, hL, hrz]; with_reducible rfl))) | refine LK.seq ?_ | refine LK.ret' ?_ | refine LK.exit' rfl ?_ | (apply LK.condF2; (focus (exact rfl)); (focus (with_reducible rfl)); (focus (first | with_reducible rfl | decide | (with_reducible exact Bool.false_and _) | (with_reducible exact congrArg (fun b => b && _) (Bool.false_and _))))) | refine LK.regc ?_ | (apply retQ; (focus (first | exact lres_one rfl | exact lres_more rfl | (simp only [lres, lresv, Try.results27, go_sem, ↓reduceIte, Nat.reduceEqDiff, reduceCtorEq, Nat.reduceLT, Nat.reduceAdd, Int.reduceBEq, Int.reduceBNe, Int.reduceEq, Int.reduceLE, Int.reduceLT, Int.reduceToNat, Nat.reduceLeDiff, Nat.reduceMul, Nat.reduceSub, c1, c2, c3, c4, c5, d1, htj, d5, hL, hdl, hrz]; exact rfl)))) | fail)
        all_goals exact ⟨rfl, rfl⟩
end Go.Proofs.Ytoppnepjemhckaa
