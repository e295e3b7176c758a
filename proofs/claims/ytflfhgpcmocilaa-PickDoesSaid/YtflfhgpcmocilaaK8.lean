/- The walks of chapter 16: those that are one are left out of an array of our own. -/
import Derived.Test.YtflfhgpcmocilaaKD1
set_option linter.unusedSimpArgs false
set_option linter.unusedVariables false
namespace Go.Proofs.Ytflfhgpcmocilaa
open Go.Lw
attribute [local irreducible] LK LOps LW
/-- The array, and how many are kept, behind so many. -/
def del (l : List Int) (me : Int) : Nat → List Int × Nat
  | 0 => (l, 0)
  | j + 1 => match l[j]? with
    | some x => if x = me then del l me j else ((del l me j).1.set (del l me j).2 x, (del l me j).2 + 1)
    | none => del l me j
theorem del_inv (l : List Int) (me : Int) : ∀ j, j ≤ l.length → (del l me j).1.length = l.length ∧ (del l me j).2 ≤ j ∧ (∀ m, (del l me j).2 ≤ m → (del l me j).1[m]? = l[m]?) ∧ (del l me j).1.take (del l me j).2 = (l.take j).filter (fun x => !(x == me))
  | 0, _ => ⟨rfl, Nat.le_refl _, fun _ _ => rfl, by simp [del]⟩
  | j + 1, h => by
    obtain ⟨h1, h2, h3, h4⟩ := del_inv l me j (by omega)
    obtain ⟨x, hx⟩ := idx_all (show j < l.length by omega)
    have ht : l.take (j + 1) = l.take j ++ [x] := by rw [List.take_add_one, hx]; rfl
    by_cases e : x = me
    · have : del l me (j + 1) = del l me j := by rw [del, hx]; simp [e]
      rw [this, ht, List.filter_append]
      refine ⟨h1, by omega, h3, ?_⟩
      rw [h4]; simp [e]
    · have : del l me (j + 1) = ((del l me j).1.set (del l me j).2 x, (del l me j).2 + 1) := by rw [del, hx]; simp [e]
      rw [this, ht, List.filter_append]
      generalize del l me j = s at h1 h2 h3 h4
      obtain ⟨c, i⟩ := s
      dsimp only at h1 h2 h3 h4 ⊢
      refine ⟨by rw [List.length_set]; exact h1, by omega, fun m hm => ?_, ?_⟩
      · rw [List.getElem?_set_ne (by omega)]; exact h3 m (by omega)
      · rw [List.take_add_one, List.take_set_of_le (Nat.le_refl _), h4, List.getElem?_set_self (by omega)]
        simp [e]
theorem del_first {l : List Int} {me : Int} : ∀ {j : Nat}, j ≤ l.length → (∀ (m : Nat) (x : Int), m < j → l[m]? = some x → x ≠ me) → del l me j = (l, j)
  | 0, _, _ => rfl
  | j + 1, h, hn => by
    obtain ⟨x, hx⟩ := idx_all (show j < l.length by omega)
    have hne := hn j x (Nat.lt_succ_self _) hx
    rw [del, hx]
    simp only [hne, if_false]
    rw [del_first (by omega) fun m y hm hy => hn m y (by omega) hy]
    congr 1
    apply List.ext_getElem?
    intro k
    by_cases e : j = k
    · subst e; rw [List.getElem?_set_self (by show j < l.length; omega), hx]
    · rw [List.getElem?_set_ne e]
def delN (l : List Int) (me : Int) : Nat := (del l me l.length).2
def delL (l : List Int) (me : Int) : List Int := (del l me l.length).1.take (delN l me) ++ List.replicate (l.length - delN l me) 0
theorem delL_take (l : List Int) (me : Int) : (delL l me).take (delN l me) = l.filter (fun x => !(x == me)) := by
  obtain ⟨h1, h2, h3, h4⟩ := del_inv l me l.length (Nat.le_refl _)
  have : ((del l me l.length).1.take (delN l me)).length = delN l me := by rw [List.length_take]; unfold delN; omega
  rw [delL, List.take_left' this]
  rw [List.take_length] at h4
  exact h4
set_option maxHeartbeats 4000000 in
set_option maxRecDepth 10000 in
theorem is_fun (x me : Int) (o9 : LO) : LCalls Try.prog 23 [vi x, .ptr 1 1 0 0] (fun v σ => v = vb (x == me) ∧ σ = ⟨11, [(9, o9), (1, .arr 1 [[vi me]])]⟩) ⟨11, [(9, o9), (1, .arr 1 [[vi me]])]⟩ := by
  (refine LCalls.enter Try.func23 rfl (by simp [Try.ntmps23]) (LK.start ?_); simp only [Try.ntmps23, enterA, Nat.zero_add])
  (repeat' first | refine LOps.done ?_ | (apply LOps.mv; (focus (first | exact Goes.free | exact Goes.on rfl rfl (by with_reducible rfl) true (by decide))); (focus (exact rfl)); (focus (exact rfl))) | (apply LOps.asg; (focus (first | exact Goes.free | exact Goes.on rfl rfl (by with_reducible rfl) true (by decide))); (focus (exact rfl)); (focus (exact rfl))) | (apply LOps.loc; (focus (first | exact Goes.free | exact Goes.on rfl rfl (by with_reducible rfl) true (by decide))); (focus (exact rfl)); (focus (exact rfl)); (focus (simp only [go_sem, ↓reduceIte, Nat.reduceEqDiff]; with_reducible rfl))) | refine LK.seq ?_ | refine LK.ret' ?_ | refine LK.regc ?_ | (apply retQ; (focus (first | exact lres_one rfl | exact lres_more rfl | (simp only [lres, lresv, Try.results23, go_sem, ↓reduceIte, Nat.reduceEqDiff, reduceCtorEq, Nat.reduceLT, Nat.reduceAdd, Int.reduceBEq, Int.reduceBNe, Int.reduceEq, Int.reduceLE, Int.reduceLT, Int.reduceToNat, Nat.reduceLeDiff, Nat.reduceMul, Nat.reduceSub]; exact rfl)))) | fail)
  all_goals exact ⟨rfl, rfl⟩
set_option maxHeartbeats 4000000 in
set_option maxRecDepth 10000 in
theorem delete_none (l : List Int) (me : Int) (n : Nat) (hn : l.length = n) (hl : n ≤ 100000) (h : ∀ (m : Nat) (x : Int), l[m]? = some x → x ≠ me) :
    LCalls Try.prog 22 [.own 9 n 0 n, .fn (.func 23) [.ptr 1 1 0 0]] (fun u s => u = .own 9 n 0 n ∧ s = ⟨11, [(9, .arr 1 (oF (cI .i64) l)), (1, .arr 1 [[vi me]])]⟩) ⟨11, [(9, .arr 1 (oF (cI .i64) l)), (1, .arr 1 [[vi me]])]⟩ := by
  have ht : l.take n = l := List.take_of_length_le (by omega)
  (refine LCalls.enter Try.func22 rfl (by simp [Try.ntmps22]) (LK.start ?_); simp only [Try.ntmps22, enterA, Nat.zero_add])
  (repeat' first | refine LOps.done ?_ | (apply LOps.mv; (focus (first | exact Goes.free | exact Goes.on rfl rfl (by with_reducible rfl) true (by decide))); (focus (exact rfl)); (focus (exact rfl))) | (apply LOps.loc; (focus (first | exact Goes.free | exact Goes.on rfl rfl (by with_reducible rfl) true (by decide))); (focus (exact rfl)); (focus (exact rfl)); (focus (simp only [go_sem, ↓reduceIte, reduceCtorEq, hn, ht]; with_reducible rfl))) | refine LK.seq ?_ | refine LK.block ?_ | refine LK.regc ?_ | ((apply LOps.inline; (focus (first | exact Goes.free | exact Goes.on rfl rfl (by with_reducible rfl) true (by decide))); (focus (exact rfl)); (focus (exact rfl)); (focus (simp only [go_sem, ↓reduceIte, Nat.reduceEqDiff]; exact rfl)); (focus (simp only [go_sem]))); (first | (refine LCalls.enter Try.func25 rfl (by simp [Try.ntmps25]) (LK.start ?_); simp only [Try.ntmps25, enterA, Nat.zero_add]) | fail)) | fail)
  refine LK.loop (fun k : Nat => n - k) (fun k => k ≤ n) (fun k => ⟨19, [(0, .own 9 n 0 n), (1, .fn (.func 23) [.ptr 1 1 0 0]), (7, vi n), (8, vi k)]⟩) (fun _ => [(9, .arr 1 (oF (cI .i64) l)), (1, .arr 1 [[vi me]])]) 0 (Nat.zero_le _) (Sub.by rfl rfl (by first | rfl | (simp only [subB, oF_all_under, LV.under, LV.unders, LO.under, List.all_cons, List.all_nil, decide_true, Nat.reduceLT, Bool.and_self]; done))) ?_
  intro k hk J hJ
  rcases Nat.lt_or_ge k n with hlt | hge
  · obtain ⟨x, hx⟩ := idx_all (show k < l.length by omega)
    have hne : (x == me) = false := by rw [beq_eq_false_iff_ne]; exact h k x hx
    have hf := is_fun x me (.arr 1 (oF (cI .i64) l))
    rw [hne] at hf
    have i1 : ((k : Int) < (n : Int)) := by omega
    have hw := wrapn (n := k) (by omega)
    (repeat' first | refine LOps.done ?_ | (apply LOps.mv; (focus (first | exact Goes.free | exact Goes.on rfl rfl (by with_reducible rfl) true (by decide))); (focus (exact rfl)); (focus (exact rfl))) | (apply LOps.asg; (focus (first | exact Goes.free | exact Goes.on rfl rfl (by with_reducible rfl) true (by decide))); (focus (exact rfl)); (focus (exact rfl))) | (apply LOps.loc; (focus (first | exact Goes.free | exact Goes.on rfl rfl (by with_reducible rfl) true (by decide))); (focus (exact rfl)); (focus (exact rfl)); (focus (simp only [go_sem, ↓reduceIte, Nat.reduceEqDiff, reduceCtorEq, Nat.reduceLT, i1, hx, hw, hn]; with_reducible rfl))) | refine LK.seq ?_ | refine LK.skip ?_ | refine LK.block ?_ | refine LK.blk ?_ | refine LK.fin ?_ | (apply LK.condT2; (focus (exact rfl)); (focus (with_reducible rfl)); (focus (first | with_reducible rfl | decide | (with_reducible exact Bool.true_or _) | (with_reducible exact congrArg (fun b => b || _) (Bool.true_or _))))) | (apply LK.condF2; (focus (exact rfl)); (focus (with_reducible rfl)); (focus (first | with_reducible rfl | decide | (with_reducible exact Bool.false_and _) | (with_reducible exact congrArg (fun b => b && _) (Bool.false_and _))))) | refine LK.regc ?_ | ((apply LOps.inline; (focus (first | exact Goes.free | exact Goes.on rfl rfl (by with_reducible rfl) true (by decide))); (focus (exact rfl)); (focus (exact rfl)); (focus (simp only [go_sem, ↓reduceIte, Nat.reduceEqDiff]; exact rfl)); (focus (simp only [go_sem]))); (first | (refine LCalls.mono (by exact hf) ?_; (rintro _ _ ⟨rfl, rfl⟩)) | fail)) | fail)
    apply hJ
    exact ⟨k + 1, hlt, by omega, (Sub.by rfl rfl (by first | rfl | (simp only [subB, oF_all_under, LV.under, LV.unders, LO.under, List.all_cons, List.all_nil, decide_true, Nat.reduceLT, Bool.and_self]; done)))⟩
  · have i1 : ¬ ((k : Int) < (n : Int)) := by omega
    (repeat' first | refine LOps.done ?_ | (apply LOps.mv; (focus (first | exact Goes.free | exact Goes.on rfl rfl (by with_reducible rfl) true (by decide))); (focus (exact rfl)); (focus (exact rfl))) | (apply LOps.asg; (focus (first | exact Goes.free | exact Goes.on rfl rfl (by with_reducible rfl) true (by decide))); (focus (exact rfl)); (focus (exact rfl))) | (apply LOps.loc; (focus (first | exact Goes.free | exact Goes.on rfl rfl (by with_reducible rfl) true (by decide))); (focus (exact rfl)); (focus (exact rfl)); (focus (simp only [go_sem, ↓reduceIte, Nat.reduceEqDiff, i1]; with_reducible rfl))) | refine LK.seq ?_ | refine LK.ret' ?_ | refine LK.exit' rfl ?_ | (apply LK.condT2; (focus (exact rfl)); (focus (with_reducible rfl)); (focus (first | with_reducible rfl | decide | (with_reducible exact Bool.true_or _) | (with_reducible exact congrArg (fun b => b || _) (Bool.true_or _))))) | (apply LK.condF2; (focus (exact rfl)); (focus (with_reducible rfl)); (focus (first | with_reducible rfl | decide | (with_reducible exact Bool.false_and _) | (with_reducible exact congrArg (fun b => b && _) (Bool.false_and _))))) | refine LK.regc ?_ | (apply retQ; (focus (first | exact lres_one rfl | exact lres_more rfl | (simp only [lres, lresv, Try.results25, Try.results22, go_sem, ↓reduceIte, Nat.reduceEqDiff, reduceCtorEq, Nat.reduceLT, Nat.reduceAdd, Int.reduceBEq, Int.reduceBNe, Int.reduceEq, Int.reduceLE, Int.reduceLT, Int.reduceToNat, Nat.reduceLeDiff, Nat.reduceMul, Nat.reduceSub, i1]; exact rfl)))) | fail)
    all_goals exact ⟨rfl, rfl⟩
set_option maxHeartbeats 4000000 in
set_option maxRecDepth 10000 in
theorem delete_some (l : List Int) (me : Int) (n i0 : Nat) (hn : l.length = n) (hl : n ≤ 100000) (hi : l[i0]? = some me) (h : ∀ (m : Nat) (x : Int), m < i0 → l[m]? = some x → x ≠ me) :
    LCalls Try.prog 22 [.own 9 n 0 n, .fn (.func 23) [.ptr 1 1 0 0]] (fun u s => u = .own 9 n 0 (delN l me) ∧ s = ⟨11, [(9, .arr 1 (oF (cI .i64) (delL l me))), (1, .arr 1 [[vi me]])]⟩) ⟨11, [(9, .arr 1 (oF (cI .i64) l)), (1, .arr 1 [[vi me]])]⟩ := by
  have ht : l.take n = l := List.take_of_length_le (by omega)
  have hil := lt_of_get hi
  have hfm : (me == me) = true := by simp
  have hfi := is_fun me me (.arr 1 (oF (cI .i64) l))
  rw [hfm] at hfi
  (refine LCalls.enter Try.func22 rfl (by simp [Try.ntmps22]) (LK.start ?_); simp only [Try.ntmps22, enterA, Nat.zero_add])
  (repeat' first | refine LOps.done ?_ | (apply LOps.mv; (focus (first | exact Goes.free | exact Goes.on rfl rfl (by with_reducible rfl) true (by decide))); (focus (exact rfl)); (focus (exact rfl))) | (apply LOps.loc; (focus (first | exact Goes.free | exact Goes.on rfl rfl (by with_reducible rfl) true (by decide))); (focus (exact rfl)); (focus (exact rfl)); (focus (simp only [go_sem, ↓reduceIte, reduceCtorEq, hn, ht]; with_reducible rfl))) | refine LK.seq ?_ | refine LK.block ?_ | refine LK.regc ?_ | ((apply LOps.inline; (focus (first | exact Goes.free | exact Goes.on rfl rfl (by with_reducible rfl) true (by decide))); (focus (exact rfl)); (focus (exact rfl)); (focus (simp only [go_sem, ↓reduceIte, Nat.reduceEqDiff]; exact rfl)); (focus (simp only [go_sem]))); (first | (refine LCalls.enter Try.func25 rfl (by simp [Try.ntmps25]) (LK.start ?_); simp only [Try.ntmps25, enterA, Nat.zero_add]) | fail)) | fail)
  refine LK.loop (fun k : Nat => n - k) (fun k => k ≤ i0) (fun k => ⟨19, [(0, .own 9 n 0 n), (1, .fn (.func 23) [.ptr 1 1 0 0]), (7, vi n), (8, vi k)]⟩) (fun _ => [(9, .arr 1 (oF (cI .i64) l)), (1, .arr 1 [[vi me]])]) 0 (Nat.zero_le _) (Sub.by rfl rfl (by first | rfl | (simp only [subB, oF_all_under, LV.under, LV.unders, LO.under, List.all_cons, List.all_nil, decide_true, Nat.reduceLT, Bool.and_self]; done))) ?_
  intro k hk J hJ
  have i1 : ((k : Int) < (n : Int)) := by omega
  rcases Nat.lt_or_ge k i0 with hlt | hge
  · obtain ⟨x, hx⟩ := idx_all (show k < l.length by omega)
    have hne : (x == me) = false := by rw [beq_eq_false_iff_ne]; exact h k x hlt hx
    have hf := is_fun x me (.arr 1 (oF (cI .i64) l))
    rw [hne] at hf
    have hw := wrapn (n := k) (by omega)
    (repeat' first | refine LOps.done ?_ | (apply LOps.mv; (focus (first | exact Goes.free | exact Goes.on rfl rfl (by with_reducible rfl) true (by decide))); (focus (exact rfl)); (focus (exact rfl))) | (apply LOps.asg; (focus (first | exact Goes.free | exact Goes.on rfl rfl (by with_reducible rfl) true (by decide))); (focus (exact rfl)); (focus (exact rfl))) | (apply LOps.loc; (focus (first | exact Goes.free | exact Goes.on rfl rfl (by with_reducible rfl) true (by decide))); (focus (exact rfl)); (focus (exact rfl)); (focus (simp only [go_sem, ↓reduceIte, Nat.reduceEqDiff, reduceCtorEq, Nat.reduceLT, i1, hx, hw, hn]; with_reducible rfl))) | refine LK.seq ?_ | refine LK.skip ?_ | refine LK.block ?_ | refine LK.blk ?_ | refine LK.fin ?_ | (apply LK.condT2; (focus (exact rfl)); (focus (with_reducible rfl)); (focus (first | with_reducible rfl | decide | (with_reducible exact Bool.true_or _) | (with_reducible exact congrArg (fun b => b || _) (Bool.true_or _))))) | (apply LK.condF2; (focus (exact rfl)); (focus (with_reducible rfl)); (focus (first | with_reducible rfl | decide | (with_reducible exact Bool.false_and _) | (with_reducible exact congrArg (fun b => b && _) (Bool.false_and _))))) | refine LK.regc ?_ | ((apply LOps.inline; (focus (first | exact Goes.free | exact Goes.on rfl rfl (by with_reducible rfl) true (by decide))); (focus (exact rfl)); (focus (exact rfl)); (focus (simp only [go_sem, ↓reduceIte, Nat.reduceEqDiff]; exact rfl)); (focus (simp only [go_sem]))); (first | (refine LCalls.mono (by exact hf) ?_; (rintro _ _ ⟨rfl, rfl⟩)) | fail)) | fail)
    apply hJ
    exact ⟨k + 1, hlt, by omega, (Sub.by rfl rfl (by first | rfl | (simp only [subB, oF_all_under, LV.under, LV.unders, LO.under, List.all_cons, List.all_nil, decide_true, Nat.reduceLT, Bool.and_self]; done)))⟩
  · obtain rfl : k = i0 := by omega
    have hw := wrapn (n := k) (by omega)
    have hm1 : ((k : Int) == -1) = false := by rw [beq_eq_false_iff_ne]; omega
    (repeat' first | refine LOps.done ?_ | (apply LOps.mv; (focus (first | exact Goes.free | exact Goes.on rfl rfl (by with_reducible rfl) true (by decide))); (focus (exact rfl)); (focus (exact rfl))) | (apply LOps.asg; (focus (first | exact Goes.free | exact Goes.on rfl rfl (by with_reducible rfl) true (by decide))); (focus (exact rfl)); (focus (exact rfl))) | (apply LOps.loc; (focus (first | exact Goes.free | exact Goes.on rfl rfl (by with_reducible rfl) true (by decide))); (focus (exact rfl)); (focus (exact rfl)); (focus (simp only [go_sem, ↓reduceIte, Nat.reduceEqDiff, reduceCtorEq, Nat.reduceLT, i1, hi, hw, hn, hm1]; with_reducible rfl))) | refine LK.seq ?_ | refine LK.skip ?_ | refine LK.block ?_ | refine LK.ret' ?_ | (apply LK.condT2; (focus (exact rfl)); (focus (with_reducible rfl)); (focus (first | with_reducible rfl | decide | (with_reducible exact Bool.true_or _) | (with_reducible exact congrArg (fun b => b || _) (Bool.true_or _))))) | (apply LK.condF2; (focus (exact rfl)); (focus (with_reducible rfl)); (focus (first | with_reducible rfl | decide | (with_reducible exact Bool.false_and _) | (with_reducible exact congrArg (fun b => b && _) (Bool.false_and _))))) | refine LK.regc ?_ | (apply retQ; (focus (first | exact lres_one rfl | exact lres_more rfl | (simp only [lres, lresv, Try.results25, Try.results22, Try.results23, go_sem, ↓reduceIte, Nat.reduceEqDiff, reduceCtorEq, Nat.reduceLT, Nat.reduceAdd, Int.reduceBEq, Int.reduceBNe, Int.reduceEq, Int.reduceLE, Int.reduceLT, Int.reduceToNat, Nat.reduceLeDiff, Nat.reduceMul, Nat.reduceSub, i1, hi, hw, hn, hm1, ht]; exact rfl)))) | ((apply LOps.inline; (focus (first | exact Goes.free | exact Goes.on rfl rfl (by with_reducible rfl) true (by decide))); (focus (exact rfl)); (focus (exact rfl)); (focus (simp only [go_sem, ↓reduceIte, Nat.reduceEqDiff]; exact rfl)); (focus (simp only [go_sem]))); (first | (refine LCalls.mono (by exact hfi) ?_; (rintro _ _ ⟨rfl, rfl⟩)) | fail)) | fail)
    have h0 : del l me k = (l, k) := del_first (by omega) h
    have h00 : del l me (k + 1) = (l, k) := by rw [del, hi]; simp [h0]
    refine LK.loop (fun j : Nat => n - j) (fun j => k + 1 ≤ j ∧ j ≤ n) (fun j => ⟨42, [(0, .own 9 n 0 n), (1, .fn (.func 23) [.ptr 1 1 0 0]), (5, vi ((del l me j).2 : Nat)), (6, vi j)]⟩) (fun j => [(9, .arr 1 (oF (cI .i64) (del l me j).1)), (1, .arr 1 [[vi me]])]) (k + 1) ⟨Nat.le_refl _, by omega⟩ (by dsimp only; rw [h00]; exact (Sub.by rfl rfl (by first | rfl | (simp only [subB, oF_all_under, LV.under, LV.unders, LO.under, List.all_cons, List.all_nil, decide_true, Nat.reduceLT, Bool.and_self]; done)))) ?_
    rintro j ⟨hj1, hj2⟩ J' hJ'
    obtain ⟨d1, d2, d3, d4⟩ := del_inv l me j (by omega)
    have htj : (del l me j).1.take n = (del l me j).1 := List.take_of_length_le (by omega)
    rcases Nat.lt_or_ge j n with hlt | hge2
    · obtain ⟨x, hx⟩ := idx_all (show j < l.length by omega)
      have hxd : (del l me j).1[j]? = some x := by rw [d3 j d2]; exact hx
      have c1 : ((j : Int) < (n : Int)) := by omega
      have c2 : (((del l me j).2 : Nat) : Int) < (n : Int) := by omega
      have hwj := wrapn (n := j) (by omega)
      have hwi := wrapn (n := (del l me j).2) (by omega)
      have hf := is_fun x me (.arr 1 (oF (cI .i64) (del l me j).1))
      obtain ⟨z, hz⟩ := idx_all (show (del l me j).2 < (del l me j).1.length by omega)
      by_cases e : x = me
      · have hee : (x == me) = true := by simpa using e
        have hs : del l me (j + 1) = del l me j := by rw [del, hx]; simp [e]
        rw [hee] at hf
        rw [hn] at d1
        (repeat' first | refine LOps.done ?_ | (apply LOps.mv; (focus (first | exact Goes.free | exact Goes.on rfl rfl (by with_reducible rfl) true (by decide))); (focus (exact rfl)); (focus (exact rfl))) | (apply LOps.asg; (focus (first | exact Goes.free | exact Goes.on rfl rfl (by with_reducible rfl) true (by decide))); (focus (exact rfl)); (focus (exact rfl))) | (apply LOps.loc; (focus (first | exact Goes.free | exact Goes.on rfl rfl (by with_reducible rfl) true (by decide))); (focus (exact rfl)); (focus (exact rfl)); (focus (simp only [go_sem, ↓reduceIte, Nat.reduceEqDiff, reduceCtorEq, Nat.reduceLT, c1, hxd, hwj, d1, htj]; with_reducible rfl))) | refine LK.seq ?_ | refine LK.skip ?_ | refine LK.block ?_ | refine LK.blk ?_ | refine LK.fin ?_ | (apply LK.condT2; (focus (exact rfl)); (focus (with_reducible rfl)); (focus (first | with_reducible rfl | decide | (with_reducible exact Bool.true_or _) | (with_reducible exact congrArg (fun b => b || _) (Bool.true_or _))))) | (apply LK.condF2; (focus (exact rfl)); (focus (with_reducible rfl)); (focus (first | with_reducible rfl | decide | (with_reducible exact Bool.false_and _) | (with_reducible exact congrArg (fun b => b && _) (Bool.false_and _))))) | refine LK.regc ?_ | ((apply LOps.inline; (focus (first | exact Goes.free | exact Goes.on rfl rfl (by with_reducible rfl) true (by decide))); (focus (exact rfl)); (focus (exact rfl)); (focus (simp only [go_sem, ↓reduceIte, Nat.reduceEqDiff]; exact rfl)); (focus (simp only [go_sem]))); (first | (refine LCalls.mono (by exact hf) ?_; (rintro _ _ ⟨rfl, rfl⟩)) | fail)) | fail)
        apply hJ'
        refine ⟨j + 1, ⟨by omega, by omega⟩, by omega, ?_⟩
        dsimp only
        rw [hs]
        exact (Sub.by rfl rfl (by first | rfl | (simp only [subB, oF_all_under, LV.under, LV.unders, LO.under, List.all_cons, List.all_nil, decide_true, Nat.reduceLT, Bool.and_self]; done)))
      · have hee : (x == me) = false := by simpa using e
        have hs : del l me (j + 1) = ((del l me j).1.set (del l me j).2 x, (del l me j).2 + 1) := by rw [del, hx]; simp [e]
        rw [hee] at hf
        rw [hn] at d1
        (repeat' first | refine LOps.done ?_ | (apply LOps.mv; (focus (first | exact Goes.free | exact Goes.on rfl rfl (by with_reducible rfl) true (by decide))); (focus (exact rfl)); (focus (exact rfl))) | (apply LOps.asg; (focus (first | exact Goes.free | exact Goes.on rfl rfl (by with_reducible rfl) true (by decide))); (focus (exact rfl)); (focus (exact rfl))) | (apply LOps.loc; (focus (first | exact Goes.free | exact Goes.on rfl rfl (by with_reducible rfl) true (by decide))); (focus (exact rfl)); (focus (exact rfl)); (focus (simp only [go_sem, ↓reduceIte, Nat.reduceEqDiff, reduceCtorEq, Nat.reduceLT, c1, c2, hxd, hwj, hwi, d1, htj]; with_reducible rfl))) | (apply LOps.loc0; (focus (first | exact Goes.free | exact Goes.on rfl rfl (by with_reducible rfl) true (by decide))); (focus (exact rfl)); (focus (simp only [go_sem, ↓reduceIte, Nat.reduceEqDiff, Nat.reduceLT, d1, hz]; with_reducible rfl))) | refine LK.seq ?_ | refine LK.skip ?_ | refine LK.block ?_ | refine LK.blk ?_ | refine LK.fin ?_ | (apply LK.condT2; (focus (exact rfl)); (focus (with_reducible rfl)); (focus (first | with_reducible rfl | decide | (with_reducible exact Bool.true_or _) | (with_reducible exact congrArg (fun b => b || _) (Bool.true_or _))))) | refine LK.regc ?_ | ((apply LOps.inline; (focus (first | exact Goes.free | exact Goes.on rfl rfl (by with_reducible rfl) true (by decide))); (focus (exact rfl)); (focus (exact rfl)); (focus (simp only [go_sem, ↓reduceIte, Nat.reduceEqDiff]; exact rfl)); (focus (simp only [go_sem]))); (first | (refine LCalls.mono (by exact hf) ?_; (rintro _ _ ⟨rfl, rfl⟩)) | fail)) | fail)
        apply hJ'
        refine ⟨j + 1, ⟨by omega, by omega⟩, by omega, ?_⟩
        dsimp only
        rw [hs]
        exact (Sub.by rfl rfl (by first | rfl | (simp only [subB, oF_all_under, LV.under, LV.unders, LO.under, List.all_cons, List.all_nil, decide_true, Nat.reduceLT, Bool.and_self]; done)))
    · obtain rfl : j = n := by omega
      have c1 : ¬ ((j : Int) < (j : Int)) := by omega
      have hdn : (del l me j).2 = delN l me := by rw [delN, hn]
      have c2 : ((delN l me : Nat) : Int) ≤ (j : Int) := by omega
      have c3 : delN l me ≤ j := by omega
      have c4 : (0 : Int) ≤ ((delN l me : Nat) : Int) := by omega
      have c5 : delN l me + (j - delN l me) = j := by omega
      have hL : (del l me j).1.take (delN l me) ++ List.replicate (j - delN l me) 0 = delL l me := by rw [delL, hn]
      rw [hn] at d1
      rw [hdn]
      have d5 : (del l me j).1.drop j = [] := List.drop_eq_nil_of_le (by omega)
      have hdl : (delL l me).length = j := by rw [← hL, List.length_append, List.length_take, List.length_replicate]; omega
      (repeat' first | refine LOps.done ?_ | (apply LOps.mv; (focus (first | exact Goes.free | exact Goes.on rfl rfl (by with_reducible rfl) true (by decide))); (focus (exact rfl)); (focus (exact rfl))) | (apply LOps.asg; (focus (first | exact Goes.free | exact Goes.on rfl rfl (by with_reducible rfl) true (by decide))); (focus (exact rfl)); (focus (exact rfl))) | (apply LOps.loc; (focus (first | exact Goes.free | exact Goes.on rfl rfl (by with_reducible rfl) true (by decide))); (focus (exact rfl)); (focus (exact rfl)); (focus (simp only [go_sem, ↓reduceIte, Nat.reduceEqDiff, c1, c3, c4, d1, htj, hdl]; with_reducible rfl))) | (apply LOps.loc0; (focus (first | exact Goes.free | exact Goes.on rfl rfl (by with_reducible rfl) true (by decide))); (focus (exact rfl)); (focus (simp only [go_sem, ↓reduceIte, Nat.reduceLT, c5, d1, d5, hL]; with_reducible rfl))) | refine LK.seq ?_ | refine LK.ret' ?_ | refine LK.exit' rfl ?_ | (apply LK.condF2; (focus (exact rfl)); (focus (with_reducible rfl)); (focus (first | with_reducible rfl | decide | (with_reducible exact Bool.false_and _) | (with_reducible exact congrArg (fun b => b && _) (Bool.false_and _))))) | refine LK.regc ?_ | (apply retQ; (focus (first | exact lres_one rfl | exact lres_more rfl | (simp only [lres, lresv, Try.results22, Try.results23, go_sem, ↓reduceIte, Nat.reduceEqDiff, reduceCtorEq, Nat.reduceLT, Nat.reduceAdd, Int.reduceBEq, Int.reduceBNe, Int.reduceEq, Int.reduceLE, Int.reduceLT, Int.reduceToNat, Nat.reduceLeDiff, Nat.reduceMul, Nat.reduceSub, c1, c2, c3, c4, c5, d1, htj, d5, hL, hdl]; exact rfl)))) | fail)
      all_goals exact ⟨rfl, rfl⟩
end Go.Proofs.Ytflfhgpcmocilaa
