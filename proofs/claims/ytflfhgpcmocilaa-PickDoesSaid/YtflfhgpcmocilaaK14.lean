/- The walks of chapter 16: Steal, walked. -/
import Derived.Test.YtflfhgpcmocilaaK13
set_option linter.unusedSimpArgs false
set_option linter.unusedVariables false
namespace Go.Proofs.Ytflfhgpcmocilaa
open Go.Lw
attribute [local irreducible] LK LOps LW
def hasV (w : List Int) (v : Int) : Bool := decide (0 < (w[v.toNat]?).getD 0)
theorem thief_none {w : List Int} : ∀ {p : List Int}, (∀ v ∈ p, hasV w v = false) → thief w p = none
  | [], _ => rfl
  | v :: r, h => by
    have hv := h v (by simp)
    simp only [hasV, decide_eq_false_iff_not] at hv
    rw [thief, if_neg hv]
    exact thief_none fun u hu => h u (List.mem_cons_of_mem _ hu)
theorem thief_some {w : List Int} : ∀ {p : List Int} {i : Nat} {v : Int}, p[i]? = some v → hasV w v = true → (∀ (j : Nat) (u : Int), j < i → p[j]? = some u → hasV w u = false) → thief w p = some v
  | [], i, v, h, _, _ => by simp at h
  | u :: r, 0, v, h, hv, _ => by
    obtain rfl : u = v := by simpa using h
    simp only [hasV, decide_eq_true_eq] at hv
    rw [thief, if_pos hv]
  | u :: r, i + 1, v, h, hv, hlo => by
    have hu := hlo 0 u (by omega) rfl
    simp only [hasV, decide_eq_false_iff_not] at hu
    rw [thief, if_neg hu]
    exact thief_some (i := i) (by simpa using h) hv fun j x hj hx => hlo (j + 1) x (by omega) (by simpa using hx)
theorem vOk_inv {l : List Int} {a n me : Int} (h : vE l a n me = 0) : ∃ (k j : Nat), a = (k : Int) ∧ n = (j : Int) ∧ k ≤ l.length ∧ 1 ≤ j ∧ j ≤ 64 ∧ 0 ≤ me ∧ me < n ∧ vV l a n me = vic l k j me ∧ vL l a n me = l ∧ vA l a n me = (orderN l k j : Nat) := by
  unfold vE at h
  split at h
  · rename_i ho
    have h2 := ho
    simp only [vOk, Bool.and_eq_true, decide_eq_true_eq, beq_iff_eq] at h2
    obtain ⟨k, rfl, hk⟩ := victims_nat h2.2
    obtain ⟨j, rfl⟩ := Int.eq_ofNat_of_zero_le (show 0 ≤ n by omega)
    exact ⟨k, j, rfl, rfl, hk, by omega, by omega, by omega, by omega, by simp [vV, ho], by simp [vL, ho], by simp [vA, ho]⟩
  · cases h
theorem vic_lo {l : List Int} (hb : octB l) {a n : Nat} {me v : Int} (h : v ∈ vic l a n me) : 0 ≤ v ∧ v < n := by
  have hm := (List.mem_filter.1 h).1
  obtain ⟨j, hj, he⟩ := List.getElem_of_mem hm
  exact (once_shuf hb a n (n - 1) (Nat.le_refl _)).lo j v (by rw [← he]; exact List.getElem?_eq_getElem hj)
theorem vic_len (l : List Int) (a n : Nat) (me : Int) : (vic l a n me).length ≤ n := by
  have := List.length_filter_le (fun x => !(x == me)) (orderL l a n)
  have h2 : (orderL l a n).length = n := shuf_len l a n (n - 1)
  unfold vic; omega
set_option maxHeartbeats 4000000 in
set_option maxRecDepth 10000 in
theorem steal_none (l has : List Int) (a me : Int) (hb : octB l) (hl : l.length ≤ 100000) (hh : has.length ≤ 100000) (h : ¬ vE l a has.length me = 0) : Fun Try.prog 12 [dv l a, sI has, vi me] (.tup [vi 0, noDice, vi 1]) := by
  have hv := victims_fun l a has.length me hb hl
  have he : vE l a has.length me = 1 := by unfold vE at h ⊢; split at h <;> simp_all
  rw [he] at hv
  refine Fun.frozenLe ?_
  (refine LCalls.enter Try.func12 rfl (by simp [Try.ntmps12]) (LK.start ?_); simp only [Try.ntmps12, enterA, Nat.zero_add])
  (repeat' first | refine LOps.done ?_ | (apply LOps.mv; (focus (first | exact Goes.free | exact Goes.on rfl rfl (by with_reducible rfl) true (by decide))); (focus (exact rfl)); (focus (exact rfl))) | (apply LOps.asg; (focus (first | exact Goes.free | exact Goes.on rfl rfl (by with_reducible rfl) true (by decide))); (focus (exact rfl)); (focus (exact rfl))) | (apply LOps.ext; (focus (first | exact Goes.free | exact Goes.on rfl rfl (by with_reducible rfl) true (by decide))); (focus (exact rfl)); (focus (exact rfl)); (focus (exact rfl))) | (apply LOps.loc; (focus (first | exact Goes.free | exact Goes.on rfl rfl (by with_reducible rfl) true (by decide))); (focus (exact rfl)); (focus (exact rfl)); (focus (simp only [go_sem, ↓reduceIte, Nat.reduceEqDiff, reduceCtorEq, Nat.reduceLT, Nat.reduceAdd, Int.reduceBNe]; with_reducible rfl))) | (apply LOps.loc0; (focus (first | exact Goes.free | exact Goes.on rfl rfl (by with_reducible rfl) true (by decide))); (focus (exact rfl)); (focus (simp only [go_sem, ↓reduceIte, Nat.reduceEqDiff, reduceCtorEq, Nat.reduceLT, Nat.reduceAdd]; with_reducible rfl))) | refine LK.seq ?_ | refine LK.block ?_ | refine LK.ret' ?_ | (apply LK.condT2; (focus (exact rfl)); (focus (with_reducible rfl)); (focus (first | with_reducible rfl | decide | (with_reducible exact Bool.true_or _) | (with_reducible exact congrArg (fun b => b || _) (Bool.true_or _))))) | refine LK.regc ?_ | (apply retQ; (focus (first | exact lres_one rfl | exact lres_more rfl | (simp only [lres, lresv, Try.results12, go_sem, ↓reduceIte, Nat.reduceEqDiff, reduceCtorEq, Nat.reduceAdd]; exact rfl)))) | (apply LOps.locFn; (focus (first | exact Goes.free | exact Goes.on rfl rfl (by with_reducible rfl) true (by decide))); (focus (exact rfl)); (focus (exact rfl)); (focus (simp only [go_sem, ↓reduceIte, Nat.reduceEqDiff]; exact rfl)); (focus (simp only [go_sem])); (focus (exact hv)); (focus (first | rfl | simp [go_sem])); (focus (first | rfl | simp [go_sem]))) | fail)
  (simp only [go_sem]; repeat' first | exact LV.le_refl _ | exact LV.le_nil _ | exact le_nilF _ _ | exact LV.le_any _ _ _ | refine LV.le_tup ?_ | refine LV.le_agg ?_ | exact LV.les_nil | refine LV.les_cons ?_ ?_)
set_option maxHeartbeats 4000000 in
set_option maxRecDepth 10000 in
theorem steal_neg (l has : List Int) (a me : Int) (hb : octB l) (hl : l.length ≤ 100000) (hh : has.length ≤ 100000) (h : vE l a has.length me = 0) (hm : minV has < 0) : Fun Try.prog 12 [dv l a, sI has, vi me] (.tup [vi 0, noDice, vi 1]) := by
  have hv := victims_fun l a has.length me hb hl
  obtain ⟨k, j, rfl, e2, hk, hj1, hj2, hme, hmn, ev, el, ea⟩ := vOk_inv h
  have hmin := min_fun has (by omega) hh
  rw [h] at hv
  refine Fun.frozenLe ?_
  (refine LCalls.enter Try.func12 rfl (by simp [Try.ntmps12]) (LK.start ?_); simp only [Try.ntmps12, enterA, Nat.zero_add])
  (repeat' first | refine LOps.done ?_ | (apply LOps.mv; (focus (first | exact Goes.free | exact Goes.on rfl rfl (by with_reducible rfl) true (by decide))); (focus (exact rfl)); (focus (exact rfl))) | (apply LOps.asg; (focus (first | exact Goes.free | exact Goes.on rfl rfl (by with_reducible rfl) true (by decide))); (focus (exact rfl)); (focus (exact rfl))) | (apply LOps.ext; (focus (first | exact Goes.free | exact Goes.on rfl rfl (by with_reducible rfl) true (by decide))); (focus (exact rfl)); (focus (exact rfl)); (focus (exact rfl))) | (apply LOps.loc; (focus (first | exact Goes.free | exact Goes.on rfl rfl (by with_reducible rfl) true (by decide))); (focus (exact rfl)); (focus (exact rfl)); (focus (simp only [go_sem, ↓reduceIte, Nat.reduceEqDiff, reduceCtorEq, Nat.reduceLT, Nat.reduceAdd, Int.reduceBNe, hm]; with_reducible rfl))) | (apply LOps.loc0; (focus (first | exact Goes.free | exact Goes.on rfl rfl (by with_reducible rfl) true (by decide))); (focus (exact rfl)); (focus (simp only [go_sem, ↓reduceIte, Nat.reduceEqDiff, reduceCtorEq, Nat.reduceLT, Nat.reduceAdd]; with_reducible rfl))) | refine LK.seq ?_ | refine LK.block ?_ | refine LK.ret' ?_ | (apply LK.condT2; (focus (exact rfl)); (focus (with_reducible rfl)); (focus (first | with_reducible rfl | decide | (with_reducible exact Bool.true_or _) | (with_reducible exact congrArg (fun b => b || _) (Bool.true_or _))))) | (apply LK.condF2; (focus (exact rfl)); (focus (with_reducible rfl)); (focus (first | with_reducible rfl | decide | (with_reducible exact Bool.false_and _) | (with_reducible exact congrArg (fun b => b && _) (Bool.false_and _))))) | refine LK.regc ?_ | (apply retQ; (focus (first | exact lres_one rfl | exact lres_more rfl | (simp only [lres, lresv, Try.results12, go_sem, ↓reduceIte, Nat.reduceEqDiff, reduceCtorEq, Nat.reduceAdd]; exact rfl)))) | (apply LOps.locFn; (focus (first | exact Goes.free | exact Goes.on rfl rfl (by with_reducible rfl) true (by decide))); (focus (exact rfl)); (focus (exact rfl)); (focus (simp only [go_sem, ↓reduceIte, Nat.reduceEqDiff]; exact rfl)); (focus (simp only [go_sem])); (focus (first | exact hv | exact hmin)); (focus (first | rfl | simp [go_sem])); (focus (first | rfl | simp [go_sem]))) | fail)
  (simp only [go_sem]; repeat' first | exact LV.le_refl _ | exact LV.le_nil _ | exact le_nilF _ _ | exact LV.le_any _ _ _ | refine LV.le_tup ?_ | refine LV.le_agg ?_ | exact LV.les_nil | refine LV.les_cons ?_ ?_)
set_option maxHeartbeats 4000000 in
set_option maxRecDepth 10000 in
theorem steal_nobody (l has : List Int) (a me : Int) (hb : octB l) (hl : l.length ≤ 100000) (hh : has.length ≤ 100000) (h : vE l a has.length me = 0) (hm : ¬ minV has < 0) (p : List Int) (hp : vV l a has.length me = p) (hlo : ∀ v ∈ p, 0 ≤ v ∧ v < has.length) (hpl : p.length ≤ 100000) (hn : ∀ v ∈ p, hasV has v = false) :
    Fun Try.prog 12 [dv l a, sI has, vi me] (.tup [vi 0, noDice, vi 5]) := by
  have hv := victims_fun l a has.length me hb hl
  obtain ⟨k, j, rfl, e2, hk, hj1, hj2, hme, hmn, ev, el, ea⟩ := vOk_inv h
  have hmin := min_fun has (by omega) hh
  rw [h, hp, el] at hv
  generalize vA l k has.length me = b at hv
  refine Fun.frozenLe ?_
  (refine LCalls.enter Try.func12 rfl (by simp [Try.ntmps12]) (LK.start ?_); simp only [Try.ntmps12, enterA, Nat.zero_add])
  (repeat' first | refine LOps.done ?_ | (apply LOps.mv; (focus (first | exact Goes.free | exact Goes.on rfl rfl (by with_reducible rfl) true (by decide))); (focus (exact rfl)); (focus (exact rfl))) | (apply LOps.asg; (focus (first | exact Goes.free | exact Goes.on rfl rfl (by with_reducible rfl) true (by decide))); (focus (exact rfl)); (focus (exact rfl))) | (apply LOps.ext; (focus (first | exact Goes.free | exact Goes.on rfl rfl (by with_reducible rfl) true (by decide))); (focus (exact rfl)); (focus (exact rfl)); (focus (exact rfl))) | (apply LOps.loc; (focus (first | exact Goes.free | exact Goes.on rfl rfl (by with_reducible rfl) true (by decide))); (focus (exact rfl)); (focus (exact rfl)); (focus (simp only [go_sem, ↓reduceIte, Nat.reduceEqDiff, reduceCtorEq, Nat.reduceLT, Nat.reduceAdd, Int.reduceBNe, hm]; with_reducible rfl))) | (apply LOps.loc0; (focus (first | exact Goes.free | exact Goes.on rfl rfl (by with_reducible rfl) true (by decide))); (focus (exact rfl)); (focus (simp only [go_sem, ↓reduceIte, Nat.reduceEqDiff, reduceCtorEq, Nat.reduceLT, Nat.reduceAdd]; with_reducible rfl))) | refine LK.seq ?_ | refine LK.skip ?_ | refine LK.block ?_ | refine LK.blk ?_ | (apply LK.condF2; (focus (exact rfl)); (focus (with_reducible rfl)); (focus (first | with_reducible rfl | decide | (with_reducible exact Bool.false_and _) | (with_reducible exact congrArg (fun b => b && _) (Bool.false_and _))))) | refine LK.regc ?_ | (apply LOps.locFn; (focus (first | exact Goes.free | exact Goes.on rfl rfl (by with_reducible rfl) true (by decide))); (focus (exact rfl)); (focus (exact rfl)); (focus (simp only [go_sem, ↓reduceIte, Nat.reduceEqDiff]; exact rfl)); (focus (simp only [go_sem])); (focus (first | exact hv | exact hmin)); (focus (first | rfl | simp [go_sem])); (focus (first | rfl | simp [go_sem]))) | ((apply LOps.inline; (focus (first | exact Goes.free | exact Goes.on rfl rfl (by with_reducible rfl) true (by decide))); (focus (exact rfl)); (focus (exact rfl)); (focus (simp only [go_sem, ↓reduceIte, Nat.reduceEqDiff]; exact rfl)); (focus (simp only [go_sem]))); (first | (refine LCalls.enter Try.func25 rfl (by simp [Try.ntmps25]) (LK.start ?_); simp only [Try.ntmps25, enterA, Nat.zero_add]) | fail)) | fail)
  refine LK.loop (fun i : Nat => p.length - i) (fun i => i ≤ p.length) (fun i => ⟨19, [(0, sI p), (1, .fn (.func 26) [.ptr 1 1 0 0]), (7, vi p.length), (8, vi i)]⟩) (fun _ => [(1, .arr 1 [[sI has]]), (2, .arr 2 [[nil0, vi 0]]), (3, .arr 2 [[sU l, vi b]])]) 0 (Nat.zero_le _) (Sub.by rfl rfl rfl) ?_
  intro i hi J hJ
  rcases Nat.lt_or_ge i p.length with hlt | hge
  · obtain ⟨v, hx⟩ := idx_all hlt
    have hvb := hlo v (List.mem_of_getElem? hx)
    obtain ⟨q, rfl⟩ := Int.eq_ofNat_of_zero_le hvb.1
    obtain ⟨z, hz⟩ := idx_all (show q < has.length by omega)
    have hz0 := hn _ (List.mem_of_getElem? hx)
    simp only [hasV, Int.toNat_natCast, hz, Option.getD_some, decide_eq_false_iff_not] at hz0
    have c1 : ¬ (z > 0) := hz0
    have c2 : ((q : Int) < (has.length : Int)) := by omega
    have i1 : ((i : Int) < (p.length : Int)) := by omega
    have hw := wrapn (n := i) (by omega)
    (repeat' first | refine LOps.done ?_ | (apply LOps.mv; (focus (first | exact Goes.free | exact Goes.on rfl rfl (by with_reducible rfl) true (by decide))); (focus (exact rfl)); (focus (exact rfl))) | (apply LOps.asg; (focus (first | exact Goes.free | exact Goes.on rfl rfl (by with_reducible rfl) true (by decide))); (focus (exact rfl)); (focus (exact rfl))) | (apply LOps.loc; (focus (first | exact Goes.free | exact Goes.on rfl rfl (by with_reducible rfl) true (by decide))); (focus (exact rfl)); (focus (exact rfl)); (focus (simp only [go_sem, ↓reduceIte, Nat.reduceEqDiff, reduceCtorEq, Nat.reduceLT, i1, hx, hw, c1, c2, hz]; with_reducible rfl))) | refine LK.seq ?_ | refine LK.skip ?_ | refine LK.block ?_ | refine LK.blk ?_ | refine LK.fin ?_ | refine LK.ret' ?_ | (apply LK.condT2; (focus (exact rfl)); (focus (with_reducible rfl)); (focus (first | with_reducible rfl | decide | (with_reducible exact Bool.true_or _) | (with_reducible exact congrArg (fun b => b || _) (Bool.true_or _))))) | (apply LK.condF2; (focus (exact rfl)); (focus (with_reducible rfl)); (focus (first | with_reducible rfl | decide | (with_reducible exact Bool.false_and _) | (with_reducible exact congrArg (fun b => b && _) (Bool.false_and _))))) | refine LK.regc ?_ | (apply retQ; (focus (first | exact lres_one rfl | exact lres_more rfl | (simp only [lres, lresv, Try.results25, Try.results26, go_sem, ↓reduceIte, Nat.reduceEqDiff, reduceCtorEq, Nat.reduceLT, Nat.reduceAdd, Int.reduceBEq, Int.reduceBNe, Int.reduceEq, Int.reduceLE, Int.reduceLT, Int.reduceToNat, Nat.reduceLeDiff, Nat.reduceMul, Nat.reduceSub, i1, hx, hw, c1, c2, hz]; exact rfl)))) | ((apply LOps.inline; (focus (first | exact Goes.free | exact Goes.on rfl rfl (by with_reducible rfl) true (by decide))); (focus (exact rfl)); (focus (exact rfl)); (focus (simp only [go_sem, ↓reduceIte, Nat.reduceEqDiff]; exact rfl)); (focus (simp only [go_sem]))); (first | (refine LCalls.enter Try.func26 rfl (by simp [Try.ntmps26]) (LK.start ?_); simp only [Try.ntmps26, enterA, Nat.zero_add]) | fail)) | fail)
    apply hJ
    exact ⟨i + 1, hlt, by omega, Sub.by rfl rfl rfl⟩
  · have i1 : ¬ ((i : Int) < (p.length : Int)) := by omega
    (repeat' first | refine LOps.done ?_ | (apply LOps.mv; (focus (first | exact Goes.free | exact Goes.on rfl rfl (by with_reducible rfl) true (by decide))); (focus (exact rfl)); (focus (exact rfl))) | (apply LOps.asg; (focus (first | exact Goes.free | exact Goes.on rfl rfl (by with_reducible rfl) true (by decide))); (focus (exact rfl)); (focus (exact rfl))) | (apply LOps.loc; (focus (first | exact Goes.free | exact Goes.on rfl rfl (by with_reducible rfl) true (by decide))); (focus (exact rfl)); (focus (exact rfl)); (focus (simp only [go_sem, ↓reduceIte, Nat.reduceEqDiff, Int.reduceLT, i1]; with_reducible rfl))) | (apply LOps.loc0; (focus (first | exact Goes.free | exact Goes.on rfl rfl (by with_reducible rfl) true (by decide))); (focus (exact rfl)); (focus (simp only [go_sem, ↓reduceIte, Nat.reduceEqDiff, Nat.reduceLT, Nat.reduceAdd]; with_reducible rfl))) | refine LK.seq ?_ | refine LK.ret' ?_ | refine LK.exit' rfl ?_ | (apply LK.condT2; (focus (exact rfl)); (focus (with_reducible rfl)); (focus (first | with_reducible rfl | decide | (with_reducible exact Bool.true_or _) | (with_reducible exact congrArg (fun b => b || _) (Bool.true_or _))))) | (apply LK.condF2; (focus (exact rfl)); (focus (with_reducible rfl)); (focus (first | with_reducible rfl | decide | (with_reducible exact Bool.false_and _) | (with_reducible exact congrArg (fun b => b && _) (Bool.false_and _))))) | refine LK.regc ?_ | (apply retQ; (focus (first | exact lres_one rfl | exact lres_more rfl | (simp only [lres, lresv, Try.results12, go_sem, ↓reduceIte, Nat.reduceEqDiff, Nat.reduceAdd]; exact rfl)))) | fail)
    (simp only [go_sem]; repeat' first | exact LV.le_refl _ | exact LV.le_nil _ | exact le_nilF _ _ | exact LV.le_any _ _ _ | refine LV.le_tup ?_ | refine LV.le_agg ?_ | exact LV.les_nil | refine LV.les_cons ?_ ?_)
set_option maxHeartbeats 4000000 in
set_option maxRecDepth 10000 in
theorem steal_some (l has : List Int) (a me : Int) (hb : octB l) (hl : l.length ≤ 100000) (hh : has.length ≤ 100000) (h : vE l a has.length me = 0) (hm : ¬ minV has < 0) (p : List Int) (hp : vV l a has.length me = p) (hlo : ∀ v ∈ p, 0 ≤ v ∧ v < has.length) (hpl : p.length ≤ 100000)
    (i0 : Nat) (v0 : Int) (h0 : p[i0]? = some v0) (h1 : hasV has v0 = true) (hn : ∀ (j : Nat) (u : Int), j < i0 → p[j]? = some u → hasV has u = false) :
    Fun Try.prog 12 [dv l a, sI has, vi me] (.tup [vi v0, dv l (vA l a has.length me), vi 0]) := by
  have hv := victims_fun l a has.length me hb hl
  obtain ⟨k, j, rfl, e2, hk, hj1, hj2, hme, hmn, ev, el, ea⟩ := vOk_inv h
  have hmin := min_fun has (by omega) hh
  rw [h, hp, el] at hv
  generalize vA l k has.length me = b at hv
  have hi0 := lt_of_get h0
  refine Fun.frozenLe ?_
  (refine LCalls.enter Try.func12 rfl (by simp [Try.ntmps12]) (LK.start ?_); simp only [Try.ntmps12, enterA, Nat.zero_add])
  (repeat' first | refine LOps.done ?_ | (apply LOps.mv; (focus (first | exact Goes.free | exact Goes.on rfl rfl (by with_reducible rfl) true (by decide))); (focus (exact rfl)); (focus (exact rfl))) | (apply LOps.asg; (focus (first | exact Goes.free | exact Goes.on rfl rfl (by with_reducible rfl) true (by decide))); (focus (exact rfl)); (focus (exact rfl))) | (apply LOps.ext; (focus (first | exact Goes.free | exact Goes.on rfl rfl (by with_reducible rfl) true (by decide))); (focus (exact rfl)); (focus (exact rfl)); (focus (exact rfl))) | (apply LOps.loc; (focus (first | exact Goes.free | exact Goes.on rfl rfl (by with_reducible rfl) true (by decide))); (focus (exact rfl)); (focus (exact rfl)); (focus (simp only [go_sem, ↓reduceIte, Nat.reduceEqDiff, reduceCtorEq, Nat.reduceLT, Nat.reduceAdd, Int.reduceBNe, hm]; with_reducible rfl))) | (apply LOps.loc0; (focus (first | exact Goes.free | exact Goes.on rfl rfl (by with_reducible rfl) true (by decide))); (focus (exact rfl)); (focus (simp only [go_sem, ↓reduceIte, Nat.reduceEqDiff, reduceCtorEq, Nat.reduceLT, Nat.reduceAdd]; with_reducible rfl))) | refine LK.seq ?_ | refine LK.skip ?_ | refine LK.block ?_ | refine LK.blk ?_ | (apply LK.condF2; (focus (exact rfl)); (focus (with_reducible rfl)); (focus (first | with_reducible rfl | decide | (with_reducible exact Bool.false_and _) | (with_reducible exact congrArg (fun b => b && _) (Bool.false_and _))))) | refine LK.regc ?_ | (apply LOps.locFn; (focus (first | exact Goes.free | exact Goes.on rfl rfl (by with_reducible rfl) true (by decide))); (focus (exact rfl)); (focus (exact rfl)); (focus (simp only [go_sem, ↓reduceIte, Nat.reduceEqDiff]; exact rfl)); (focus (simp only [go_sem])); (focus (first | exact hv | exact hmin)); (focus (first | rfl | simp [go_sem])); (focus (first | rfl | simp [go_sem]))) | ((apply LOps.inline; (focus (first | exact Goes.free | exact Goes.on rfl rfl (by with_reducible rfl) true (by decide))); (focus (exact rfl)); (focus (exact rfl)); (focus (simp only [go_sem, ↓reduceIte, Nat.reduceEqDiff]; exact rfl)); (focus (simp only [go_sem]))); (first | (refine LCalls.enter Try.func25 rfl (by simp [Try.ntmps25]) (LK.start ?_); simp only [Try.ntmps25, enterA, Nat.zero_add]) | fail)) | fail)
  refine LK.loop (fun i : Nat => p.length - i) (fun i => i ≤ i0) (fun i => ⟨19, [(0, sI p), (1, .fn (.func 26) [.ptr 1 1 0 0]), (7, vi p.length), (8, vi i)]⟩) (fun _ => [(1, .arr 1 [[sI has]]), (2, .arr 2 [[nil0, vi 0]]), (3, .arr 2 [[sU l, vi b]])]) 0 (Nat.zero_le _) (Sub.by rfl rfl rfl) ?_
  intro i hi J hJ
  obtain ⟨v, hx⟩ := idx_all (show i < p.length by omega)
  have hvb := hlo v (List.mem_of_getElem? hx)
  obtain ⟨q, rfl⟩ := Int.eq_ofNat_of_zero_le hvb.1
  obtain ⟨z, hz⟩ := idx_all (show q < has.length by omega)
  have c2 : ((q : Int) < (has.length : Int)) := by omega
  have i1 : ((i : Int) < (p.length : Int)) := by omega
  rcases Nat.lt_or_ge i i0 with hlt | hge
  · have hz0 := hn i _ hlt hx
    simp only [hasV, Int.toNat_natCast, hz, Option.getD_some, decide_eq_false_iff_not] at hz0
    have c1 : ¬ (z > 0) := hz0
    have hw := wrapn (n := i) (by omega)
    (repeat' first | refine LOps.done ?_ | (apply LOps.mv; (focus (first | exact Goes.free | exact Goes.on rfl rfl (by with_reducible rfl) true (by decide))); (focus (exact rfl)); (focus (exact rfl))) | (apply LOps.asg; (focus (first | exact Goes.free | exact Goes.on rfl rfl (by with_reducible rfl) true (by decide))); (focus (exact rfl)); (focus (exact rfl))) | (apply LOps.loc; (focus (first | exact Goes.free | exact Goes.on rfl rfl (by with_reducible rfl) true (by decide))); (focus (exact rfl)); (focus (exact rfl)); (focus (simp only [go_sem, ↓reduceIte, Nat.reduceEqDiff, reduceCtorEq, Nat.reduceLT, i1, hx, hw, c1, c2, hz]; with_reducible rfl))) | refine LK.seq ?_ | refine LK.skip ?_ | refine LK.block ?_ | refine LK.blk ?_ | refine LK.fin ?_ | refine LK.ret' ?_ | (apply LK.condT2; (focus (exact rfl)); (focus (with_reducible rfl)); (focus (first | with_reducible rfl | decide | (with_reducible exact Bool.true_or _) | (with_reducible exact congrArg (fun b => b || _) (Bool.true_or _))))) | (apply LK.condF2; (focus (exact rfl)); (focus (with_reducible rfl)); (focus (first | with_reducible rfl | decide | (with_reducible exact Bool.false_and _) | (with_reducible exact congrArg (fun b => b && _) (Bool.false_and _))))) | refine LK.regc ?_ | (apply retQ; (focus (first | exact lres_one rfl | exact lres_more rfl | (simp only [lres, lresv, Try.results25, Try.results26, go_sem, ↓reduceIte, Nat.reduceEqDiff, reduceCtorEq, Nat.reduceLT, Nat.reduceAdd, Int.reduceBEq, Int.reduceBNe, Int.reduceEq, Int.reduceLE, Int.reduceLT, Int.reduceToNat, Nat.reduceLeDiff, Nat.reduceMul, Nat.reduceSub, i1, hx, hw, c1, c2, hz]; exact rfl)))) | ((apply LOps.inline; (focus (first | exact Goes.free | exact Goes.on rfl rfl (by with_reducible rfl) true (by decide))); (focus (exact rfl)); (focus (exact rfl)); (focus (simp only [go_sem, ↓reduceIte, Nat.reduceEqDiff]; exact rfl)); (focus (simp only [go_sem]))); (first | (refine LCalls.enter Try.func26 rfl (by simp [Try.ntmps26]) (LK.start ?_); simp only [Try.ntmps26, enterA, Nat.zero_add]) | fail)) | fail)
    apply hJ
    exact ⟨i + 1, hlt, by omega, Sub.by rfl rfl rfl⟩
  · obtain rfl : i = i0 := by omega
    rw [hx] at h0
    obtain rfl := Option.some.inj h0
    simp only [hasV, Int.toNat_natCast, hz, Option.getD_some, decide_eq_true_eq] at h1
    have c1 : z > 0 := h1
    have c3 : ¬ ((i : Int) < 0) := by omega
    (repeat' first | refine LOps.done ?_ | (apply LOps.mv; (focus (first | exact Goes.free | exact Goes.on rfl rfl (by with_reducible rfl) true (by decide))); (focus (exact rfl)); (focus (exact rfl))) | (apply LOps.asg; (focus (first | exact Goes.free | exact Goes.on rfl rfl (by with_reducible rfl) true (by decide))); (focus (exact rfl)); (focus (exact rfl))) | (apply LOps.loc; (focus (first | exact Goes.free | exact Goes.on rfl rfl (by with_reducible rfl) true (by decide))); (focus (exact rfl)); (focus (exact rfl)); (focus (simp only [go_sem, ↓reduceIte, Nat.reduceEqDiff, reduceCtorEq, Nat.reduceLT, i1, hx, c1, c2, c3, hz]; with_reducible rfl))) | refine LK.seq ?_ | refine LK.skip ?_ | refine LK.block ?_ | refine LK.ret' ?_ | (apply LK.condT2; (focus (exact rfl)); (focus (with_reducible rfl)); (focus (first | with_reducible rfl | decide | (with_reducible exact Bool.true_or _) | (with_reducible exact congrArg (fun b => b || _) (Bool.true_or _))))) | (apply LK.condF2; (focus (exact rfl)); (focus (with_reducible rfl)); (focus (first | with_reducible rfl | decide | (with_reducible exact Bool.false_and _) | (with_reducible exact congrArg (fun b => b && _) (Bool.false_and _))))) | refine LK.regc ?_ | (apply retQ; (focus (first | exact lres_one rfl | exact lres_more rfl | (simp only [lres, lresv, Try.results12, go_sem, ↓reduceIte, Nat.reduceEqDiff, Nat.reduceAdd]; exact rfl)))) | ((apply LOps.inline; (focus (first | exact Goes.free | exact Goes.on rfl rfl (by with_reducible rfl) true (by decide))); (focus (exact rfl)); (focus (exact rfl)); (focus (simp only [go_sem, ↓reduceIte, Nat.reduceEqDiff]; exact rfl)); (focus (simp only [go_sem]))); (first | (refine LCalls.enter Try.func26 rfl (by simp [Try.ntmps26]) (LK.start ?_); simp only [Try.ntmps26, enterA, Nat.zero_add]) | fail)) | (apply LK.drawn3; (focus (exact Ty.mixed)); (focus ((repeat' first | exact DRun.nil _ _ _ | (apply DRun.aopS; (focus (exact rfl)); (focus (first | exact rfl | (simp only [oF_idss, oF_ids, idss_MB, idss_MI, objsOf, idsOf, LV.ids, LV.idss, LO.ids, idss_pv, lookB_eq, List.any_nil, List.any_cons, cond_true, cond_false, List.flatten_cons, List.flatten_nil, Nat.reduceBEq, Bool.or_false, Bool.false_or, Bool.or_true, go_sem, ↓reduceIte, Nat.reduceEqDiff, reduceCtorEq, Nat.reduceLT, Nat.reduceAdd, Int.reduceBEq, Int.reduceBNe, Int.reduceEq, Int.reduceLE, Int.reduceLT, Int.reduceToNat, Nat.reduceLeDiff, Nat.reduceMul, Nat.reduceSub, i1, hx, c1, c2, c3, hz]; exact rfl))); (focus (first | exact Goes.free | exact Goes.on rfl rfl (by with_reducible rfl) true (by decide))); (focus (simp only [go_sem, ↓reduceIte, Nat.reduceEqDiff, Nat.reduceLT, Nat.reduceAdd, i1, hx]; exact rfl)); (focus (exact rfl)); (focus (first | decide +kernel | (simp only [evOk, ovOk, nvOk, keepOf, vis, LV.under, LV.idp, LV.idps, LO.under, LO.idp, List.all_cons, List.all_nil, List.any_cons, List.any_nil, Bool.and_true, Bool.or_false, Bool.false_or, decide_true, Nat.reduceLT, Bool.and_self]; done) | (simp [evOk, ovOk, nvOk, keepOf, vis, LV.under, LV.idp, LV.idps, LO.under, LO.idp]; done)))) | (apply DRun.awr0; (focus (exact rfl)); (focus (first | exact rfl | (simp only [oF_idss, oF_ids, idss_MB, idss_MI, objsOf, idsOf, LV.ids, LV.idss, LO.ids, idss_pv, lookB_eq, List.any_nil, List.any_cons, cond_true, cond_false, List.flatten_cons, List.flatten_nil, Nat.reduceBEq, Bool.or_false, Bool.false_or, Bool.or_true, go_sem, ↓reduceIte, Nat.reduceEqDiff, reduceCtorEq, Nat.reduceLT, Nat.reduceAdd, Int.reduceBEq, Int.reduceBNe, Int.reduceEq, Int.reduceLE, Int.reduceLT, Int.reduceToNat, Nat.reduceLeDiff, Nat.reduceMul, Nat.reduceSub, i1, hx, c1, c2, c3, hz]; exact rfl))); (focus (first | exact Goes.free | exact Goes.on rfl rfl (by with_reducible rfl) true (by decide))); (focus (simp only [go_sem, ↓reduceIte, Nat.reduceEqDiff, Nat.reduceLT, Nat.reduceAdd]; exact rfl)); (focus (first | (simp only [go_sem, ↓reduceIte]; exact rfl) | exact rfl)); (focus (first | decide +kernel | (simp only [evOk, ovOk, nvOk, keepOf, vis, LV.under, LV.unders, LV.idp, LO.under, LO.idp, List.all_cons, List.all_nil, List.any_cons, List.any_nil, beq_self_eq_true, Bool.and_true, Bool.or_false, decide_true, decide_false, Nat.reduceLT, Nat.reduceLeDiff, Bool.and_self]; done) | (simp [evOk, ovOk, nvOk, keepOf, vis, LV.under, LV.unders, LV.idp, LO.under, LO.idp]; done))); (focus (first | (simp only [go_sem, ↓reduceIte, Nat.reduceEqDiff]; exact rfl) | exact rfl))) | fail); done)); (focus kernel_rfl); (focus (first | exact puOk_none rfl | (simp [puOk, evShape, nvShape, look, oF_len, go_sem, ↓reduceIte, Nat.reduceEqDiff, reduceCtorEq, Nat.reduceLT, Nat.reduceAdd, Int.reduceBEq, Int.reduceBNe, Int.reduceEq, Int.reduceLE, Int.reduceLT, Int.reduceToNat, Nat.reduceLeDiff, Nat.reduceMul, Nat.reduceSub, i1, hx, c1, c2, c3, hz]; done))); (focus (first | (simp only [go_sem, Nat.reduceAdd]; exact rfl) | exact rfl)); (focus (first | (simp only [go_sem, ↓reduceIte, Nat.reduceEqDiff, reduceCtorEq, Nat.reduceLT, Nat.reduceAdd, Int.reduceBEq, Int.reduceBNe, Int.reduceEq, Int.reduceLE, Int.reduceLT, Int.reduceToNat, Nat.reduceLeDiff, Nat.reduceMul, Nat.reduceSub, i1, hx, c1, c2, c3, hz]; exact rfl) | exact rfl)); (focus (first | (simp only [go_sem, ↓reduceIte, Nat.reduceEqDiff, reduceCtorEq, Nat.reduceLT, Nat.reduceAdd, Int.reduceBEq, Int.reduceBNe, Int.reduceEq, Int.reduceLE, Int.reduceLT, Int.reduceToNat, Nat.reduceLeDiff, Nat.reduceMul, Nat.reduceSub, i1, hx, c1, c2, c3, hz]; exact rfl) | exact rfl))) | fail)
    (simp only [go_sem]; repeat' first | exact LV.le_refl _ | exact LV.le_nil _ | exact le_nilF _ _ | exact LV.le_any _ _ _ | refine LV.le_tup ?_ | refine LV.le_agg ?_ | exact LV.les_nil | refine LV.les_cons ?_ ?_)
theorem steal_fun (l has : List Int) (a me : Int) (hb : octB l) (hl : l.length ≤ 100000) (hh : has.length ≤ 100000) : Fun Try.prog 12 [dv l a, sI has, vi me] (.tup [vi (stN l has a me), dv (stL l has a me) (stA l has a me), vi (stE l has a me)]) := by
  by_cases h : vE l a has.length me = 0
  · by_cases hm : minV has < 0
    · have e : stE l has a me = 1 := by rw [stE, if_pos h, if_pos hm]
      simp only [stN, stL, stA, e]
      exact steal_neg l has a me hb hl hh h hm
    · obtain ⟨k, j, e1, e2, hk, hj1, hj2, hme, hmn, ev, el, ea⟩ := vOk_inv h
      have hlo : ∀ v ∈ vV l a has.length me, 0 ≤ v ∧ v < has.length := fun v hv => by
        rw [ev] at hv
        have := vic_lo hb hv
        omega
      have hpl : (vV l a has.length me).length ≤ 100000 := by
        rw [ev]; have := vic_len l k j me; omega
      rcases first_of (w := vV l a has.length me) (p := hasV has) with hno | ⟨i, v, h1, h2, h3⟩
      · have e : stE l has a me = 5 := by rw [stE, if_pos h, if_neg hm, thief_none hno]
        simp only [stN, stL, stA, e]
        exact steal_nobody l has a me hb hl hh h hm _ rfl hlo hpl hno
      · have ht := thief_some h1 h2 h3
        have e : stE l has a me = 0 := by rw [stE, if_pos h, if_neg hm, ht]
        simp only [stN, stL, stA, e, if_true, ht, Option.getD_some]
        exact steal_some l has a me hb hl hh h hm _ rfl hlo hpl i v h1 h2 h3
  · have e : stE l has a me = 1 := by rw [stE, if_neg h]
    simp only [stN, stL, stA, e]
    exact steal_none l has a me hb hl hh h
end Go.Proofs.Ytflfhgpcmocilaa
