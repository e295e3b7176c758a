/- The walks of chapter 06: find, Where. -/
import Derived.Test.YtlikcejcdnkncaaQ5
set_option linter.unusedSimpArgs false
set_option linter.unusedVariables false
namespace Go.Proofs.Ytlikcejcdnkncaa
open Go.Lw
attribute [local irreducible] LK LOps LW
/-- A node stands in that list, behind these. -/
def At (Q : List (List Nat)) (x i : Nat) (p : List Nat) : Prop := ∃ s, Q[i]? = some (p ++ x :: s)
theorem At.mem {Q : List (List Nat)} {x i : Nat} {p : List Nat} (h : At Q x i p) : x ∈ Q.flatten := by
  obtain ⟨s, hs⟩ := h
  exact List.mem_flatten.2 ⟨_, List.mem_of_getElem? hs, by simp⟩
theorem nodup_cut {Q : List (List Nat)} (hn : Q.flatten.Nodup) {j : Nat} {q : List Nat} (hq : Q[j]? = some q) : (Q.take j).flatten.Nodup ∧ q.Nodup ∧ (∀ x ∈ q, x ∉ (Q.take j).flatten) ∧ (∀ x ∈ q, x ∉ (Q.drop (j + 1)).flatten) := by
  have hs := split_at (Q := Q.take j) rfl hq
  rw [hs] at hn
  simp only [List.flatten_append, List.flatten_cons] at hn
  obtain ⟨h1, h2, h3⟩ := List.nodup_append.1 hn
  obtain ⟨h4, h5, h6⟩ := List.nodup_append.1 h2
  exact ⟨h1, h4, fun x hx hy => h3 x hy x (by simp [hx]) rfl, fun x hx hy => h6 x hx x hy rfl⟩
theorem At.unique {Q : List (List Nat)} (hn : Q.flatten.Nodup) {x i j : Nat} {p q : List Nat} (h : At Q x i p) (g : At Q x j q) : i = j ∧ p = q := by
  obtain ⟨s, hs⟩ := h
  obtain ⟨u, hu⟩ := g
  have hij : i = j := by
    rcases Nat.lt_trichotomy i j with c | c | c
    · have hm : x ∈ (Q.take j).flatten := List.mem_flatten.2 ⟨_, List.mem_of_getElem? (by rw [List.getElem?_take_of_lt c]; exact hs), by simp⟩
      exact absurd hm ((nodup_cut hn hu).2.2.1 x (by simp))
    · exact c
    · have hm : x ∈ (Q.take i).flatten := List.mem_flatten.2 ⟨_, List.mem_of_getElem? (by rw [List.getElem?_take_of_lt c]; exact hu), by simp⟩
      exact absurd hm ((nodup_cut hn hs).2.2.1 x (by simp))
  subst hij
  refine ⟨rfl, ?_⟩
  have hd := (nodup_cut hn hs).2.1
  rw [hs] at hu
  have e := Option.some.inj hu
  have key : ∀ (p q s u : List Nat), (p ++ x :: s).Nodup → p ++ x :: s = q ++ x :: u → p = q := by
    intro p
    induction p with
    | nil =>
      intro q s u hd e
      cases q with
      | nil => rfl
      | cons z q =>
        simp only [List.nil_append, List.cons_append, List.cons.injEq] at e
        obtain ⟨rfl, e⟩ := e
        simp only [List.nil_append, List.nodup_cons] at hd
        exact absurd (by rw [e]; simp) hd.1
    | cons z p ih =>
      intro q s u hd e
      cases q with
      | nil =>
        simp only [List.nil_append, List.cons_append, List.cons.injEq] at e
        obtain ⟨rfl, e⟩ := e
        simp only [List.cons_append, List.nodup_cons] at hd
        exact absurd (by simp) hd.1
      | cons w q =>
        simp only [List.cons_append, List.cons.injEq] at e
        obtain ⟨rfl, e⟩ := e
        rw [List.cons_append, List.nodup_cons] at hd
        rw [ih q s u hd.2 e]
  exact key p q s u hd e
set_option maxHeartbeats 4000000 in
set_option maxRecDepth 20000 in
theorem find_all (n h t : List Int) (Q : List (List Nat)) (x : Nat) (A B : Int) (b : okB n h t) (r : Rep n h t Q) (hno : x ∉ Q.flatten → A = -1 ∧ B = -1) (hat : ∀ i p, At Q x i p → A = i ∧ B = lastI p) : Fun Try.prog 35 [cv n h t, vi x] (.tup [vi A, vi B]) := by
  have b1 := b.1
  have b3 := b.2.2.1
  refine Fun.frozenLe ?_
  (refine LCalls.enter Try.func35 rfl (by simp [Try.ntmps35]) (LK.start ?_); simp only [Try.ntmps35, enterA, Nat.zero_add])
  (repeat' first | refine LOps.done ?_ | (apply LOps.loc; (focus (first | exact Goes.free | exact Goes.on rfl rfl (by with_reducible rfl) true (by decide))); (focus (exact rfl)); (focus (exact rfl)); (focus (simp only [go_sem, ↓reduceIte, Nat.reduceEqDiff, reduceCtorEq, Nat.reduceLT, Nat.reduceAdd]; with_reducible rfl))) | refine LK.seq ?_ | refine LK.block ?_ | refine LK.regc ?_ | fail)
  refine LK.loop (fun i : Nat => h.length - i) (fun i => i ≤ h.length ∧ x ∉ (Q.take i).flatten) (fun i => ⟨26, [(2, .ptr 0 1 0 0), (3, .ptr 1 1 0 0), (4, .ptr 2 1 0 0), (5, .ptr 3 1 0 0), (10, sI h), (11, vi h.length), (12, vi i)]⟩) (fun _ => [(0, .arr 3 [[sI n, sI h, sI t]]), (1, .arr 1 [[vi x]]), (2, .arr 1 [[vi 0]]), (3, .arr 1 [[vi 0]])]) 0 ⟨Nat.zero_le _, by simp⟩ (Sub.by rfl rfl (by first | rfl | (simp only [subB, MB_all_under, MI_all_under, MB_all_idp, MI_all_idp, oF_under, oF_idp, oF_all_under, oF_all_idp, MB_under, MI_under, MB_idp, MI_idp, evOk, ovOk, nvOk, keepOf, vis, LV.under, LV.unders, LV.idp, LV.idps, LO.under, LO.idp, under_pv, idp_pv, List.all_cons, List.all_nil, List.any_cons, List.any_nil, Nat.reduceBEq, beq_self_eq_true, Bool.and_true, Bool.true_and, Bool.or_true, Bool.true_or, Bool.or_false, Bool.false_or, decide_true, decide_false, Nat.reduceLT, Nat.reduceLeDiff, Nat.le_refl, Nat.reduceAdd, Bool.and_self, Bool.or_self]; done))) ?_
  rintro i ⟨hi, hx0⟩ J hJ
  rcases Nat.lt_or_ge i h.length with hlt | hge
  · obtain ⟨a, ha⟩ := idx_all hlt
    obtain ⟨q, hq⟩ := idx_all (show i < Q.length by rw [← r.lh]; exact hlt)
    have hpq := r.path i q a hq ha
    obtain ⟨hql, hqn⟩ := r.le hq
    have h1 : ((i : Int) < (h.length : Int)) := by omega
    have hw := wrapn (n := i) (by omega)
    have hn1 : IntKind.i64.wrap ((n.length : Int) + 1) = ((n.length + 1 : Nat) : Int) := wrapn (by omega)
    (repeat' first | refine LOps.done ?_ | (apply LOps.mv; (focus (first | exact Goes.free | exact Goes.on rfl rfl (by with_reducible rfl) true (by decide))); (focus (exact rfl)); (focus (exact rfl))) | (apply LOps.asg; (focus (first | exact Goes.free | exact Goes.on rfl rfl (by with_reducible rfl) true (by decide))); (focus (exact rfl)); (focus (exact rfl))) | (apply LOps.loc; (focus (first | exact Goes.free | exact Goes.on rfl rfl (by with_reducible rfl) true (by decide))); (focus (exact rfl)); (focus (exact rfl)); (focus (simp only [go_sem, ↓reduceIte, Nat.reduceEqDiff, reduceCtorEq, Nat.reduceLT, Nat.reduceAdd, h1]; with_reducible rfl))) | (apply LOps.loc0; (focus (first | exact Goes.free | exact Goes.on rfl rfl (by with_reducible rfl) true (by decide))); (focus (exact rfl)); (focus (simp only [go_sem, ↓reduceIte, Nat.reduceEqDiff, reduceCtorEq, Nat.reduceLT]; with_reducible rfl))) | refine LK.seq ?_ | refine LK.skip ?_ | refine LK.block ?_ | refine LK.ret' ?_ | (apply LK.condT2; (focus (exact rfl)); (focus (with_reducible rfl)); (focus (first | with_reducible rfl | decide | (with_reducible exact Bool.true_or _) | (with_reducible exact congrArg (fun b => b || _) (Bool.true_or _))))) | refine LK.regc ?_ | (apply retQ; (focus (first | exact lres_one rfl | exact lres_more rfl | (simp only [lres, lresv, Try.results35, Try.results33, go_sem, ↓reduceIte, Nat.reduceEqDiff, reduceCtorEq, Nat.reduceLT, Nat.reduceAdd, Int.reduceBEq, Int.reduceBNe, Int.reduceEq, Int.reduceLE, Int.reduceLT, Int.reduceToNat, Nat.reduceLeDiff, Nat.reduceMul, Nat.reduceSub, h1]; exact rfl)))) | ((apply LOps.inline; (focus (first | exact Goes.free | exact Goes.on rfl rfl (by with_reducible rfl) true (by decide))); (focus (exact rfl)); (focus (exact rfl)); (focus (simp only [go_sem, ↓reduceIte, Nat.reduceEqDiff]; exact rfl)); (focus (simp only [go_sem]))); (first | (refine LCalls.enter Try.func33 rfl (by simp [Try.ntmps33]) (LK.start ?_); simp only [Try.ntmps33, enterA, Nat.zero_add]) | fail)) | fail)
    refine LK.keep [2, 3, 4, 5, 6, 10, 11, 12, 17] rfl ?_; refine LK.over rfl (by simp only [go_sem]) (by first | rfl | (simp only [MB_all_under, MI_all_under, MB_all_idp, MI_all_idp, oF_under, oF_idp, oF_all_under, oF_all_idp, MB_under, MI_under, MB_idp, MI_idp, evOk, ovOk, nvOk, keepOf, vis, LV.under, LV.unders, LV.idp, LV.idps, LO.under, LO.idp, under_pv, idp_pv, List.all_cons, List.all_nil, List.any_cons, List.any_nil, Nat.reduceBEq, beq_self_eq_true, Bool.and_true, Bool.true_and, Bool.or_true, Bool.true_or, Bool.or_false, Bool.false_or, decide_true, decide_false, Nat.reduceLT, Nat.reduceLeDiff, Nat.le_refl, Nat.reduceAdd, Bool.and_self, Bool.or_self]; done)) rfl (fun _ => rfl) (fun l ol hol hou => ?_)
    have hou9 := hou .ready none
    unfold LO.under at hou9
    (refine LCalls.enter Try.func47 rfl (by simp [Try.ntmps47]) (LK.start ?_); simp only [Try.ntmps47, enterA, Nat.zero_add])
    (repeat' first | refine LOps.done ?_ | (apply LOps.loc; (focus (first | exact Goes.free | exact Goes.on rfl rfl (by with_reducible rfl) true (by decide))); (focus (exact rfl)); (focus (exact rfl)); (focus (simp only [go_sem, ↓reduceIte, Nat.reduceEqDiff, reduceCtorEq, Nat.reduceLT, hn1]; with_reducible rfl))) | refine LK.seq ?_ | refine LK.block ?_ | refine LK.regc ?_ | (apply LK.drawn3; (focus (exact Ty.mixed)); (focus ((repeat' first | exact DRun.nil _ _ _ | (apply DRun.aopS; (focus (exact rfl)); (focus (first | exact rfl | (simp only [oF_idss, oF_ids, idss_MB, idss_MI, objsOf, idsOf, LV.ids, LV.idss, LO.ids, idss_pv, lookB_eq, List.any_nil, List.any_cons, cond_true, cond_false, List.flatten_cons, List.flatten_nil, Nat.reduceBEq, Bool.or_false, Bool.false_or, Bool.or_true, go_sem, ↓reduceIte, Nat.reduceEqDiff, reduceCtorEq, Nat.reduceLT, Nat.reduceAdd, Int.reduceBEq, Int.reduceBNe, Int.reduceEq, Int.reduceLE, Int.reduceLT, Int.reduceToNat, Nat.reduceLeDiff, Nat.reduceMul, Nat.reduceSub, h1, ha, hn1]; exact rfl))); (focus (first | exact Goes.free | exact Goes.on rfl rfl (by with_reducible rfl) true (by decide))); (focus (simp only [go_sem, ↓reduceIte, Nat.reduceEqDiff, Nat.reduceLT, Nat.reduceAdd, h1, ha]; exact rfl)); (focus (exact rfl)); (focus (first | decide +kernel | (simp only [evOk, ovOk, nvOk, keepOf, vis, LV.under, LV.idp, LO.under, LO.idp, List.all_cons, List.all_nil, List.any_cons, List.any_nil, beq_self_eq_true, Bool.and_true, Bool.or_false, Bool.false_or, decide_true, decide_false, Nat.reduceLT, Nat.reduceLeDiff, Nat.reduceAdd, Bool.and_self]; first | done | rfl) | (simp [MB_all_under, MI_all_under, MB_all_idp, MI_all_idp, oF_under, oF_idp, oF_all_under, oF_all_idp, MB_under, MI_under, MB_idp, MI_idp, evOk, ovOk, nvOk, keepOf, vis, LV.under, LV.unders, LV.idp, LV.idps, LO.under, LO.idp, under_pv, idp_pv]; done) | exact rfl))) | fail); done)); (focus kernel_rfl); (focus (first | exact puOk_none rfl | (simp [puOk, evShape, nvShape, look, oF_len, go_sem, ↓reduceIte, Nat.reduceEqDiff, reduceCtorEq, Nat.reduceLT, Nat.reduceAdd, Int.reduceBEq, Int.reduceBNe, Int.reduceEq, Int.reduceLE, Int.reduceLT, Int.reduceToNat, Nat.reduceLeDiff, Nat.reduceMul, Nat.reduceSub, h1, ha, hn1]; done))); (focus (first | (simp only [go_sem, Nat.reduceAdd]; exact rfl) | exact rfl)); (focus (first | (simp only [go_sem, ↓reduceIte, Nat.reduceEqDiff, reduceCtorEq]; exact rfl) | exact rfl)); (focus (first | (simp only [go_sem, Nat.reduceAdd]; exact rfl) | exact rfl))) | fail)
    refine LK.loop (fun s : List Nat × Int => n.length + 1 - s.1.length) (fun s => pathTo n a s.1 s.2 ∧ x ∉ s.1) (fun s => ⟨40, [(0, .fn (.yield l) []), (1, .ptr 5 1 0 0), (4, vi (lastI s.1)), (5, vi s.2), (14, vi (n.length + 1 : Nat)), (15, vi s.1.length)]⟩) (fun s => [(7, ol .ready none), (5, .arr 3 [[sI n, sI h, sI t]]), (4, .arr 1 [[vi i]]), (0, .arr 3 [[sI n, sI h, sI t]]), (1, .arr 1 [[vi x]]), (2, .arr 1 [[vi 0]]), (3, .arr 1 [[vi 0]])]) ([], a) ⟨rfl, by simp⟩ (Sub.by rfl rfl (by first | rfl | (simp only [subB, LV.under, LV.unders, LO.under, List.all_cons, List.all_nil, decide_true, Nat.reduceLT, Bool.and_self, hou9]; done))) ?_
    rintro ⟨p, c⟩ ⟨hp, hxp⟩ J2 hJ2
    simp only at hp hxp
    obtain ⟨rest, e, hr⟩ := pathTo_split hp hpq
    have hpl : p.length + rest.length = q.length := by rw [e, List.length_append]
    have r1 : ((p.length : Int) < ((n.length + 1 : Nat) : Int)) := by omega
    have hw2 := wrapn (n := p.length) (by omega)
    cases rest with
    | cons z rest =>
      obtain ⟨rfl, y, hy, hr2⟩ := hr
      have hx := lt_of_get hy
      have r2 : ¬ ((z : Int) < 0) := by omega
      have r3 : ¬ ((z : Int) ≥ (n.length : Int)) := by omega
      have r4 : ((z : Int) < (n.length : Int)) := by omega
      by_cases hzx : z = x
      · subst hzx
        have r5 : ((z : Int) == (z : Int)) = true := by simp
        obtain ⟨e1, e2⟩ := hat i p ⟨rest, by rw [hq, e]⟩
        subst e1; subst e2
        (repeat' first | refine LOps.done ?_ | (apply LOps.mv; (focus (first | exact Goes.free | exact Goes.on rfl rfl (by with_reducible rfl) true (by decide))); (focus (exact rfl)); (focus (exact rfl))) | (apply LOps.asg; (focus (first | exact Goes.free | exact Goes.on rfl rfl (by with_reducible rfl) true (by decide))); (focus (exact rfl)); (focus (exact rfl))) | (apply LOps.loc; (focus (first | exact Goes.free | exact Goes.on rfl rfl (by with_reducible rfl) true (by decide))); (focus (exact rfl)); (focus (exact rfl)); (focus (simp only [go_sem, ↓reduceIte, Nat.reduceEqDiff, reduceCtorEq, Nat.reduceLT, r1, r2, r3, r5]; with_reducible rfl))) | (apply LOps.loc0; (focus (first | exact Goes.free | exact Goes.on rfl rfl (by with_reducible rfl) true (by decide))); (focus (exact rfl)); (focus (simp only [go_sem, ↓reduceIte, Nat.reduceEqDiff, reduceCtorEq, Nat.reduceLT]; with_reducible rfl))) | refine LK.seq ?_ | refine LK.skip ?_ | refine LK.block ?_ | refine LK.ret' ?_ | (apply LK.condT2; (focus (exact rfl)); (focus (with_reducible rfl)); (focus (first | with_reducible rfl | decide | (with_reducible exact Bool.true_or _) | (with_reducible exact congrArg (fun b => b || _) (Bool.true_or _))))) | refine LK.regc ?_ | refine LK.done ?_ | (apply retQ; (focus (first | exact lres_one rfl | exact lres_more rfl | (simp only [lres, lresv, Try.results47, Try.results35, go_sem, ↓reduceIte, Nat.reduceEqDiff, reduceCtorEq]; exact rfl)))) | (apply LOps.yieldN; (focus (first | exact Goes.free | exact Goes.on rfl rfl (by with_reducible rfl) true (by decide))); (focus (exact rfl)); (focus (exact rfl)); (focus (simp only [go_sem, ↓reduceIte, Nat.reduceEqDiff]; exact rfl)); (focus (assumption)); (focus (exact rfl)); (focus (exact rfl)); (focus (first | rfl | kernel_rfl)); (focus (first | rfl | kernel_rfl)); (focus (first | rfl | kernel_rfl)); (focus (simp only [go_sem]; exact rfl))) | (apply midQ.go; (focus (first | exact rfl | (simp only [go_sem, ↓reduceIte, Nat.reduceEqDiff, reduceCtorEq, Nat.reduceLT, Nat.reduceAdd, Int.reduceBEq, Int.reduceBNe, Int.reduceEq, Int.reduceLE, Int.reduceLT, Int.reduceToNat, Nat.reduceLeDiff, Nat.reduceMul, Nat.reduceSub, r1, r2, r3, r4, r5, hy, hx]; exact rfl))); (focus (first | (simp only [go_sem, ↓reduceIte, Nat.reduceLT]; exact rfl) | exact rfl))) | (apply roundQ.ret; (focus (first | exact rfl | (simp only [go_sem, ↓reduceIte, Nat.reduceEqDiff, reduceCtorEq, Nat.reduceLT, Nat.reduceAdd, Int.reduceBEq, Int.reduceBNe, Int.reduceEq, Int.reduceLE, Int.reduceLT, Int.reduceToNat, Nat.reduceLeDiff, Nat.reduceMul, Nat.reduceSub, r1, r2, r3, r4, r5, hy, hx]; exact rfl))); (focus (first | (simp only [go_sem, ↓reduceIte, Nat.reduceLT]; exact rfl) | exact rfl))) | (apply afterQ.jump; (focus (first | exact rfl | (simp only [go_sem, ↓reduceIte, Nat.reduceEqDiff, reduceCtorEq, Nat.reduceLT, Nat.reduceAdd, Int.reduceBEq, Int.reduceBNe, Int.reduceEq, Int.reduceLE, Int.reduceLT, Int.reduceToNat, Nat.reduceLeDiff, Nat.reduceMul, Nat.reduceSub, r1, r2, r3, r4, r5, hy, hx]; exact rfl))); (focus (first | (simp only [go_sem, ↓reduceIte, Nat.reduceEqDiff, reduceCtorEq]; exact rfl) | exact rfl))) | fail)
        (simp only [go_sem]; repeat' first | exact LV.le_refl _ | exact LV.le_nil _ | exact le_nilF _ _ | exact LV.le_any _ _ _ | refine LV.le_tup ?_ | refine LV.le_agg ?_ | exact LV.les_nil | refine LV.les_cons ?_ ?_)
      · have r5 : ((z : Int) == (x : Int)) = false := by rw [beq_eq_false_iff_ne]; omega
        (repeat' first | refine LOps.done ?_ | (apply LOps.mv; (focus (first | exact Goes.free | exact Goes.on rfl rfl (by with_reducible rfl) true (by decide))); (focus (exact rfl)); (focus (exact rfl))) | (apply LOps.asg; (focus (first | exact Goes.free | exact Goes.on rfl rfl (by with_reducible rfl) true (by decide))); (focus (exact rfl)); (focus (exact rfl))) | (apply LOps.loc; (focus (first | exact Goes.free | exact Goes.on rfl rfl (by with_reducible rfl) true (by decide))); (focus (exact rfl)); (focus (exact rfl)); (focus (simp only [go_sem, ↓reduceIte, Nat.reduceEqDiff, reduceCtorEq, Nat.reduceLT, r1, r2, r3, r5, hw2]; with_reducible rfl))) | refine LK.seq ?_ | refine LK.skip ?_ | refine LK.block ?_ | refine LK.blk ?_ | refine LK.fin ?_ | (apply LK.condT2; (focus (exact rfl)); (focus (with_reducible rfl)); (focus (first | with_reducible rfl | decide | (with_reducible exact Bool.true_or _) | (with_reducible exact congrArg (fun b => b || _) (Bool.true_or _))))) | (apply LK.condF2; (focus (exact rfl)); (focus (with_reducible rfl)); (focus (first | with_reducible rfl | decide | (with_reducible exact Bool.false_and _) | (with_reducible exact congrArg (fun b => b && _) (Bool.false_and _))))) | refine LK.regc ?_ | refine LK.done ?_ | (apply LOps.yieldN; (focus (first | exact Goes.free | exact Goes.on rfl rfl (by with_reducible rfl) true (by decide))); (focus (exact rfl)); (focus (exact rfl)); (focus (simp only [go_sem, ↓reduceIte, Nat.reduceEqDiff]; exact rfl)); (focus (assumption)); (focus (exact rfl)); (focus (exact rfl)); (focus (first | rfl | kernel_rfl)); (focus (first | rfl | kernel_rfl)); (focus (first | rfl | kernel_rfl)); (focus (simp only [go_sem]; exact rfl))) | (apply midQ.go; (focus (first | exact rfl | (simp only [go_sem, ↓reduceIte, Nat.reduceEqDiff, reduceCtorEq, Nat.reduceLT, Nat.reduceAdd, Int.reduceBEq, Int.reduceBNe, Int.reduceEq, Int.reduceLE, Int.reduceLT, Int.reduceToNat, Nat.reduceLeDiff, Nat.reduceMul, Nat.reduceSub, r1, r2, r3, r4, r5, hy, hx, hw2]; exact rfl))); (focus (first | (simp only [go_sem, ↓reduceIte, Nat.reduceLT]; exact rfl) | exact rfl))) | (apply roundQ.normal; (focus (first | exact rfl | (simp only [go_sem, ↓reduceIte, Nat.reduceEqDiff, reduceCtorEq, Nat.reduceLT, Nat.reduceAdd, Int.reduceBEq, Int.reduceBNe, Int.reduceEq, Int.reduceLE, Int.reduceLT, Int.reduceToNat, Nat.reduceLeDiff, Nat.reduceMul, Nat.reduceSub, r1, r2, r3, r4, r5, hy, hx, hw2]; exact rfl))); (focus (first | (simp only [go_sem, ↓reduceIte, Nat.reduceLT]; exact rfl) | exact rfl))) | (apply LK.drawn3; (focus (exact Ty.mixed)); (focus ((repeat' first | exact DRun.nil _ _ _ | (apply DRun.aopS; (focus (exact rfl)); (focus (first | exact rfl | (simp only [oF_idss, oF_ids, idss_MB, idss_MI, objsOf, idsOf, LV.ids, LV.idss, LO.ids, idss_pv, lookB_eq, List.any_nil, List.any_cons, cond_true, cond_false, List.flatten_cons, List.flatten_nil, Nat.reduceBEq, Bool.or_false, Bool.false_or, Bool.or_true, go_sem, ↓reduceIte, Nat.reduceEqDiff, reduceCtorEq, Nat.reduceLT, Nat.reduceAdd, Int.reduceBEq, Int.reduceBNe, Int.reduceEq, Int.reduceLE, Int.reduceLT, Int.reduceToNat, Nat.reduceLeDiff, Nat.reduceMul, Nat.reduceSub, r1, r2, r3, r4, r5, hy, hx, hw2]; exact rfl))); (focus (first | exact Goes.free | exact Goes.on rfl rfl (by with_reducible rfl) true (by decide))); (focus (simp only [go_sem, ↓reduceIte, Nat.reduceEqDiff, Nat.reduceLT, r4, hy]; exact rfl)); (focus (exact rfl)); (focus (first | decide +kernel | (simp only [evOk, ovOk, nvOk, keepOf, vis, LV.under, LV.idp, LO.under, LO.idp, List.all_cons, List.all_nil, List.any_cons, List.any_nil, beq_self_eq_true, Bool.and_true, Bool.or_false, Bool.false_or, decide_true, decide_false, Nat.reduceLT, Nat.reduceLeDiff, Bool.and_self]; first | done | rfl) | (simp [MB_all_under, MI_all_under, MB_all_idp, MI_all_idp, oF_under, oF_idp, oF_all_under, oF_all_idp, MB_under, MI_under, MB_idp, MI_idp, evOk, ovOk, nvOk, keepOf, vis, LV.under, LV.unders, LV.idp, LV.idps, LO.under, LO.idp, under_pv, idp_pv]; done) | exact rfl))) | fail); done)); (focus kernel_rfl); (focus (first | exact puOk_none rfl | (simp [puOk, evShape, nvShape, look, oF_len, go_sem, ↓reduceIte, Nat.reduceEqDiff, reduceCtorEq, Nat.reduceLT, Nat.reduceAdd, Int.reduceBEq, Int.reduceBNe, Int.reduceEq, Int.reduceLE, Int.reduceLT, Int.reduceToNat, Nat.reduceLeDiff, Nat.reduceMul, Nat.reduceSub, r1, r2, r3, r4, r5, hy, hx, hw2]; done))); (focus (first | (simp only [go_sem]; exact rfl) | exact rfl)); (focus (first | (simp only [go_sem, ↓reduceIte, Nat.reduceEqDiff, reduceCtorEq, Nat.reduceLT, Nat.reduceAdd, Int.reduceBEq, Int.reduceBNe, Int.reduceEq, Int.reduceLE, Int.reduceLT, Int.reduceToNat, Nat.reduceLeDiff, Nat.reduceMul, Nat.reduceSub, r1, r2, r3, r4, r5, hy, hx, hw2]; exact rfl) | exact rfl)); (focus (first | (simp only [go_sem, ↓reduceIte, Nat.reduceEqDiff, reduceCtorEq, Nat.reduceLT, Nat.reduceAdd, Int.reduceBEq, Int.reduceBNe, Int.reduceEq, Int.reduceLE, Int.reduceLT, Int.reduceToNat, Nat.reduceLeDiff, Nat.reduceMul, Nat.reduceSub, r1, r2, r3, r4, r5, hy, hx, hw2]; exact rfl) | exact rfl))) | fail)
        apply hJ2
        refine ⟨(p ++ [z], y), ⟨pathTo_snoc hp rfl hy, ?_⟩, ?_, ?_⟩
        · simp only [List.mem_append, List.mem_singleton, not_or]; exact ⟨hxp, fun e => hzx e.symm⟩
        · simp only [List.length_append, List.length_singleton]; omega
        · simp only [lastI_snoc, List.length_append, List.length_singleton]; exact (Sub.by rfl rfl (by first | rfl | (simp only [subB, LV.under, LV.unders, LO.under, List.all_cons, List.all_nil, decide_true, Nat.reduceLT, Bool.and_self, hou9]; done)))
    | nil =>
      obtain rfl : c = -1 := hr
      rw [List.append_nil] at e
      subst e
      (repeat' first | refine LOps.done ?_ | (apply LOps.mv; (focus (first | exact Goes.free | exact Goes.on rfl rfl (by with_reducible rfl) true (by decide))); (focus (exact rfl)); (focus (exact rfl))) | (apply LOps.loc; (focus (first | exact Goes.free | exact Goes.on rfl rfl (by with_reducible rfl) true (by decide))); (focus (exact rfl)); (focus (exact rfl)); (focus (simp only [go_sem, ↓reduceIte, Nat.reduceEqDiff, Int.reduceLT, r1, hw]; with_reducible rfl))) | (apply LOps.pass; (focus (first | exact Goes.on rfl rfl (by with_reducible rfl) false (by decide) | exact Goes.undef rfl rfl (by with_reducible rfl))); (focus (exact rfl))) | refine LK.seq ?_ | refine LK.skip ?_ | refine LK.block ?_ | refine LK.blk ?_ | refine LK.fin ?_ | refine LK.ret' ?_ | (apply LK.condT2; (focus (exact rfl)); (focus (with_reducible rfl)); (focus (first | with_reducible rfl | decide | (with_reducible exact Bool.true_or _) | (with_reducible exact congrArg (fun b => b || _) (Bool.true_or _))))) | refine LK.regc ?_ | (apply retQ; (focus (first | exact lres_one rfl | exact lres_more rfl | (simp only [lres, lresv, Try.results47, go_sem]; exact rfl)))) | (apply afterQ.go; (focus (first | exact rfl | (simp only [go_sem, ↓reduceIte, Nat.reduceEqDiff, reduceCtorEq, Nat.reduceLT, Nat.reduceAdd, Int.reduceBEq, Int.reduceBNe, Int.reduceEq, Int.reduceLE, Int.reduceLT, Int.reduceToNat, Nat.reduceLeDiff, Nat.reduceMul, Nat.reduceSub, r1, hw]; exact rfl))); (focus (first | (simp only [go_sem, ↓reduceIte, Nat.reduceEqDiff, reduceCtorEq]; exact rfl) | exact rfl))) | fail)
      apply hJ
      refine ⟨i + 1, ⟨hlt, ?_⟩, by omega, (Sub.by rfl rfl (by first | rfl | (simp only [subB, MB_all_under, MI_all_under, MB_all_idp, MI_all_idp, oF_under, oF_idp, oF_all_under, oF_all_idp, MB_under, MI_under, MB_idp, MI_idp, evOk, ovOk, nvOk, keepOf, vis, LV.under, LV.unders, LV.idp, LV.idps, LO.under, LO.idp, under_pv, idp_pv, List.all_cons, List.all_nil, List.any_cons, List.any_nil, Nat.reduceBEq, beq_self_eq_true, Bool.and_true, Bool.true_and, Bool.or_true, Bool.true_or, Bool.or_false, Bool.false_or, decide_true, decide_false, Nat.reduceLT, Nat.reduceLeDiff, Nat.le_refl, Nat.reduceAdd, Bool.and_self, Bool.or_self]; done)))⟩
      rw [List.take_add_one, hq]
      simp only [Option.toList_some, List.flatten_append, List.flatten_cons, List.flatten_nil, List.append_nil, List.mem_append, not_or]
      exact ⟨hx0, hxp⟩
  · have h1 : ¬ ((i : Int) < (h.length : Int)) := by omega
    obtain ⟨e1, e2⟩ := hno (by rw [List.take_of_length_le (by rw [← r.lh]; exact hge)] at hx0; exact hx0)
    subst e1; subst e2
    (repeat' first | refine LOps.done ?_ | (apply LOps.loc; (focus (first | exact Goes.free | exact Goes.on rfl rfl (by with_reducible rfl) true (by decide))); (focus (exact rfl)); (focus (exact rfl)); (focus (simp only [go_sem, ↓reduceIte, Nat.reduceEqDiff, h1]; with_reducible rfl))) | (apply LOps.loc0; (focus (first | exact Goes.free | exact Goes.on rfl rfl (by with_reducible rfl) true (by decide))); (focus (exact rfl)); (focus (simp only [go_sem, ↓reduceIte, Nat.reduceEqDiff, reduceCtorEq, Nat.reduceLT]; with_reducible rfl))) | refine LK.seq ?_ | refine LK.ret' ?_ | refine LK.exit' rfl ?_ | (apply LK.condF2; (focus (exact rfl)); (focus (with_reducible rfl)); (focus (first | with_reducible rfl | decide | (with_reducible exact Bool.false_and _) | (with_reducible exact congrArg (fun b => b && _) (Bool.false_and _))))) | refine LK.regc ?_ | (apply retQ; (focus (first | exact lres_one rfl | exact lres_more rfl | (simp only [lres, lresv, Try.results35, go_sem, ↓reduceIte, Nat.reduceEqDiff, reduceCtorEq]; exact rfl)))) | fail)
    (simp only [go_sem]; repeat' first | exact LV.le_refl _ | exact LV.le_nil _ | exact le_nilF _ _ | exact LV.le_any _ _ _ | refine LV.le_tup ?_ | refine LV.le_agg ?_ | exact LV.les_nil | refine LV.les_cons ?_ ?_)
theorem find_at {n h t : List Int} {Q : List (List Nat)} {x i : Nat} {p : List Nat} (b : okB n h t) (r : Rep n h t Q) (ha : At Q x i p) : Fun Try.prog 35 [cv n h t, vi x] (.tup [vi i, vi (lastI p)]) :=
  find_all n h t Q x i (lastI p) b r (fun hn => absurd ha.mem hn) fun j q hj => by obtain ⟨rfl, rfl⟩ := ha.unique r.nodup hj; exact ⟨rfl, rfl⟩
end Go.Proofs.Ytlikcejcdnkncaa
