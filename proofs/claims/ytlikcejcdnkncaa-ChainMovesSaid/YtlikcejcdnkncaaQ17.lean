/- Chapter 06: the document's chains of lists. -/
import Derived.Test.YtlikcejcdnkncaaQ16
set_option linter.unusedSimpArgs false
set_option linter.unusedVariables false
namespace Go.Proofs.Ytlikcejcdnkncaa
open Go.Lw
attribute [local irreducible] LK LOps LW
/-- The first one. -/
def headI : List Nat → Int
  | [] => -1
  | x :: _ => x
/-- The chains of the first lists. -/
structure Part (N : Nat) (Q : List (List Nat)) (i : Nat) (m : List Int) : Prop where
  len : m.length = N
  path : ∀ (j : Nat) (q : List Nat), j < i → Q[j]? = some q → pathTo m (headI q) q (-1)
  out : ∀ (x : Nat) (y : Int), m[x]? = some y → x ∉ (Q.take i).flatten → y = -2
theorem Part.start (N : Nat) (Q : List (List Nat)) : Part N Q 0 (List.replicate N (-2)) := by
  refine ⟨by simp, fun j q h => absurd h (Nat.not_lt_zero _), fun x y hy _ => ?_⟩
  obtain ⟨h3, h4⟩ := List.getElem?_eq_some_iff.1 hy
  simp at h4; exact h4.symm
theorem Part.rep {N : Nat} {Q : List (List Nat)} {m : List Int} (hd : Q.flatten.Nodup) (p : Part N Q Q.length m) : Rep m (Q.map headI) (Q.map lastI) Q := by
  refine ⟨by simp, by simp, fun i q a hq ha => ?_, fun i q a hq ha => ?_, hd, fun x y hy hx => p.out x y hy (by rw [List.take_length]; exact hx)⟩
  · rw [List.getElem?_map, hq] at ha
    obtain rfl := Option.some.inj ha
    exact p.path i q (lt_of_get hq) hq
  · rw [List.getElem?_map, hq] at ha
    exact (Option.some.inj ha).symm
/-- The end of one list is laid. -/
structure Laid (N : Nat) (m0 : List Int) (q : List Nat) (k : Nat) (m : List Int) : Prop where
  len : m.length = N
  path : pathTo m (headI (q.drop k)) (q.drop k) (-1)
  same : ∀ w, w ∉ q.drop k → m[w]? = m0[w]?
theorem Laid.step {N : Nat} {m0 m : List Int} {q : List Nat} {j x : Nat} (hn : q.Nodup) (hx : x < N) (hq : q[j]? = some x) (l : Laid N m0 q (j + 1) m) : Laid N m0 q j (m.set x (headI (q.drop (j + 1)))) ∧ headI (q.drop j) = x := by
  have e := drop_step hq
  have hnd : (q.drop j).Nodup := hn.sublist (List.drop_sublist _ _)
  rw [e, List.nodup_cons] at hnd
  refine ⟨⟨by rw [List.length_set, l.len], ?_, fun w hw => ?_⟩, by rw [e]; rfl⟩
  · rw [e]
    refine ⟨rfl, _, List.getElem?_set_self (by rw [l.len]; exact hx), pathTo_congr (fun z hz => ?_) l.path⟩
    rw [List.getElem?_set_ne]; rintro rfl; exact hnd.1 hz
  · rw [e] at hw
    simp only [List.mem_cons, not_or] at hw
    rw [List.getElem?_set_ne (Ne.symm hw.1)]; exact l.same w hw.2
theorem Laid.done {N : Nat} {Q : List (List Nat)} {m0 m : List Int} {q : List Nat} {i : Nat} (hd : Q.flatten.Nodup) (hq : Q[i]? = some q) (p : Part N Q i m0) (l : Laid N m0 q 0 m) : Part N Q (i + 1) m := by
  have hl := l.same
  rw [List.drop_zero] at hl
  have hp := l.path
  rw [List.drop_zero] at hp
  obtain ⟨d1, d2, d3, d4⟩ := nodup_cut hd hq
  have htk : (Q.take (i + 1)).flatten = (Q.take i).flatten ++ q := by rw [List.take_add_one, hq]; simp
  refine ⟨l.len, fun j u hj hu => ?_, fun x y hy hx => ?_⟩
  · by_cases e : j = i
    · subst e; rw [hq] at hu; obtain rfl := Option.some.inj hu; exact hp
    · refine pathTo_congr (fun z hz => hl z fun hzq => d3 z hzq ?_) (p.path j u (by omega) hu)
      exact List.mem_flatten.2 ⟨u, List.mem_of_getElem? (by rw [List.getElem?_take_of_lt (show j < i by omega)]; exact hu), hz⟩
  · rw [htk, List.mem_append, not_or] at hx
    rw [hl x hx.2] at hy
    exact p.out x y hy hx.1
set_option maxHeartbeats 4000000 in
set_option maxRecDepth 20000 in
theorem of_main (N : Nat) (Q : List (List Nat)) (A : LV) (hN : N ≤ 1024) (hQ : Q.length ≤ 256) (hd : Q.flatten.Nodup) (hlt : ∀ x ∈ Q.flatten, x < N) (hA : ∀ m h t, Rep m h t Q → m.length = N → A = cv m h t) : Fun Try.prog 39 [vi N, sS Q] A := by
  refine Fun.frozenLe ?_
  (refine LCalls.enter Try.func39 rfl (by simp [Try.ntmps39]) (LK.start ?_); simp only [Try.ntmps39, enterA, Nat.zero_add])
  (repeat' first | refine LOps.done ?_ | (apply LOps.mv; (focus (first | exact Goes.free | exact Goes.on rfl rfl (by with_reducible rfl) true (by decide))); (focus (exact rfl)); (focus (exact rfl))) | (apply LOps.loc; (focus (first | exact Goes.free | exact Goes.on rfl rfl (by with_reducible rfl) true (by decide))); (focus (exact rfl)); (focus (exact rfl)); (focus (simp only [go_sem, ↓reduceIte, reduceCtorEq, Nat.reduceLT, Nat.reduceAdd]; with_reducible rfl))) | (apply LOps.loc0; (focus (first | exact Goes.free | exact Goes.on rfl rfl (by with_reducible rfl) true (by decide))); (focus (exact rfl)); (focus (simp only [go_sem, ↓reduceIte, Nat.reduceEqDiff, reduceCtorEq, Nat.reduceLT, Nat.reduceAdd]; with_reducible rfl))) | refine LK.seq ?_ | refine LK.block ?_ | refine LK.regc ?_ | fail)
  refine LK.ownCell 1 1 3 [] [nil0, nil0] (by decide) rfl (by simp only [upd, go_sem, ↓reduceIte, Nat.reduceEqDiff, reduceCtorEq]; rfl) ?_
  refine LK.ownCell 1 1 3 [.own 2 0 0 0] [nil0] (by decide) rfl (by simp only [upd, go_sem, ↓reduceIte, Nat.reduceEqDiff, reduceCtorEq, Nat.reduceAdd]; rfl) ?_
  refine LK.ownCell 1 1 3 [.own 2 0 0 0, .own 3 0 0 0] [] (by decide) rfl (by simp only [upd, go_sem, ↓reduceIte, Nat.reduceEqDiff, reduceCtorEq, Nat.reduceAdd]; rfl) ?_
  refine LK.loop (fun k : Nat => N - k) (fun k => k ≤ N) (fun k => ⟨69, [(1, sS Q), (4, .ptr 0 1 0 0), (5, .ptr 1 1 0 0), (12, vi N), (13, vi k)]⟩) (fun k => [(2, .arr 1 (oF (cI .i64) (List.replicate k (-2)))), (3, .arr 1 []), (4, .arr 1 []), (1, .arr 3 [[.own 2 k 0 k, .own 3 0 0 0, .own 4 0 0 0]]), (0, .arr 3 [[nil0, nil0, nil0]])]) 0 (Nat.zero_le _) (Sub.by rfl rfl (by first | rfl | (simp only [subB, MB_all_under, MI_all_under, MB_all_idp, MI_all_idp, oF_under, oF_idp, oF_all_under, oF_all_idp, MB_under, MI_under, MB_idp, MI_idp, evOk, ovOk, nvOk, keepOf, vis, LV.under, LV.unders, LV.idp, LV.idps, LO.under, LO.idp, under_pv, idp_pv, List.all_cons, List.all_nil, List.any_cons, List.any_nil, Nat.reduceBEq, beq_self_eq_true, Bool.and_true, Bool.true_and, Bool.or_true, Bool.true_or, Bool.or_false, Bool.false_or, decide_true, decide_false, Nat.reduceLT, Nat.reduceLeDiff, Nat.le_refl, Nat.reduceAdd, Bool.and_self, Bool.or_self]; done))) ?_
  rintro k hk J hJ
  rcases Nat.lt_or_ge k N with hlk | hge
  · have h1 : ((k : Int) < (N : Int)) := by omega
    have hw := wrapn (n := k) (by omega)
    have hrep : List.replicate k (-2 : Int) ++ [-2] = List.replicate (k + 1) (-2) := List.replicate_succ'.symm
    have hrl : (List.replicate k (-2 : Int)).length = k := by simp
    have hmm : k + 1 ≤ maxLen ∧ (k + 1) * 8 ≤ 140737488355328 := by simp only [maxLen]; omega
    (repeat' first | refine LOps.done ?_ | (apply LOps.mv; (focus (first | exact Goes.free | exact Goes.on rfl rfl (by with_reducible rfl) true (by decide))); (focus (exact rfl)); (focus (exact rfl))) | (apply LOps.loc; (focus (first | exact Goes.free | exact Goes.on rfl rfl (by with_reducible rfl) true (by decide))); (focus (exact rfl)); (focus (exact rfl)); (focus (simp only [go_sem, ↓reduceIte, Nat.reduceEqDiff, reduceCtorEq, Nat.reduceLT, Nat.reduceAdd, Nat.reduceLeDiff, h1, hw, hrep, hrl, hmm]; with_reducible rfl))) | (apply LOps.loc0; (focus (first | exact Goes.free | exact Goes.on rfl rfl (by with_reducible rfl) true (by decide))); (focus (exact rfl)); (focus (simp only [go_sem, ↓reduceIte, Nat.reduceEqDiff, Nat.reduceLT, Nat.reduceAdd, Nat.reduceLeDiff]; with_reducible rfl))) | refine LK.seq ?_ | refine LK.skip ?_ | refine LK.block ?_ | refine LK.blk ?_ | refine LK.fin ?_ | (apply LK.condT2; (focus (exact rfl)); (focus (with_reducible rfl)); (focus (first | with_reducible rfl | decide | (with_reducible exact Bool.true_or _) | (with_reducible exact congrArg (fun b => b || _) (Bool.true_or _))))) | refine LK.regc ?_ | fail)
    apply hJ
    exact ⟨k + 1, hlk, by omega, (Sub.by rfl rfl (by first | rfl | (simp only [subB, oF_all_under, LV.under, LO.under, List.all_cons, List.all_nil, decide_true, Nat.reduceLT, Nat.reduceAdd, Bool.and_self]; done)))⟩
  · obtain rfl : k = N := by omega
    have h1 : ¬ ((k : Int) < (k : Int)) := by omega
    (repeat' first | refine LOps.done ?_ | (apply LOps.mv; (focus (first | exact Goes.free | exact Goes.on rfl rfl (by with_reducible rfl) true (by decide))); (focus (exact rfl)); (focus (exact rfl))) | (apply LOps.loc; (focus (first | exact Goes.free | exact Goes.on rfl rfl (by with_reducible rfl) true (by decide))); (focus (exact rfl)); (focus (exact rfl)); (focus (simp only [go_sem, ↓reduceIte, Nat.reduceEqDiff, Nat.reduceAdd, h1]; with_reducible rfl))) | refine LK.seq ?_ | refine LK.block ?_ | refine LK.exit' rfl ?_ | (apply LK.condF2; (focus (exact rfl)); (focus (with_reducible rfl)); (focus (first | with_reducible rfl | decide | (with_reducible exact Bool.false_and _) | (with_reducible exact congrArg (fun b => b && _) (Bool.false_and _))))) | refine LK.regc ?_ | fail)
    refine LK.loop (fun s : Nat × List Int => Q.length - s.1) (fun s => s.1 ≤ Q.length ∧ Part k Q s.1 s.2) (fun s => ⟨69, [(4, .ptr 0 1 0 0), (5, .ptr 1 1 0 0), (21, sS Q), (22, vi Q.length), (23, vi s.1)]⟩) (fun s => [(2, .arr 1 (oF (cI .i64) s.2)), (3, .arr 1 (oF (cI .i64) ((Q.take s.1).map headI))), (4, .arr 1 (oF (cI .i64) ((Q.take s.1).map lastI))), (1, .arr 3 [[.own 2 k 0 k, .own 3 s.1 0 s.1, .own 4 s.1 0 s.1]]), (0, .arr 3 [[nil0, nil0, nil0]])]) (0, List.replicate k (-2)) ⟨Nat.zero_le _, .start _ _⟩ (Sub.by rfl rfl (by first | rfl | (simp only [subB, oF_all_under, LV.under, LO.under, List.all_cons, List.all_nil, decide_true, Nat.reduceLT, Bool.and_self]; done))) ?_
    rintro ⟨i, m0⟩ ⟨hi, hp⟩ J1 hJ1
    simp only at hi hp
    rcases Nat.lt_or_ge i Q.length with ilt | ige
    · obtain ⟨q, hq⟩ := idx_all ilt
      have h2 : ((i : Int) < (Q.length : Int)) := by omega
      have hw := wrapn (n := i) (by omega)
      have hcs := cS_eq q
      have hcl := castL_len q
      have hqn : ∀ x ∈ q, x < k := fun x hx => hlt x (mem_fl.2 ⟨i, q, hq, hx⟩)
      have hqd := (nodup_iff.1 hd).1 i q hq
      have hql : q.length ≤ k := pigeon hqd hqn
      have hw1 : IntKind.i64.wrap ((q.length : Int) - 1) = (q.length : Int) - 1 := by rw [IntKind.wrap_i64]; omega
      (repeat' first | refine LOps.done ?_ | (apply LOps.mv; (focus (first | exact Goes.free | exact Goes.on rfl rfl (by with_reducible rfl) true (by decide))); (focus (exact rfl)); (focus (exact rfl))) | (apply LOps.asg; (focus (first | exact Goes.free | exact Goes.on rfl rfl (by with_reducible rfl) true (by decide))); (focus (exact rfl)); (focus (exact rfl))) | (apply LOps.loc; (focus (first | exact Goes.free | exact Goes.on rfl rfl (by with_reducible rfl) true (by decide))); (focus (exact rfl)); (focus (exact rfl)); (focus (simp only [go_sem, ↓reduceIte, Nat.reduceEqDiff, Nat.reduceLT, h2, hq, hcs, hcl, hw1]; with_reducible rfl))) | refine LK.seq ?_ | refine LK.skip ?_ | refine LK.block ?_ | (apply LK.condT2; (focus (exact rfl)); (focus (with_reducible rfl)); (focus (first | with_reducible rfl | decide | (with_reducible exact Bool.true_or _) | (with_reducible exact congrArg (fun b => b || _) (Bool.true_or _))))) | refine LK.regc ?_ | fail)
      refine LK.loop (fun s : Nat × List Int => s.1) (fun s => s.1 ≤ q.length ∧ Laid k m0 q s.1 s.2) (fun s => ⟨69, [(4, .ptr 0 1 0 0), (5, .ptr 1 1 0 0), (7, sI (castL q)), (8, vi (headI (q.drop s.1))), (9, vi (-1)), (10, vi ((s.1 : Int) - 1)), (21, sS Q), (22, vi Q.length), (23, vi i)]⟩) (fun s => [(2, .arr 1 (oF (cI .i64) s.2)), (3, .arr 1 (oF (cI .i64) ((Q.take i).map headI))), (4, .arr 1 (oF (cI .i64) ((Q.take i).map lastI))), (1, .arr 3 [[.own 2 k 0 k, .own 3 i 0 i, .own 4 i 0 i]]), (0, .arr 3 [[nil0, nil0, nil0]])]) (q.length, m0) ⟨Nat.le_refl _, hp.len, by simp [pathTo, headI], fun _ _ => rfl⟩ (by dsimp only; rw [List.drop_length]; exact (Sub.by rfl rfl (by first | rfl | (simp only [subB, oF_all_under, LV.under, LO.under, List.all_cons, List.all_nil, decide_true, Nat.reduceLT, Bool.and_self]; done)))) ?_
      rintro ⟨j, m⟩ ⟨hj, hla⟩ J2 hJ2
      simp only at hj hla
      cases j with
      | succ j =>
        obtain ⟨x, hx⟩ := idx_all (show j < q.length by omega)
        have hxk := hqn x (List.mem_of_getElem? hx)
        obtain ⟨hst, hhd⟩ := hla.step hqd hxk hx
        have hml := hla.len
        have e0 : (((j + 1 : Nat) : Int) - 1) = (j : Int) := by omega
        have r1 : ((j : Int) ≥ 0) := by omega
        have r2 : ((j : Int) < (q.length : Int)) := by omega
        have r3 : j < q.length := by omega
        have r4 : ((x : Int) < (k : Int)) := by omega
        have hcx : (castL q)[j]? = some (x : Int) := by rw [castL, List.getElem?_map, hx]; rfl
        have hw2 : IntKind.i64.wrap ((j : Int) - 1) = (j : Int) - 1 := by rw [IntKind.wrap_i64]; omega
        obtain ⟨y, hy⟩ := idx_all (l := m) (k := x) (by omega)
        (repeat' first | refine LOps.done ?_ | (apply LOps.mv; (focus (first | exact Goes.free | exact Goes.on rfl rfl (by with_reducible rfl) true (by decide))); (focus (exact rfl)); (focus (exact rfl))) | (apply LOps.asg; (focus (first | exact Goes.free | exact Goes.on rfl rfl (by with_reducible rfl) true (by decide))); (focus (exact rfl)); (focus (exact rfl))) | (apply LOps.loc; (focus (first | exact Goes.free | exact Goes.on rfl rfl (by with_reducible rfl) true (by decide))); (focus (exact rfl)); (focus (exact rfl)); (focus (simp only [go_sem, ↓reduceIte, Nat.reduceEqDiff, Nat.reduceLT, e0, r1, r2, hcx, hcl, hw2]; with_reducible rfl))) | refine LK.seq ?_ | refine LK.skip ?_ | refine LK.block ?_ | refine LK.blk ?_ | refine LK.fin ?_ | (apply LK.condT2; (focus (exact rfl)); (focus (with_reducible rfl)); (focus (first | with_reducible rfl | decide | (with_reducible exact Bool.true_or _) | (with_reducible exact congrArg (fun b => b || _) (Bool.true_or _))))) | refine LK.regc ?_ | (apply LK.drawn3; (focus (exact Ty.mixed)); (focus ((repeat' first | exact DRun.nil _ _ _ | (apply DRun.apu; (focus (exact rfl)); (focus (exact rfl)); (focus (exact rfl)); (focus (first | with_reducible rfl | (simp only [go_sem, ↓reduceIte, Nat.reduceEqDiff, reduceCtorEq, Nat.reduceLT, Nat.reduceAdd, Int.reduceBEq, Int.reduceBNe, Int.reduceEq, Int.reduceLE, Int.reduceLT, Int.reduceToNat, Nat.reduceLeDiff, Nat.reduceMul, Nat.reduceSub, e0, r1, r2, r3, r4, hcx, hcl, hml, hxk, hw2, hy] <;> fail) | (simp only [go_sem, ↓reduceIte, Nat.reduceEqDiff, reduceCtorEq, Nat.reduceLT, Nat.reduceAdd, Int.reduceBEq, Int.reduceBNe, Int.reduceEq, Int.reduceLE, Int.reduceLT, Int.reduceToNat, Nat.reduceLeDiff, Nat.reduceMul, Nat.reduceSub, e0, r1, r2, r3, r4, hcx, hcl, hml, hxk, hw2, hy]; with_reducible rfl))); (focus (intro σ0 rows0 h10 h20; simp only [h10, h20, go_sem, ↓reduceIte, Nat.reduceEqDiff, Nat.reduceLT, r4, hml]; exact rfl)); (focus (first | exact idx_same | exact move_same)); (focus (exact rfl)); (focus (first | decide +kernel | (simp only [LV.under, List.all_cons, List.all_nil, decide_true, Nat.reduceLT, Bool.and_self]; first | done | rfl) | (simp [MB_all_under, MI_all_under, MB_all_idp, MI_all_idp, oF_under, oF_idp, oF_all_under, oF_all_idp, MB_under, MI_under, MB_idp, MI_idp, evOk, ovOk, nvOk, keepOf, vis, LV.under, LV.unders, LV.idp, LV.idps, LO.under, LO.idp, under_pv, idp_pv]; done) | exact rfl))) | (apply DRun.aopS; (focus (exact rfl)); (focus (first | exact rfl | (simp only [oF_idss, objsOf, idsOf, LV.ids, LV.idss, LO.ids, lookB_eq, List.any_nil, List.any_cons, cond_false, List.flatten_cons, List.flatten_nil, Nat.reduceBEq, Bool.or_false, go_sem, ↓reduceIte, Nat.reduceEqDiff]; exact rfl))); (focus (first | exact Goes.free | exact Goes.on rfl rfl (by with_reducible rfl) true (by decide))); (focus (simp only [go_sem, ↓reduceIte, Nat.reduceEqDiff, Nat.reduceLT, e0, r1, r2, hcx, hcl]; exact rfl)); (focus (exact rfl)); (focus (first | decide +kernel | (simp only [oF_all_under, oF_all_idp, evOk, ovOk, nvOk, keepOf, vis, LV.under, LV.idp, LO.under, LO.idp, List.all_cons, List.all_nil, List.any_cons, List.any_nil, Nat.reduceBEq, beq_self_eq_true, Bool.and_true, Bool.or_true, Bool.or_false, Bool.false_or, decide_true, decide_false, Nat.reduceLT, Nat.reduceLeDiff, Bool.and_self, Bool.or_self]; first | done | rfl) | (simp [MB_all_under, MI_all_under, MB_all_idp, MI_all_idp, oF_under, oF_idp, oF_all_under, oF_all_idp, MB_under, MI_under, MB_idp, MI_idp, evOk, ovOk, nvOk, keepOf, vis, LV.under, LV.unders, LV.idp, LV.idps, LO.under, LO.idp, under_pv, idp_pv]; done) | exact rfl))) | (apply DRun.awr0; (focus (exact rfl)); (focus (first | exact rfl | (simp only [oF_idss, objsOf, idsOf, LV.ids, LO.ids, lookB_eq, List.any_nil, cond_false, go_sem, ↓reduceIte]; exact rfl))); (focus (first | exact Goes.free | exact Goes.on rfl rfl (by with_reducible rfl) true (by decide))); (focus (simp only [go_sem, ↓reduceIte, Nat.reduceEqDiff, Nat.reduceLT, hml, hy]; exact rfl)); (focus (first | (simp only [go_sem, ↓reduceIte]; exact rfl) | exact rfl)); (focus (first | decide +kernel | (simp only [oF_all_under, oF_all_idp, evOk, ovOk, nvOk, keepOf, vis, LV.under, LV.idp, LO.under, LO.idp, List.all_cons, List.all_nil, List.any_cons, List.any_nil, beq_self_eq_true, Bool.and_true, Bool.or_false, decide_true, decide_false, Nat.reduceLT, Nat.reduceLeDiff, Bool.and_self]; first | done | rfl) | (simp [MB_all_under, MI_all_under, MB_all_idp, MI_all_idp, oF_under, oF_idp, oF_all_under, oF_all_idp, MB_under, MI_under, MB_idp, MI_idp, evOk, ovOk, nvOk, keepOf, vis, LV.under, LV.unders, LV.idp, LV.idps, LO.under, LO.idp, under_pv, idp_pv]; done) | exact rfl)); (focus (first | (simp only [go_sem, ↓reduceIte]; exact rfl) | exact rfl))) | fail); done)); (focus kernel_rfl); (focus (first | exact puOk_none rfl | (simp [puOk, evShape, nvShape, oF_len, go_sem, ↓reduceIte, reduceCtorEq, hml]; done))); (focus (first | (simp only [go_sem, e0]; exact rfl) | exact rfl)); (focus (first | (simp only [go_sem, ↓reduceIte, Nat.reduceEqDiff, reduceCtorEq, Nat.reduceLT, Nat.reduceAdd, Int.reduceBEq, Int.reduceBNe, Int.reduceEq, Int.reduceLE, Int.reduceLT, Int.reduceToNat, Nat.reduceLeDiff, Nat.reduceMul, Nat.reduceSub, e0, r1, r2, r3, r4, hcx, hcl, hml, hxk, hw2, hy]; exact rfl) | exact rfl)); (focus (first | (simp only [go_sem, ↓reduceIte, Nat.reduceEqDiff, reduceCtorEq, Nat.reduceLT, Nat.reduceAdd, Int.reduceBEq, Int.reduceBNe, Int.reduceEq, Int.reduceLE, Int.reduceLT, Int.reduceToNat, Nat.reduceLeDiff, Nat.reduceMul, Nat.reduceSub, e0, r1, r2, r3, r4, hcx, hcl, hml, hxk, hw2, hy]; exact rfl) | exact rfl))) | fail)
        apply hJ2
        refine ⟨(j, m.set x (headI (q.drop (j + 1)))), ⟨by omega, hst⟩, by simp only; omega, ?_⟩
        simp only [hhd]
        exact (Sub.by rfl rfl (by first | rfl | (simp only [subB, oF_all_under, LV.under, LO.under, List.all_cons, List.all_nil, decide_true, Nat.reduceLT, Bool.and_self]; done)))
      | zero =>
        have r1 : ¬ ((((0 : Nat) : Int) - 1) ≥ 0) := by decide
        have hdone := hla.done hd hq hp
        have hml := hla.len
        have l1 : ((Q.take i).map headI).length = i := by rw [List.length_map, List.length_take]; omega
        have l2 : ((Q.take i).map lastI).length = i := by rw [List.length_map, List.length_take]; omega
        have s1 : (Q.take i).map headI ++ [headI q] = (Q.take (i + 1)).map headI := by rw [List.take_add_one, hq]; simp
        have s2 : (Q.take i).map lastI ++ [lastI q] = (Q.take (i + 1)).map lastI := by rw [List.take_add_one, hq]; simp
        have hd0 : q.drop 0 = q := rfl
        have hmm : i + 1 ≤ maxLen ∧ (i + 1) * 8 ≤ 140737488355328 := by simp only [maxLen]; omega
        rcases q.eq_nil_or_concat with e | ⟨q', z, e⟩
        · have r2 : ¬ ((q.length : Int) > 0) := by rw [e]; simp
          have e9 : lastI q = -1 := by rw [e]; rfl
          rw [e9] at s2
          (repeat' first | refine LOps.done ?_ | (apply LOps.mv; (focus (first | exact Goes.free | exact Goes.on rfl rfl (by with_reducible rfl) true (by decide))); (focus (exact rfl)); (focus (exact rfl))) | (apply LOps.loc; (focus (first | exact Goes.free | exact Goes.on rfl rfl (by with_reducible rfl) true (by decide))); (focus (exact rfl)); (focus (exact rfl)); (focus (simp only [go_sem, ↓reduceIte, Nat.reduceEqDiff, reduceCtorEq, Nat.reduceLT, Nat.reduceAdd, Nat.reduceLeDiff, r1, r2, hd0, l1, l2, s1, s2, hmm, hw, hcl]; with_reducible rfl))) | (apply LOps.loc0; (focus (first | exact Goes.free | exact Goes.on rfl rfl (by with_reducible rfl) true (by decide))); (focus (exact rfl)); (focus (simp only [go_sem, ↓reduceIte, Nat.reduceEqDiff, Nat.reduceLT, Nat.reduceAdd, Nat.reduceLeDiff]; with_reducible rfl))) | refine LK.seq ?_ | refine LK.skip ?_ | refine LK.blk ?_ | refine LK.fin ?_ | refine LK.exit' rfl ?_ | (apply LK.condF2; (focus (exact rfl)); (focus (with_reducible rfl)); (focus (first | with_reducible rfl | decide | (with_reducible exact Bool.false_and _) | (with_reducible exact congrArg (fun b => b && _) (Bool.false_and _))))) | refine LK.regc ?_ | fail)
          apply hJ1
          exact ⟨(i + 1, m), ⟨ilt, hdone⟩, by simp only; omega, (Sub.by rfl rfl (by first | rfl | (simp only [subB, oF_all_under, LV.under, LO.under, List.all_cons, List.all_nil, decide_true, Nat.reduceLT, Bool.and_self]; done)))⟩
        · rw [List.concat_eq_append] at e
          have hq1 : 1 ≤ q.length := by rw [e]; simp
          have r2 : ((q.length : Int) > 0) := by omega
          have e9 : lastI q = z := by rw [e, lastI_snoc]
          rw [e9] at s2
          have e0 : (q.length : Int) - 1 = ((q.length - 1 : Nat) : Int) := by omega
          have hw3 : IntKind.i64.wrap (((q.length - 1 : Nat)) : Int) = ((q.length - 1 : Nat) : Int) := by rw [IntKind.wrap_i64]; omega
          have r3 : (((q.length - 1 : Nat) : Int) < (q.length : Int)) := by omega
          have r4 : q.length - 1 < q.length := by omega
          have hcx : (castL q)[q.length - 1]? = some (z : Int) := by rw [e, castL, List.getElem?_map]; simp
          (repeat' first | refine LOps.done ?_ | (apply LOps.mv; (focus (first | exact Goes.free | exact Goes.on rfl rfl (by with_reducible rfl) true (by decide))); (focus (exact rfl)); (focus (exact rfl))) | (apply LOps.asg; (focus (first | exact Goes.free | exact Goes.on rfl rfl (by with_reducible rfl) true (by decide))); (focus (exact rfl)); (focus (exact rfl))) | (apply LOps.loc; (focus (first | exact Goes.free | exact Goes.on rfl rfl (by with_reducible rfl) true (by decide))); (focus (exact rfl)); (focus (exact rfl)); (focus (simp only [go_sem, ↓reduceIte, Nat.reduceEqDiff, reduceCtorEq, Nat.reduceLT, Nat.reduceAdd, Nat.reduceLeDiff, r1, r2, hd0, l1, l2, s1, s2, hmm, hw, hcl, hw3, e0, r3, hcx]; with_reducible rfl))) | (apply LOps.loc0; (focus (first | exact Goes.free | exact Goes.on rfl rfl (by with_reducible rfl) true (by decide))); (focus (exact rfl)); (focus (simp only [go_sem, ↓reduceIte, Nat.reduceEqDiff, Nat.reduceLT, Nat.reduceAdd, Nat.reduceLeDiff]; with_reducible rfl))) | refine LK.seq ?_ | refine LK.blk ?_ | refine LK.fin ?_ | refine LK.exit' rfl ?_ | (apply LK.condT2; (focus (exact rfl)); (focus (with_reducible rfl)); (focus (first | with_reducible rfl | decide | (with_reducible exact Bool.true_or _) | (with_reducible exact congrArg (fun b => b || _) (Bool.true_or _))))) | (apply LK.condF2; (focus (exact rfl)); (focus (with_reducible rfl)); (focus (first | with_reducible rfl | decide | (with_reducible exact Bool.false_and _) | (with_reducible exact congrArg (fun b => b && _) (Bool.false_and _))))) | refine LK.regc ?_ | fail)
          apply hJ1
          exact ⟨(i + 1, m), ⟨ilt, hdone⟩, by simp only; omega, (Sub.by rfl rfl (by first | rfl | (simp only [subB, oF_all_under, LV.under, LO.under, List.all_cons, List.all_nil, decide_true, Nat.reduceLT, Bool.and_self]; done)))⟩
    · obtain rfl : i = Q.length := by omega
      have h2 : ¬ ((Q.length : Int) < (Q.length : Int)) := by omega
      have hQt : Q.take Q.length = Q := List.take_length
      obtain rfl := hA m0 (Q.map headI) (Q.map lastI) (hp.rep hd) hp.len
      have t1 := take_all (l := m0) hp.len
      have t2 : (Q.map headI).take Q.length = Q.map headI := take_all (by simp)
      have t3 : (Q.map lastI).take Q.length = Q.map lastI := take_all (by simp)
      rw [hQt]
      (repeat' first | refine LOps.done ?_ | (apply LOps.loc; (focus (first | exact Goes.free | exact Goes.on rfl rfl (by with_reducible rfl) true (by decide))); (focus (exact rfl)); (focus (exact rfl)); (focus (simp only [go_sem, ↓reduceIte, Nat.reduceEqDiff, Nat.reduceAdd, h2]; with_reducible rfl))) | (apply LOps.loc0; (focus (first | exact Goes.free | exact Goes.on rfl rfl (by with_reducible rfl) true (by decide))); (focus (exact rfl)); (focus (simp only [go_sem, ↓reduceIte, Nat.reduceEqDiff, reduceCtorEq, Nat.reduceLT, Nat.reduceAdd]; with_reducible rfl))) | refine LK.seq ?_ | refine LK.ret' ?_ | refine LK.exit' rfl ?_ | (apply LK.condF2; (focus (exact rfl)); (focus (with_reducible rfl)); (focus (first | with_reducible rfl | decide | (with_reducible exact Bool.false_and _) | (with_reducible exact congrArg (fun b => b && _) (Bool.false_and _))))) | refine LK.regc ?_ | (apply retQ; (focus (first | exact lres_one rfl | exact lres_more rfl | (simp only [lres, lresv, Try.results39, go_sem, ↓reduceIte, Nat.reduceEqDiff, reduceCtorEq, Nat.reduceAdd]; exact rfl)))) | fail)
      have hml := hp.len
      (simp only [go_sem, ↓reduceIte, Nat.reduceEqDiff, t1, t2, t3, hml]; repeat' first | exact LV.le_refl _ | exact LV.le_nil _ | exact le_nilF _ _ | exact LV.le_any _ _ _ | refine LV.le_tup ?_ | refine LV.le_agg ?_ | exact LV.les_nil | refine LV.les_cons ?_ ?_)
end Go.Proofs.Ytlikcejcdnkncaa
