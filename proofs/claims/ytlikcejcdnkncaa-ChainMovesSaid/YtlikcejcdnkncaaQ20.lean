/- Chapter 06: the document's lists as own ones; a list without a node. -/
import Derived.Test.YtlikcejcdnkncaaQ18
set_option linter.unusedSimpArgs false
set_option linter.unusedVariables false
namespace Go.Proofs.Ytlikcejcdnkncaa
open Go.Lw
attribute [local irreducible] LK LOps LW
set_option maxHeartbeats 4000000 in
set_option maxRecDepth 20000 in
theorem rlists_own (n h t : List Int) (Q0 : List (List Nat)) (c : Ch n h t Q0) : Own Try.prog 29 [cv n h t] (.tup [.own 2 Q0.length 0 Q0.length, vb true]) 3 [(2, .arr 1 (oF cS Q0))] := by
  have g := c.b
  have r := c.r
  have hc := okB_yes g
  have hm : n.length ≤ maxLen ∧ 1 * n.length ≤ 281474976710656 := by have := g.1; simp only [maxLen]; omega
  have hz := metB_nil n.length
  have m1 : n.length ≤ maxLen := hm.1
  have m2 : n.length ≤ 281474976710656 := by have := hm.2; omega
  have hlQ : h.length = Q0.length := r.lh
  (refine LCalls.enter Try.func29 rfl (by simp [Try.ntmps29]) (LK.start ?_); simp only [Try.ntmps29, enterA])
  (repeat' first | refine LOps.done ?_ | (apply LOps.mv; (focus (first | exact Goes.free | exact Goes.on rfl rfl (by with_reducible rfl) true (by decide))); (focus (exact rfl)); (focus (exact rfl))) | (apply LOps.asg; (focus (first | exact Goes.free | exact Goes.on rfl rfl (by with_reducible rfl) true (by decide))); (focus (exact rfl)); (focus (exact rfl))) | (apply LOps.loc; (focus (first | exact Goes.free | exact Goes.on rfl rfl (by with_reducible rfl) true (by decide))); (focus (exact rfl)); (focus (exact rfl)); (focus (simp only [go_sem, ↓reduceIte, Nat.reduceEqDiff, Nat.reduceLT, Nat.reduceAdd]; with_reducible rfl))) | (apply LOps.pass; (focus (first | exact Goes.on rfl rfl (by with_reducible rfl) false (by decide) | exact Goes.undef rfl rfl (by with_reducible rfl))); (focus (exact rfl))) | (apply LOps.scEnd; (focus (exact rfl)); (focus (with_reducible rfl))) | refine LK.seq ?_ | refine LK.regc ?_ | (apply LOps.or2; exact rfl; exact rfl; exact rfl; exact rfl; exact rfl; (focus (with_reducible rfl)); (focus (first | kernel_rfl | rfl))) | refine Under.mk (fun hg => ?_) | fail)
  refine LK.condF2 rfl (by first | with_reducible rfl | rfl) (hc) ?_
  (repeat' first | refine LOps.done ?_ | (apply LOps.mv; (focus (first | exact Goes.free | exact Goes.on rfl rfl (by with_reducible rfl) true (by decide))); (focus (exact rfl)); (focus (exact rfl))) | (apply LOps.asg; (focus (first | exact Goes.free | exact Goes.on rfl rfl (by with_reducible rfl) true (by decide))); (focus (exact rfl)); (focus (exact rfl))) | (apply LOps.loc; (focus (first | exact Goes.free | exact Goes.on rfl rfl (by with_reducible rfl) true (by decide))); (focus (exact rfl)); (focus (exact rfl)); (focus (simp only [go_sem, ↓reduceIte, reduceCtorEq, Nat.reduceLT, Nat.reduceAdd, m1, m2, hz, Nat.one_mul]; with_reducible rfl))) | refine LK.seq ?_ | refine LK.skip ?_ | refine LK.block ?_ | refine LK.regc ?_ | fail)
  refine LK.own0 6 1 (by simp only [upd, go_sem, ↓reduceIte, Nat.reduceEqDiff, reduceCtorEq]; rfl) rfl ?_
  refine LK.loop (fun i : Nat => h.length - i) (fun i => i ≤ h.length) (fun i => ⟨108, [(1, .ptr 0 1 0 0), (4, vi n.length), (5, .own 1 n.length 0 n.length), (6, .own 2 i 0 i), (42, sI h), (43, vi h.length), (44, vi i)]⟩) (fun i => [(2, .arr 1 (oF cS (Q0.take i))), (1, .arr 1 (oF cB (metB n.length (Q0.take i).flatten))), (0, .arr 3 [[sI n, sI h, sI t]])]) 0 (Nat.zero_le _) (Sub.by rfl rfl (by first | rfl | (simp only [subB, oF_all_under, LV.under, LO.under, List.all_cons, List.all_nil, decide_true, Nat.reduceLT, Nat.reduceAdd, Bool.and_self]; done))) ?_
  rintro i hi J hJ
  rcases Nat.lt_or_ge i h.length with hlt | hge
  · obtain ⟨q, hq⟩ := idx_all (show i < Q0.length by omega)
    obtain ⟨a, b, ha, hb, hpq, hbl⟩ := rep_head r hq
    have h1 : ((i : Int) < (h.length : Int)) := by omega
    have h1t : ((i : Int) < (t.length : Int)) := by have := g.2.2.2; omega
    have hw := wrapn (n := i) (by have := g.2.2.1; omega)
    have hi256 : i ≤ 256 := by have := g.2.2.1; omega
    have hcut := nodup_cut r.nodup hq
    have hle := r.le hq
    have htl : (Q0.take i).length = i := by rw [List.length_take]; omega
    (repeat' first | refine LOps.done ?_ | (apply LOps.mv; (focus (first | exact Goes.free | exact Goes.on rfl rfl (by with_reducible rfl) true (by decide))); (focus (exact rfl)); (focus (exact rfl))) | (apply LOps.asg; (focus (first | exact Goes.free | exact Goes.on rfl rfl (by with_reducible rfl) true (by decide))); (focus (exact rfl)); (focus (exact rfl))) | (apply LOps.loc; (focus (first | exact Goes.free | exact Goes.on rfl rfl (by with_reducible rfl) true (by decide))); (focus (exact rfl)); (focus (exact rfl)); (focus (simp only [go_sem, ↓reduceIte, Nat.reduceEqDiff, Nat.reduceLT, Nat.reduceAdd, h1, ha]; with_reducible rfl))) | refine LK.seq ?_ | refine LK.skip ?_ | refine LK.block ?_ | (apply LK.condT2; (focus (exact rfl)); (focus (with_reducible rfl)); (focus (first | with_reducible rfl | decide | (with_reducible exact Bool.true_or _) | (with_reducible exact congrArg (fun b => b || _) (Bool.true_or _))))) | refine LK.regc ?_ | fail)
    refine LK.own0 9 1 (by simp only [upd, go_sem, ↓reduceIte, Nat.reduceEqDiff, reduceCtorEq]; rfl) rfl ?_
    refine LK.loop (fun s : List Nat × Int => n.length + 1 - s.1.length) (fun s => pathTo n a s.1 s.2) (fun s => ⟨108, [(1, .ptr 0 1 0 0), (4, vi n.length), (5, .own 1 n.length 0 n.length), (6, .own 2 i 0 i), (7, vi i), (8, vi s.2), (9, .own 3 s.1.length 0 s.1.length), (10, vi (lastI s.1)), (42, sI h), (43, vi h.length), (44, vi i)]⟩) (fun s => [(3, .arr 1 (oF (cI .i64) (castL s.1))), (2, .arr 1 (oF cS (Q0.take i))), (1, .arr 1 (oF cB (metB n.length ((Q0.take i).flatten ++ s.1)))), (0, .arr 3 [[sI n, sI h, sI t]])]) ([], a) rfl (by dsimp only; rw [List.append_nil]; exact (Sub.by rfl rfl (by first | rfl | (simp only [subB, oF_all_under, LV.under, LO.under, List.all_cons, List.all_nil, decide_true, Nat.reduceLT, Nat.reduceAdd, Bool.and_self]; done)))) ?_
    rintro ⟨p, d⟩ hp J2 hJ2
    simp only at hp
    obtain ⟨rest, e, hr⟩ := pathTo_split hp hpq
    have hpl : p.length + rest.length = q.length := by rw [e, List.length_append]
    cases rest with
    | cons x rest =>
      obtain ⟨rfl, y, hy, hr2⟩ := hr
      have hx := lt_of_get hy
      have r0 : ((x : Int) != -1) = true := by rw [bne_iff_ne]; omega
      have r2 : ¬ ((x : Int) < 0) := by omega
      have r3 : ¬ ((x : Int) ≥ (n.length : Int)) := by omega
      have r4 : ((x : Int) < (n.length : Int)) := by omega
      have hmg := metB_get (S := (Q0.take i).flatten ++ p) hx
      have hml := metB_len n.length ((Q0.take i).flatten ++ p)
      have hmet : x ∉ (Q0.take i).flatten ++ p := by
        intro hm
        rcases List.mem_append.1 hm with hm | hm
        · exact hcut.2.2.1 x (by rw [e]; simp) hm
        · have hd := hcut.2.1
          rw [e] at hd
          exact (List.nodup_append.1 hd).2.2 x hm x (by simp) rfl
      have hdm : decide (x ∈ (Q0.take i).flatten ++ p) = false := decide_eq_false hmet
      rw [hdm] at hmg
      have hms := metB_set n.length ((Q0.take i).flatten ++ p) x
      rw [List.append_assoc] at hms
      have hcs := castL_snoc p x
      have hcl := castL_len p
      have hmm : p.length + 1 ≤ maxLen ∧ (p.length + 1) * 8 ≤ 140737488355328 := by have := g.1; have := hle.1; simp only [maxLen]; omega
      (repeat' first | refine LOps.done ?_ | (apply LOps.mv; (focus (first | exact Goes.free | exact Goes.on rfl rfl (by with_reducible rfl) true (by decide))); (focus (exact rfl)); (focus (exact rfl))) | (apply LOps.asg; (focus (first | exact Goes.free | exact Goes.on rfl rfl (by with_reducible rfl) true (by decide))); (focus (exact rfl)); (focus (exact rfl))) | (apply LOps.loc; (focus (first | exact Goes.free | exact Goes.on rfl rfl (by with_reducible rfl) true (by decide))); (focus (exact rfl)); (focus (exact rfl)); (focus (simp only [go_sem, ↓reduceIte, Nat.reduceEqDiff, reduceCtorEq, Nat.reduceLT, Nat.reduceAdd, Nat.reduceLeDiff, r0, r2, r3, r4, hy, hmg, hml, hcs, hcl, hmm]; with_reducible rfl))) | (apply LOps.loc0; (focus (first | exact Goes.free | exact Goes.on rfl rfl (by with_reducible rfl) true (by decide))); (focus (exact rfl)); (focus (simp only [go_sem, ↓reduceIte, Nat.reduceEqDiff, Nat.reduceLT, hmg, hml, hms]; with_reducible rfl))) | refine LK.seq ?_ | refine LK.skip ?_ | refine LK.block ?_ | refine LK.blk ?_ | refine LK.fin ?_ | (apply LK.condT2; (focus (exact rfl)); (focus (with_reducible rfl)); (focus (first | with_reducible rfl | decide | (with_reducible exact Bool.true_or _) | (with_reducible exact congrArg (fun b => b || _) (Bool.true_or _))))) | (apply LK.condF2; (focus (exact rfl)); (focus (with_reducible rfl)); (focus (first | with_reducible rfl | decide | (with_reducible exact Bool.false_and _) | (with_reducible exact congrArg (fun b => b && _) (Bool.false_and _))))) | refine LK.regc ?_ | fail)
      apply hJ2
      refine ⟨(p ++ [x], y), pathTo_snoc hp rfl hy, ?_, ?_⟩
      · have := hle.1; simp only [List.length_append, List.length_singleton]; simp only [List.length_cons] at hpl; omega
      · simp only [lastI_snoc, List.length_append, List.length_singleton]; exact (Sub.by rfl rfl (by first | rfl | (simp only [subB, oF_all_under, LV.under, LO.under, List.all_cons, List.all_nil, decide_true, Nat.reduceLT, Nat.reduceAdd, Bool.and_self]; done)))
    | nil =>
      obtain rfl : d = -1 := hr
      rw [List.append_nil] at e
      subst e
      have r0 : ((-1 : Int) != -1) = false := rfl
      have hcl := castL_len q
      have hct : (castL q).take q.length = castL q := List.take_of_length_le (by omega)
      (repeat' first | refine LOps.done ?_ | (apply LOps.mv; (focus (first | exact Goes.free | exact Goes.on rfl rfl (by with_reducible rfl) true (by decide))); (focus (exact rfl)); (focus (exact rfl))) | (apply LOps.loc; (focus (first | exact Goes.free | exact Goes.on rfl rfl (by with_reducible rfl) true (by decide))); (focus (exact rfl)); (focus (exact rfl)); (focus (simp only [go_sem, ↓reduceIte, Nat.reduceEqDiff, reduceCtorEq, Nat.reduceLT, Nat.reduceAdd, r0, h1t, hb]; with_reducible rfl))) | refine LK.seq ?_ | refine LK.exit' rfl ?_ | (apply LK.condF2; (focus (exact rfl)); (focus (with_reducible rfl)); (focus (first | with_reducible rfl | decide | (with_reducible exact Bool.false_and _) | (with_reducible exact congrArg (fun b => b && _) (Bool.false_and _))))) | refine LK.regc ?_ | fail)
      have e3 : (b != lastI q) = false := by simpa using hbl
      refine LK.condF2 rfl (by first | with_reducible rfl | rfl) (e3) ?_
      have hF : frzT ⟨4, [(3, .arr 1 (oF (cI .i64) (castL q))), (2, .arr 1 (oF cS (Q0.take i))), (1, .arr 1 (oF cB (metB n.length ((Q0.take i).flatten ++ q)))), (0, .arr 3 [[sI n, sI h, sI t]])]⟩ 3 [(9, .own 3 q.length 0 q.length)] = [(9, .pv (.ro .any 1 (rF (cI .i64) (castL q))))] := by
        simp only [go_sem, ↓reduceIte, hcl, hct]
      refine LK.freeze 3 [9] rfl (by first | (rw [hF]; done) | (rw [hF]; rfl)) (by first | (simp only [go_sem, ↓reduceIte, Nat.reduceEqDiff, reduceCtorEq]; done) | (simp only [go_sem, ↓reduceIte, Nat.reduceEqDiff, reduceCtorEq]; exact rfl)) ?_
      have htk : Q0.take i ++ [q] = Q0.take (i + 1) := by rw [List.take_add_one, hq]; rfl
      have hcs := cS_snoc (Q0.take i) q
      rw [htk] at hcs
      have hmm : i + 1 ≤ maxLen ∧ (i + 1) * 24 ≤ 140737488355328 := by simp only [maxLen]; omega
      have hfl : (Q0.take i).flatten ++ q = (Q0.take (i + 1)).flatten := by rw [← htk]; simp
      (repeat' first | refine LOps.done ?_ | (apply LOps.mv; (focus (first | exact Goes.free | exact Goes.on rfl rfl (by with_reducible rfl) true (by decide))); (focus (exact rfl)); (focus (exact rfl))) | (apply LOps.asg; (focus (first | exact Goes.free | exact Goes.on rfl rfl (by with_reducible rfl) true (by decide))); (focus (exact rfl)); (focus (exact rfl))) | (apply LOps.loc; (focus (first | exact Goes.free | exact Goes.on rfl rfl (by with_reducible rfl) true (by decide))); (focus (exact rfl)); (focus (exact rfl)); (focus (simp only [go_sem, ↓reduceIte, Nat.reduceEqDiff, reduceCtorEq, Nat.reduceLT, Nat.reduceAdd, Nat.reduceLeDiff, hcs, hmm, hw, htl]; with_reducible rfl))) | refine LK.skip ?_ | refine LK.blk ?_ | refine LK.fin ?_ | refine LK.regc ?_ | fail)
      apply hJ
      refine ⟨i + 1, hlt, by omega, ?_⟩
      simp only [← hfl]
      exact (Sub.by rfl rfl (by first | rfl | (simp only [subB, oF_all_under, LV.under, LO.under, List.all_cons, List.all_nil, decide_true, Nat.reduceLT, Nat.reduceAdd, Bool.and_self]; done)))
  · have h1 : ¬ ((i : Int) < (h.length : Int)) := by omega
    obtain rfl : i = h.length := by omega
    have hQt : Q0.take h.length = Q0 := List.take_of_length_le (by omega)
    rw [hQt]
    have hml := metB_len n.length Q0.flatten
    have hmt : (metB n.length Q0.flatten).take n.length = metB n.length Q0.flatten := List.take_of_length_le (by omega)
    (repeat' first | refine LOps.done ?_ | (apply LOps.mv; (focus (first | exact Goes.free | exact Goes.on rfl rfl (by with_reducible rfl) true (by decide))); (focus (exact rfl)); (focus (exact rfl))) | (apply LOps.loc; (focus (first | exact Goes.free | exact Goes.on rfl rfl (by with_reducible rfl) true (by decide))); (focus (exact rfl)); (focus (exact rfl)); (focus (simp only [go_sem, ↓reduceIte, Nat.reduceEqDiff, Nat.reduceAdd, h1, hml, hmt]; with_reducible rfl))) | refine LK.seq ?_ | refine LK.block ?_ | refine LK.exit' rfl ?_ | (apply LK.condF2; (focus (exact rfl)); (focus (with_reducible rfl)); (focus (first | with_reducible rfl | decide | (with_reducible exact Bool.false_and _) | (with_reducible exact congrArg (fun b => b && _) (Bool.false_and _))))) | refine LK.regc ?_ | fail)
    refine LK.loop (fun k : Nat => n.length - k) (fun k => k ≤ n.length) (fun k => ⟨108, [(1, .ptr 0 1 0 0), (6, .own 2 h.length 0 h.length), (89, .own 1 n.length 0 n.length), (90, vi n.length), (91, vi k)]⟩) (fun _ => [(2, .arr 1 (oF cS Q0)), (1, .arr 1 (oF cB (metB n.length Q0.flatten))), (0, .arr 3 [[sI n, sI h, sI t]])]) 0 (Nat.zero_le _) (Sub.by rfl rfl (by first | rfl | (simp only [subB, oF_all_under, LV.under, LO.under, List.all_cons, List.all_nil, decide_true, Nat.reduceLT, Bool.and_self]; done))) ?_
    rintro k hk J2 hJ2
    rcases Nat.lt_or_ge k n.length with hlt | hge
    · obtain ⟨y, hy⟩ := idx_all hlt
      have r1 : ((k : Int) < (n.length : Int)) := by omega
      have hmg := metB_get (S := Q0.flatten) hlt
      have hw2 := wrapn (n := k) (by have := g.1; omega)
      by_cases hm : k ∈ Q0.flatten
      · have hdm : decide (k ∈ Q0.flatten) = true := decide_eq_true hm
        rw [hdm] at hmg
        (repeat' first | refine LOps.done ?_ | (apply LOps.mv; (focus (first | exact Goes.free | exact Goes.on rfl rfl (by with_reducible rfl) true (by decide))); (focus (exact rfl)); (focus (exact rfl))) | (apply LOps.asg; (focus (first | exact Goes.free | exact Goes.on rfl rfl (by with_reducible rfl) true (by decide))); (focus (exact rfl)); (focus (exact rfl))) | (apply LOps.loc; (focus (first | exact Goes.free | exact Goes.on rfl rfl (by with_reducible rfl) true (by decide))); (focus (exact rfl)); (focus (exact rfl)); (focus (simp only [go_sem, ↓reduceIte, Nat.reduceEqDiff, Nat.reduceLT, r1, hmg, hml, hw2]; with_reducible rfl))) | (apply LOps.pass; (focus (first | exact Goes.on rfl rfl (by with_reducible rfl) false (by decide) | exact Goes.undef rfl rfl (by with_reducible rfl))); (focus (exact rfl))) | refine LK.seq ?_ | refine LK.skip ?_ | refine LK.block ?_ | refine LK.blk ?_ | refine LK.fin ?_ | (apply LK.condT2; (focus (exact rfl)); (focus (with_reducible rfl)); (focus (first | with_reducible rfl | decide | (with_reducible exact Bool.true_or _) | (with_reducible exact congrArg (fun b => b || _) (Bool.true_or _))))) | (apply LK.condF2; (focus (exact rfl)); (focus (with_reducible rfl)); (focus (first | with_reducible rfl | decide | (with_reducible exact Bool.false_and _) | (with_reducible exact congrArg (fun b => b && _) (Bool.false_and _))))) | refine LK.regc ?_ | fail)
        apply hJ2
        exact ⟨k + 1, hlt, by omega, (Sub.by rfl rfl (by first | rfl | (simp only [subB, oF_all_under, LV.under, LO.under, List.all_cons, List.all_nil, decide_true, Nat.reduceLT, Bool.and_self]; done)))⟩
      · have hdm : decide (k ∈ Q0.flatten) = false := decide_eq_false hm
        rw [hdm] at hmg
        obtain rfl := r.out k y hy hm
        have e3 : ((-2 : Int) != -2) = false := rfl
        (repeat' first | refine LOps.done ?_ | (apply LOps.mv; (focus (first | exact Goes.free | exact Goes.on rfl rfl (by with_reducible rfl) true (by decide))); (focus (exact rfl)); (focus (exact rfl))) | (apply LOps.asg; (focus (first | exact Goes.free | exact Goes.on rfl rfl (by with_reducible rfl) true (by decide))); (focus (exact rfl)); (focus (exact rfl))) | (apply LOps.loc; (focus (first | exact Goes.free | exact Goes.on rfl rfl (by with_reducible rfl) true (by decide))); (focus (exact rfl)); (focus (exact rfl)); (focus (simp only [go_sem, ↓reduceIte, Nat.reduceEqDiff, reduceCtorEq, Nat.reduceLT, r1, hmg, hml, hy, e3, hw2]; with_reducible rfl))) | refine LK.seq ?_ | refine LK.skip ?_ | refine LK.block ?_ | refine LK.blk ?_ | refine LK.fin ?_ | (apply LK.condT2; (focus (exact rfl)); (focus (with_reducible rfl)); (focus (first | with_reducible rfl | decide | (with_reducible exact Bool.true_or _) | (with_reducible exact congrArg (fun b => b || _) (Bool.true_or _))))) | (apply LK.condF2; (focus (exact rfl)); (focus (with_reducible rfl)); (focus (first | with_reducible rfl | decide | (with_reducible exact Bool.false_and _) | (with_reducible exact congrArg (fun b => b && _) (Bool.false_and _))))) | refine LK.regc ?_ | fail)
        apply hJ2
        exact ⟨k + 1, hlt, by omega, (Sub.by rfl rfl (by first | rfl | (simp only [subB, oF_all_under, LV.under, LO.under, List.all_cons, List.all_nil, decide_true, Nat.reduceLT, Bool.and_self]; done)))⟩
    · have r1 : ¬ ((k : Int) < (n.length : Int)) := by omega
      rw [← hlQ]
      (repeat' first | refine LOps.done ?_ | (apply LOps.mv; (focus (first | exact Goes.free | exact Goes.on rfl rfl (by with_reducible rfl) true (by decide))); (focus (exact rfl)); (focus (exact rfl))) | (apply LOps.asg; (focus (first | exact Goes.free | exact Goes.on rfl rfl (by with_reducible rfl) true (by decide))); (focus (exact rfl)); (focus (exact rfl))) | (apply LOps.loc; (focus (first | exact Goes.free | exact Goes.on rfl rfl (by with_reducible rfl) true (by decide))); (focus (exact rfl)); (focus (exact rfl)); (focus (simp only [go_sem, ↓reduceIte, Nat.reduceEqDiff, r1]; with_reducible rfl))) | refine LK.seq ?_ | refine LK.ret' ?_ | refine LK.exit' rfl ?_ | (apply LK.condF2; (focus (exact rfl)); (focus (with_reducible rfl)); (focus (first | with_reducible rfl | decide | (with_reducible exact Bool.false_and _) | (with_reducible exact congrArg (fun b => b && _) (Bool.false_and _))))) | refine LK.regc ?_ | (apply retQ; (focus (first | exact lres_one rfl | exact lres_more rfl | (simp only [lres, lresv, Try.results29, go_sem, ↓reduceIte, Nat.reduceEqDiff, reduceCtorEq, Nat.reduceLT, Nat.reduceAdd, Int.reduceBEq, Int.reduceBNe, Int.reduceEq, Int.reduceLE, Int.reduceLT, Int.reduceToNat, Nat.reduceLeDiff, Nat.reduceMul, Nat.reduceSub, r1]; exact rfl)))) | fail)
      exact Own.end (by first | rfl | (simp only [go_sem, ↓reduceIte, Nat.reduceEqDiff, reduceCtorEq, Nat.reduceLT, Nat.reduceAdd, Int.reduceBEq, Int.reduceBNe, Int.reduceEq, Int.reduceLE, Int.reduceLT, Int.reduceToNat, Nat.reduceLeDiff, Nat.reduceMul, Nat.reduceSub])) rfl rfl (by first | exact rfl | (simp only [go_sem, ↓reduceIte, Nat.reduceEqDiff, reduceCtorEq, Nat.reduceLT, Nat.reduceAdd, Int.reduceBEq, Int.reduceBNe, Int.reduceEq, Int.reduceLE, Int.reduceLT, Int.reduceToNat, Nat.reduceLeDiff, Nat.reduceMul, Nat.reduceSub]; exact rfl))
set_option maxHeartbeats 4000000 in
set_option maxRecDepth 20000 in
theorem without_fun (l : List Nat) (x : Nat) (hl : l.length ≤ 1024) : Fun Try.prog 40 [sI (castL l), vi x] (sI (castL (l.filter fun y => decide (y ≠ x)))) := by
  have hcl := castL_len l
  refine Fun.frozenLe ?_
  (refine LCalls.enter Try.func40 rfl (by simp [Try.ntmps40]) (LK.start ?_); simp only [Try.ntmps40, enterA, Nat.zero_add])
  (repeat' first | refine LOps.done ?_ | (apply LOps.mv; (focus (first | exact Goes.free | exact Goes.on rfl rfl (by with_reducible rfl) true (by decide))); (focus (exact rfl)); (focus (exact rfl))) | (apply LOps.loc; (focus (first | exact Goes.free | exact Goes.on rfl rfl (by with_reducible rfl) true (by decide))); (focus (exact rfl)); (focus (exact rfl)); (focus (simp only [go_sem, ↓reduceIte, hcl]; with_reducible rfl))) | refine LK.seq ?_ | refine LK.block ?_ | refine LK.regc ?_ | fail)
  refine LK.own0 5 1 (by simp only [upd, go_sem]; rfl) rfl ?_
  refine LK.loop (fun k : Nat => l.length - k) (fun k => k ≤ l.length) (fun k => ⟨23, [(1, vi x), (5, .own 0 ((l.take k).filter fun y => decide (y ≠ x)).length 0 ((l.take k).filter fun y => decide (y ≠ x)).length), (8, sI (castL l)), (9, vi l.length), (10, vi k)]⟩) (fun k => [(0, .arr 1 (oF (cI .i64) (castL ((l.take k).filter fun y => decide (y ≠ x)))))]) 0 (Nat.zero_le _) (Sub.by rfl rfl (by first | rfl | (simp only [subB, MB_all_under, MI_all_under, MB_all_idp, MI_all_idp, oF_under, oF_idp, oF_all_under, oF_all_idp, MB_under, MI_under, MB_idp, MI_idp, evOk, ovOk, nvOk, keepOf, vis, LV.under, LV.unders, LV.idp, LV.idps, LO.under, LO.idp, under_pv, idp_pv, List.all_cons, List.all_nil, List.any_cons, List.any_nil, Nat.reduceBEq, beq_self_eq_true, Bool.and_true, Bool.true_and, Bool.or_true, Bool.true_or, Bool.or_false, Bool.false_or, decide_true, decide_false, Nat.reduceLT, Nat.reduceLeDiff, Nat.le_refl, Nat.reduceAdd, Bool.and_self, Bool.or_self]; done))) ?_
  rintro k hk J hJ
  have hfl := castL_len ((l.take k).filter fun y => decide (y ≠ x))
  have hfb : ((l.take k).filter fun y => decide (y ≠ x)).length ≤ k := by
    have := List.length_filter_le (fun y => decide (y ≠ x)) (l.take k)
    rw [List.length_take] at this; omega
  rcases Nat.lt_or_ge k l.length with hlt | hge
  · obtain ⟨z, hz⟩ := idx_all hlt
    have h1 : ((k : Int) < (l.length : Int)) := by omega
    have hw := wrapn (n := k) (by omega)
    have hcx : (castL l)[k]? = some (z : Int) := by rw [castL, List.getElem?_map, hz]; rfl
    have htk : l.take (k + 1) = l.take k ++ [z] := by rw [List.take_add_one, hz]; rfl
    by_cases e : z = x
    · have e1 : ((z : Int) != (x : Int)) = false := by simp [e]
      have e2 : (l.take (k + 1)).filter (fun y => decide (y ≠ x)) = (l.take k).filter (fun y => decide (y ≠ x)) := by rw [htk, List.filter_append, List.filter_cons]; simp [e]
      (repeat' first | refine LOps.done ?_ | (apply LOps.mv; (focus (first | exact Goes.free | exact Goes.on rfl rfl (by with_reducible rfl) true (by decide))); (focus (exact rfl)); (focus (exact rfl))) | (apply LOps.asg; (focus (first | exact Goes.free | exact Goes.on rfl rfl (by with_reducible rfl) true (by decide))); (focus (exact rfl)); (focus (exact rfl))) | (apply LOps.loc; (focus (first | exact Goes.free | exact Goes.on rfl rfl (by with_reducible rfl) true (by decide))); (focus (exact rfl)); (focus (exact rfl)); (focus (simp only [go_sem, ↓reduceIte, Nat.reduceEqDiff, Nat.reduceLT, h1, hcx, hcl, hw, e1]; with_reducible rfl))) | refine LK.seq ?_ | refine LK.skip ?_ | refine LK.block ?_ | refine LK.blk ?_ | refine LK.fin ?_ | (apply LK.condT2; (focus (exact rfl)); (focus (with_reducible rfl)); (focus (first | with_reducible rfl | decide | (with_reducible exact Bool.true_or _) | (with_reducible exact congrArg (fun b => b || _) (Bool.true_or _))))) | (apply LK.condF2; (focus (exact rfl)); (focus (with_reducible rfl)); (focus (first | with_reducible rfl | decide | (with_reducible exact Bool.false_and _) | (with_reducible exact congrArg (fun b => b && _) (Bool.false_and _))))) | refine LK.regc ?_ | fail)
      apply hJ
      refine ⟨k + 1, hlt, by omega, ?_⟩
      simp only [e2]
      exact (Sub.by rfl rfl (by first | rfl | (simp only [subB, oF_all_under, LV.under, LO.under, List.all_cons, List.all_nil, decide_true, Nat.reduceLT, Nat.reduceAdd, Bool.and_self]; done)))
    · have e1 : ((z : Int) != (x : Int)) = true := by rw [bne_iff_ne]; omega
      have e2 : (l.take (k + 1)).filter (fun y => decide (y ≠ x)) = (l.take k).filter (fun y => decide (y ≠ x)) ++ [z] := by rw [htk, List.filter_append, List.filter_cons]; simp [e]
      have hsn := castL_snoc ((l.take k).filter fun y => decide (y ≠ x)) z
      generalize (l.take k).filter (fun y => decide (y ≠ x)) = u at *
      have hmm : u.length + 1 ≤ maxLen ∧ (u.length + 1) * 8 ≤ 140737488355328 := by simp only [maxLen]; omega
      (repeat' first | refine LOps.done ?_ | (apply LOps.mv; (focus (first | exact Goes.free | exact Goes.on rfl rfl (by with_reducible rfl) true (by decide))); (focus (exact rfl)); (focus (exact rfl))) | (apply LOps.asg; (focus (first | exact Goes.free | exact Goes.on rfl rfl (by with_reducible rfl) true (by decide))); (focus (exact rfl)); (focus (exact rfl))) | (apply LOps.loc; (focus (first | exact Goes.free | exact Goes.on rfl rfl (by with_reducible rfl) true (by decide))); (focus (exact rfl)); (focus (exact rfl)); (focus (simp only [go_sem, ↓reduceIte, Nat.reduceEqDiff, reduceCtorEq, Nat.reduceLT, Nat.reduceAdd, Nat.reduceLeDiff, h1, hcx, hcl, hw, e1, hsn, hfl, hmm]; with_reducible rfl))) | refine LK.seq ?_ | refine LK.skip ?_ | refine LK.block ?_ | refine LK.blk ?_ | refine LK.fin ?_ | (apply LK.condT2; (focus (exact rfl)); (focus (with_reducible rfl)); (focus (first | with_reducible rfl | decide | (with_reducible exact Bool.true_or _) | (with_reducible exact congrArg (fun b => b || _) (Bool.true_or _))))) | refine LK.regc ?_ | fail)
      apply hJ
      refine ⟨k + 1, hlt, by omega, ?_⟩
      simp only [e2, List.length_append, List.length_singleton]
      exact (Sub.by rfl rfl (by first | rfl | (simp only [subB, oF_all_under, LV.under, LO.under, List.all_cons, List.all_nil, decide_true, Nat.reduceLT, Nat.reduceAdd, Bool.and_self]; done)))
  · have h1 : ¬ ((k : Int) < (l.length : Int)) := by omega
    rw [List.take_of_length_le hge] at hfl ⊢
    have htt := take_all (l := castL (l.filter fun y => decide (y ≠ x))) hfl
    (repeat' first | refine LOps.done ?_ | (apply LOps.mv; (focus (first | exact Goes.free | exact Goes.on rfl rfl (by with_reducible rfl) true (by decide))); (focus (exact rfl)); (focus (exact rfl))) | (apply LOps.asg; (focus (first | exact Goes.free | exact Goes.on rfl rfl (by with_reducible rfl) true (by decide))); (focus (exact rfl)); (focus (exact rfl))) | (apply LOps.loc; (focus (first | exact Goes.free | exact Goes.on rfl rfl (by with_reducible rfl) true (by decide))); (focus (exact rfl)); (focus (exact rfl)); (focus (simp only [go_sem, ↓reduceIte, Nat.reduceEqDiff, h1]; with_reducible rfl))) | refine LK.seq ?_ | refine LK.ret' ?_ | refine LK.exit' rfl ?_ | (apply LK.condF2; (focus (exact rfl)); (focus (with_reducible rfl)); (focus (first | with_reducible rfl | decide | (with_reducible exact Bool.false_and _) | (with_reducible exact congrArg (fun b => b && _) (Bool.false_and _))))) | refine LK.regc ?_ | (apply retQ; (focus (first | exact lres_one rfl | exact lres_more rfl | (simp only [lres, lresv, Try.results40, go_sem, ↓reduceIte, Nat.reduceEqDiff, reduceCtorEq, Nat.reduceLT, Nat.reduceAdd, Int.reduceBEq, Int.reduceBNe, Int.reduceEq, Int.reduceLE, Int.reduceLT, Int.reduceToNat, Nat.reduceLeDiff, Nat.reduceMul, Nat.reduceSub, h1]; exact rfl)))) | fail)
    (simp only [go_sem, ↓reduceIte, htt, hfl]; repeat' first | exact LV.le_refl _ | exact LV.le_nil _ | exact le_nilF _ _ | exact LV.le_any _ _ _ | refine LV.le_tup ?_ | refine LV.le_agg ?_ | exact LV.les_nil | refine LV.les_cons ?_ ?_)
end Go.Proofs.Ytlikcejcdnkncaa
