/- Chapter 06: the document's lists. -/
import Derived.Test.YtlikcejcdnkncaaQ14
set_option linter.unusedSimpArgs false
set_option linter.unusedVariables false
namespace Go.Proofs.Ytlikcejcdnkncaa
open Go.Lw
attribute [local irreducible] LK LOps LW
/-- A list within lists. -/
def cS (q : List Nat) : List PV := [.ro .any 1 (rF (cI .i64) (castL q))]
theorem cS_snoc (Q : List (List Nat)) (p : List Nat) : oF cS Q ++ [[LV.pv (.ro .any 1 (rF (cI .i64) (castL p)))]] = oF cS (Q ++ [p]) := by
  rw [← oF_append]; rfl
set_option maxHeartbeats 4000000 in
set_option maxRecDepth 20000 in
theorem rlists_bound (n h t : List Int) (g : ¬ okB n h t) : Fun Try.prog 29 [cv n h t] (.tup [nil0, vb false]) := by
  have hc := okB_not g
  (refine LCalls.enter Try.func29 rfl (by simp [Try.ntmps29]) (LK.start ?_); simp only [Try.ntmps29, enterA])
  (repeat' first | refine LOps.done ?_ | (apply LOps.mv; (focus (first | exact Goes.free | exact Goes.on rfl rfl (by with_reducible rfl) true (by decide))); (focus (exact rfl)); (focus (exact rfl))) | (apply LOps.asg; (focus (first | exact Goes.free | exact Goes.on rfl rfl (by with_reducible rfl) true (by decide))); (focus (exact rfl)); (focus (exact rfl))) | (apply LOps.loc; (focus (first | exact Goes.free | exact Goes.on rfl rfl (by with_reducible rfl) true (by decide))); (focus (exact rfl)); (focus (exact rfl)); (focus (simp only [go_sem, ↓reduceIte, Nat.reduceEqDiff, Nat.reduceLT, Nat.reduceAdd]; with_reducible rfl))) | (apply LOps.pass; (focus (first | exact Goes.on rfl rfl (by with_reducible rfl) false (by decide) | exact Goes.undef rfl rfl (by with_reducible rfl))); (focus (exact rfl))) | (apply LOps.scEnd; (focus (exact rfl)); (focus (with_reducible rfl))) | refine LK.seq ?_ | refine LK.regc ?_ | (apply LOps.or2; exact rfl; exact rfl; exact rfl; exact rfl; exact rfl; (focus (with_reducible rfl)); (focus (first | kernel_rfl | rfl))) | refine Under.mk (fun hg => ?_) | fail)
  refine LK.condT2 rfl (by first | with_reducible rfl | rfl) (hc) ?_
  (repeat' first | refine LOps.done ?_ | (apply LOps.loc; (focus (first | exact Goes.free | exact Goes.on rfl rfl (by with_reducible rfl) true (by decide))); (focus (exact rfl)); (focus (exact rfl)); (focus (simp only [go_sem]; with_reducible rfl))) | refine LK.seq ?_ | refine LK.ret' ?_ | refine LK.regc ?_ | (apply retQ; (focus (first | exact lres_one rfl | exact lres_more rfl | (simp only [lres, lresv, Try.results29, go_sem, ↓reduceIte, Nat.reduceEqDiff, reduceCtorEq, Nat.reduceLT, Nat.reduceAdd, Int.reduceBEq, Int.reduceBNe, Int.reduceEq, Int.reduceLE, Int.reduceLT, Int.reduceToNat, Nat.reduceLeDiff, Nat.reduceMul, Nat.reduceSub]; exact rfl)))) | fail)
  all_goals rfl
set_option maxHeartbeats 4000000 in
set_option maxRecDepth 20000 in
theorem rlists_main (n h t : List Int) (A : LV) (B : Bool) (g : okB n h t) (hyes : ∀ Q, Rep n h t Q → A = sF 1 cS Q ∧ B = true) (hno : ¬ okC n h t → A = nil0 ∧ B = false) : Fun Try.prog 29 [cv n h t] (.tup [A, vb B]) := by
  have hc := okB_yes g
  have hm : n.length ≤ maxLen ∧ 1 * n.length ≤ 281474976710656 := by have := g.1; simp only [maxLen]; omega
  have hz := metB_nil n.length
  have m1 : n.length ≤ maxLen := hm.1
  have m2 : n.length ≤ 281474976710656 := by have := hm.2; omega
  refine Fun.frozenLe ?_
  (refine LCalls.enter Try.func29 rfl (by simp [Try.ntmps29]) (LK.start ?_); simp only [Try.ntmps29, enterA])
  (repeat' first | refine LOps.done ?_ | (apply LOps.mv; (focus (first | exact Goes.free | exact Goes.on rfl rfl (by with_reducible rfl) true (by decide))); (focus (exact rfl)); (focus (exact rfl))) | (apply LOps.asg; (focus (first | exact Goes.free | exact Goes.on rfl rfl (by with_reducible rfl) true (by decide))); (focus (exact rfl)); (focus (exact rfl))) | (apply LOps.loc; (focus (first | exact Goes.free | exact Goes.on rfl rfl (by with_reducible rfl) true (by decide))); (focus (exact rfl)); (focus (exact rfl)); (focus (simp only [go_sem, ↓reduceIte, Nat.reduceEqDiff, Nat.reduceLT, Nat.reduceAdd]; with_reducible rfl))) | (apply LOps.pass; (focus (first | exact Goes.on rfl rfl (by with_reducible rfl) false (by decide) | exact Goes.undef rfl rfl (by with_reducible rfl))); (focus (exact rfl))) | (apply LOps.scEnd; (focus (exact rfl)); (focus (with_reducible rfl))) | refine LK.seq ?_ | refine LK.regc ?_ | (apply LOps.or2; exact rfl; exact rfl; exact rfl; exact rfl; exact rfl; (focus (with_reducible rfl)); (focus (first | kernel_rfl | rfl))) | refine Under.mk (fun hg => ?_) | fail)
  refine LK.condF2 rfl (by first | with_reducible rfl | rfl) (hc) ?_
  (repeat' first | refine LOps.done ?_ | (apply LOps.mv; (focus (first | exact Goes.free | exact Goes.on rfl rfl (by with_reducible rfl) true (by decide))); (focus (exact rfl)); (focus (exact rfl))) | (apply LOps.asg; (focus (first | exact Goes.free | exact Goes.on rfl rfl (by with_reducible rfl) true (by decide))); (focus (exact rfl)); (focus (exact rfl))) | (apply LOps.loc; (focus (first | exact Goes.free | exact Goes.on rfl rfl (by with_reducible rfl) true (by decide))); (focus (exact rfl)); (focus (exact rfl)); (focus (simp only [go_sem, ↓reduceIte, reduceCtorEq, Nat.reduceLT, Nat.reduceAdd, m1, m2, hz, Nat.one_mul]; with_reducible rfl))) | refine LK.seq ?_ | refine LK.skip ?_ | refine LK.block ?_ | refine LK.regc ?_ | fail)
  refine LK.own0 6 1 (by simp only [upd, go_sem, ↓reduceIte, Nat.reduceEqDiff, reduceCtorEq]; rfl) rfl ?_
  refine LK.loop (fun s : Nat × List (List Nat) => h.length - s.1) (fun s => s.1 ≤ h.length ∧ Upto n h t s.1 s.2) (fun s => ⟨108, [(1, .ptr 0 1 0 0), (4, vi n.length), (5, .own 1 n.length 0 n.length), (6, .own 2 s.2.length 0 s.2.length), (42, sI h), (43, vi h.length), (44, vi s.1)]⟩) (fun s => [(2, .arr 1 (oF cS s.2)), (1, .arr 1 (oF cB (metB n.length s.2.flatten))), (0, .arr 3 [[sI n, sI h, sI t]])]) (0, []) ⟨Nat.zero_le _, .zero _ _ _⟩ (Sub.by rfl rfl (by first | rfl | (simp only [subB, oF_all_under, LV.under, LO.under, List.all_cons, List.all_nil, decide_true, Nat.reduceLT, Nat.reduceAdd, Bool.and_self]; done))) ?_
  rintro ⟨i, Q⟩ ⟨hi, hu⟩ J hJ
  simp only at hi hu
  rcases Nat.lt_or_ge i h.length with hlt | hge
  · obtain ⟨a, ha⟩ := idx_all hlt
    obtain ⟨b, hb⟩ := idx_all (show i < t.length by rw [g.2.2.2]; exact hlt)
    have h1 : ((i : Int) < (h.length : Int)) := by omega
    have h1t : ((i : Int) < (t.length : Int)) := by have := g.2.2.2; omega
    have hw := wrapn (n := i) (by have := g.2.2.1; omega)
    have hql : Q.length ≤ 256 := by have := hu.len; have := g.2.2.1; omega
    (repeat' first | refine LOps.done ?_ | (apply LOps.mv; (focus (first | exact Goes.free | exact Goes.on rfl rfl (by with_reducible rfl) true (by decide))); (focus (exact rfl)); (focus (exact rfl))) | (apply LOps.asg; (focus (first | exact Goes.free | exact Goes.on rfl rfl (by with_reducible rfl) true (by decide))); (focus (exact rfl)); (focus (exact rfl))) | (apply LOps.loc; (focus (first | exact Goes.free | exact Goes.on rfl rfl (by with_reducible rfl) true (by decide))); (focus (exact rfl)); (focus (exact rfl)); (focus (simp only [go_sem, ↓reduceIte, Nat.reduceEqDiff, Nat.reduceLT, Nat.reduceAdd, h1, ha]; with_reducible rfl))) | refine LK.seq ?_ | refine LK.skip ?_ | refine LK.block ?_ | (apply LK.condT2; (focus (exact rfl)); (focus (with_reducible rfl)); (focus (first | with_reducible rfl | decide | (with_reducible exact Bool.true_or _) | (with_reducible exact congrArg (fun b => b || _) (Bool.true_or _))))) | refine LK.regc ?_ | fail)
    refine LK.own0 9 1 (by simp only [upd, go_sem, ↓reduceIte, Nat.reduceEqDiff, reduceCtorEq]; rfl) rfl ?_
    refine LK.loop (fun s : List Nat × Int => n.length + 1 - s.1.length) (fun s => pathTo n a s.1 s.2 ∧ (Q.flatten ++ s.1).Nodup) (fun s => ⟨108, [(1, .ptr 0 1 0 0), (4, vi n.length), (5, .own 1 n.length 0 n.length), (6, .own 2 Q.length 0 Q.length), (7, vi i), (8, vi s.2), (9, .own 3 s.1.length 0 s.1.length), (10, vi (lastI s.1)), (42, sI h), (43, vi h.length), (44, vi i)]⟩) (fun s => [(3, .arr 1 (oF (cI .i64) (castL s.1))), (2, .arr 1 (oF cS Q)), (1, .arr 1 (oF cB (metB n.length (Q.flatten ++ s.1)))), (0, .arr 3 [[sI n, sI h, sI t]])]) ([], a) ⟨rfl, by simpa using hu.nodup⟩ (by dsimp only; rw [List.append_nil]; exact (Sub.by rfl rfl (by first | rfl | (simp only [subB, oF_all_under, LV.under, LO.under, List.all_cons, List.all_nil, decide_true, Nat.reduceLT, Nat.reduceAdd, Bool.and_self]; done)))) ?_
    rintro ⟨p, c⟩ ⟨hp, hnd⟩ J2 hJ2
    simp only at hp hnd
    have hpl := pathTo_lt hp
    have hbd : p.length ≤ n.length := by
      have := pigeon hnd (fun x hx => by
        rcases List.mem_append.1 hx with hx | hx
        · exact hu.lt x hx
        · exact hpl x hx)
      rw [List.length_append] at this; omega
    by_cases hin : 0 ≤ c ∧ c < n.length
    · obtain ⟨x, rfl⟩ := Int.eq_ofNat_of_zero_le hin.1
      have hx : x < n.length := by omega
      obtain ⟨y, hy⟩ := idx_all hx
      have r0 : ((x : Int) != -1) = true := by rw [bne_iff_ne]; omega
      have r2 : ¬ ((x : Int) < 0) := by omega
      have r3 : ¬ ((x : Int) ≥ (n.length : Int)) := by omega
      have r4 : ((x : Int) < (n.length : Int)) := by omega
      have hmg := metB_get (S := Q.flatten ++ p) hx
      have hml := metB_len n.length (Q.flatten ++ p)
      by_cases hmet : x ∈ Q.flatten ++ p
      · have hdm : decide (x ∈ Q.flatten ++ p) = true := decide_eq_true hmet
        rw [hdm] at hmg
        obtain ⟨rfl, rfl⟩ := hno (no_dup hu ha hp hmet)
        (repeat' first | refine LOps.done ?_ | (apply LOps.mv; (focus (first | exact Goes.free | exact Goes.on rfl rfl (by with_reducible rfl) true (by decide))); (focus (exact rfl)); (focus (exact rfl))) | (apply LOps.loc; (focus (first | exact Goes.free | exact Goes.on rfl rfl (by with_reducible rfl) true (by decide))); (focus (exact rfl)); (focus (exact rfl)); (focus (simp only [go_sem, ↓reduceIte, Nat.reduceEqDiff, Nat.reduceLT, Nat.reduceAdd, r0, r2, r3, r4, hmg, hml]; with_reducible rfl))) | refine LK.seq ?_ | refine LK.skip ?_ | refine LK.block ?_ | refine LK.ret' ?_ | (apply LK.condT2; (focus (exact rfl)); (focus (with_reducible rfl)); (focus (first | with_reducible rfl | decide | (with_reducible exact Bool.true_or _) | (with_reducible exact congrArg (fun b => b || _) (Bool.true_or _))))) | refine LK.regc ?_ | (apply retQ; (focus (first | exact lres_one rfl | exact lres_more rfl | (simp only [lres, lresv, Try.results29, go_sem, ↓reduceIte, Nat.reduceEqDiff, reduceCtorEq, Nat.reduceLT, Nat.reduceAdd, Int.reduceBEq, Int.reduceBNe, Int.reduceEq, Int.reduceLE, Int.reduceLT, Int.reduceToNat, Nat.reduceLeDiff, Nat.reduceMul, Nat.reduceSub, r0, r2, r3, r4, hy, hmg, hml, hx]; exact rfl)))) | fail)
        (simp only [go_sem]; repeat' first | exact LV.le_refl _ | exact LV.le_nil _ | exact le_nilF _ _ | exact LV.le_any _ _ _ | refine LV.le_tup ?_ | refine LV.le_agg ?_ | exact LV.les_nil | refine LV.les_cons ?_ ?_)
      · have hdm : decide (x ∈ Q.flatten ++ p) = false := decide_eq_false hmet
        rw [hdm] at hmg
        have hms := metB_set n.length (Q.flatten ++ p) x
        rw [List.append_assoc] at hms
        have hcs := castL_snoc p x
        have hcl := castL_len p
        have hmm : p.length + 1 ≤ maxLen ∧ (p.length + 1) * 8 ≤ 140737488355328 := by have := g.1; simp only [maxLen]; omega
        (repeat' first | refine LOps.done ?_ | (apply LOps.mv; (focus (first | exact Goes.free | exact Goes.on rfl rfl (by with_reducible rfl) true (by decide))); (focus (exact rfl)); (focus (exact rfl))) | (apply LOps.asg; (focus (first | exact Goes.free | exact Goes.on rfl rfl (by with_reducible rfl) true (by decide))); (focus (exact rfl)); (focus (exact rfl))) | (apply LOps.loc; (focus (first | exact Goes.free | exact Goes.on rfl rfl (by with_reducible rfl) true (by decide))); (focus (exact rfl)); (focus (exact rfl)); (focus (simp only [go_sem, ↓reduceIte, Nat.reduceEqDiff, reduceCtorEq, Nat.reduceLT, Nat.reduceAdd, Nat.reduceLeDiff, r0, r2, r3, r4, hy, hmg, hml, hcs, hcl, hmm]; with_reducible rfl))) | (apply LOps.loc0; (focus (first | exact Goes.free | exact Goes.on rfl rfl (by with_reducible rfl) true (by decide))); (focus (exact rfl)); (focus (simp only [go_sem, ↓reduceIte, Nat.reduceEqDiff, Nat.reduceLT, hmg, hml, hms]; with_reducible rfl))) | refine LK.seq ?_ | refine LK.skip ?_ | refine LK.block ?_ | refine LK.blk ?_ | refine LK.fin ?_ | (apply LK.condT2; (focus (exact rfl)); (focus (with_reducible rfl)); (focus (first | with_reducible rfl | decide | (with_reducible exact Bool.true_or _) | (with_reducible exact congrArg (fun b => b || _) (Bool.true_or _))))) | (apply LK.condF2; (focus (exact rfl)); (focus (with_reducible rfl)); (focus (first | with_reducible rfl | decide | (with_reducible exact Bool.false_and _) | (with_reducible exact congrArg (fun b => b && _) (Bool.false_and _))))) | refine LK.regc ?_ | fail)
        apply hJ2
        refine ⟨(p ++ [x], y), ⟨pathTo_snoc hp rfl hy, ?_⟩, ?_, ?_⟩
        · rw [← List.append_assoc]
          exact List.nodup_append.2 ⟨hnd, by simp, fun a ha b hb => by simp at hb; subst hb; exact fun e => hmet (e ▸ ha)⟩
        · simp only [List.length_append, List.length_singleton]; omega
        · simp only [lastI_snoc, List.length_append, List.length_singleton]; exact (Sub.by rfl rfl (by first | rfl | (simp only [subB, oF_all_under, LV.under, LO.under, List.all_cons, List.all_nil, decide_true, Nat.reduceLT, Nat.reduceAdd, Bool.and_self]; done)))
    · have hend : c < 0 ∨ (n.length : Int) ≤ c := by omega
      by_cases e1 : c = -1
      · subst e1
        have r0 : ((-1 : Int) != -1) = false := rfl
        have hcl := castL_len p
        have hct : (castL p).take p.length = castL p := List.take_of_length_le (by omega)
        (repeat' first | refine LOps.done ?_ | (apply LOps.mv; (focus (first | exact Goes.free | exact Goes.on rfl rfl (by with_reducible rfl) true (by decide))); (focus (exact rfl)); (focus (exact rfl))) | (apply LOps.loc; (focus (first | exact Goes.free | exact Goes.on rfl rfl (by with_reducible rfl) true (by decide))); (focus (exact rfl)); (focus (exact rfl)); (focus (simp only [go_sem, ↓reduceIte, Nat.reduceEqDiff, reduceCtorEq, Nat.reduceLT, Nat.reduceAdd, r0, h1t, hb]; with_reducible rfl))) | refine LK.seq ?_ | refine LK.exit' rfl ?_ | (apply LK.condF2; (focus (exact rfl)); (focus (with_reducible rfl)); (focus (first | with_reducible rfl | decide | (with_reducible exact Bool.false_and _) | (with_reducible exact congrArg (fun b => b && _) (Bool.false_and _))))) | refine LK.regc ?_ | fail)
        by_cases e2 : b = lastI p
        · have e3 : (b != lastI p) = false := by simpa using e2
          refine LK.condF2 rfl (by first | with_reducible rfl | rfl) (e3) ?_
          have hF : frzT ⟨4, [(3, .arr 1 (oF (cI .i64) (castL p))), (2, .arr 1 (oF cS Q)), (1, .arr 1 (oF cB (metB n.length (Q.flatten ++ p)))), (0, .arr 3 [[sI n, sI h, sI t]])]⟩ 3 [(9, .own 3 p.length 0 p.length)] = [(9, .pv (.ro .any 1 (rF (cI .i64) (castL p))))] := by
            simp only [go_sem, ↓reduceIte, hcl, hct]
          refine LK.freeze 3 [9] rfl (by first | (rw [hF]; done) | (rw [hF]; rfl)) (by first | (simp only [go_sem, ↓reduceIte, Nat.reduceEqDiff, reduceCtorEq]; done) | (simp only [go_sem, ↓reduceIte, Nat.reduceEqDiff, reduceCtorEq]; exact rfl)) ?_
          have hcs := cS_snoc Q p
          have hmm : Q.length + 1 ≤ maxLen ∧ (Q.length + 1) * 24 ≤ 140737488355328 := by simp only [maxLen]; omega
          (repeat' first | refine LOps.done ?_ | (apply LOps.mv; (focus (first | exact Goes.free | exact Goes.on rfl rfl (by with_reducible rfl) true (by decide))); (focus (exact rfl)); (focus (exact rfl))) | (apply LOps.asg; (focus (first | exact Goes.free | exact Goes.on rfl rfl (by with_reducible rfl) true (by decide))); (focus (exact rfl)); (focus (exact rfl))) | (apply LOps.loc; (focus (first | exact Goes.free | exact Goes.on rfl rfl (by with_reducible rfl) true (by decide))); (focus (exact rfl)); (focus (exact rfl)); (focus (simp only [go_sem, ↓reduceIte, Nat.reduceEqDiff, reduceCtorEq, Nat.reduceLT, Nat.reduceAdd, Nat.reduceLeDiff, hcs, hmm, hw]; with_reducible rfl))) | refine LK.skip ?_ | refine LK.blk ?_ | refine LK.fin ?_ | refine LK.regc ?_ | fail)
          apply hJ
          refine ⟨(i + 1, Q ++ [p]), ⟨hlt, hu.step ha hb hp e2 hnd⟩, by simp only; omega, ?_⟩
          simp only [List.flatten_append, List.flatten_cons, List.flatten_nil, List.append_nil, List.length_append, List.length_singleton]
          exact (Sub.by rfl rfl (by first | rfl | (simp only [subB, oF_all_under, LV.under, LO.under, List.all_cons, List.all_nil, decide_true, Nat.reduceLT, Nat.reduceAdd, Bool.and_self]; done)))
        · have e3 : (b != lastI p) = true := by simpa using e2
          obtain ⟨rfl, rfl⟩ := hno (no_end hu ha hb hp hend (.inr e2))
          refine LK.condT2 rfl (by first | with_reducible rfl | rfl) (e3) ?_
          (repeat' first | refine LOps.done ?_ | (apply LOps.loc; (focus (first | exact Goes.free | exact Goes.on rfl rfl (by with_reducible rfl) true (by decide))); (focus (exact rfl)); (focus (exact rfl)); (focus (simp only [go_sem]; with_reducible rfl))) | refine LK.seq ?_ | refine LK.ret' ?_ | refine LK.regc ?_ | (apply retQ; (focus (first | exact lres_one rfl | exact lres_more rfl | (simp only [lres, lresv, Try.results29, go_sem, ↓reduceIte, Nat.reduceEqDiff, reduceCtorEq, Nat.reduceLT, Nat.reduceAdd, Int.reduceBEq, Int.reduceBNe, Int.reduceEq, Int.reduceLE, Int.reduceLT, Int.reduceToNat, Nat.reduceLeDiff, Nat.reduceMul, Nat.reduceSub]; exact rfl)))) | fail)
          (simp only [go_sem]; repeat' first | exact LV.le_refl _ | exact LV.le_nil _ | exact le_nilF _ _ | exact LV.le_any _ _ _ | refine LV.le_tup ?_ | refine LV.le_agg ?_ | exact LV.les_nil | refine LV.les_cons ?_ ?_)
      · have r0 : (c != -1) = true := by simpa using e1
        obtain ⟨rfl, rfl⟩ := hno (no_end hu ha hb hp hend (.inl e1))
        by_cases hc0 : c < 0
        · (repeat' first | refine LOps.done ?_ | (apply LOps.mv; (focus (first | exact Goes.free | exact Goes.on rfl rfl (by with_reducible rfl) true (by decide))); (focus (exact rfl)); (focus (exact rfl))) | (apply LOps.loc; (focus (first | exact Goes.free | exact Goes.on rfl rfl (by with_reducible rfl) true (by decide))); (focus (exact rfl)); (focus (exact rfl)); (focus (simp only [go_sem, ↓reduceIte, Nat.reduceAdd, r0, hc0]; with_reducible rfl))) | (apply LOps.pass; (focus (first | exact Goes.on rfl rfl (by with_reducible rfl) false (by decide) | exact Goes.undef rfl rfl (by with_reducible rfl))); (focus (exact rfl))) | refine LK.seq ?_ | refine LK.skip ?_ | refine LK.block ?_ | refine LK.ret' ?_ | (apply LK.condT2; (focus (exact rfl)); (focus (with_reducible rfl)); (focus (first | with_reducible rfl | decide | (with_reducible exact Bool.true_or _) | (with_reducible exact congrArg (fun b => b || _) (Bool.true_or _))))) | refine LK.regc ?_ | (apply retQ; (focus (first | exact lres_one rfl | exact lres_more rfl | (simp only [lres, lresv, Try.results29, go_sem, ↓reduceIte, Nat.reduceEqDiff, reduceCtorEq, Nat.reduceLT, Nat.reduceAdd, Int.reduceBEq, Int.reduceBNe, Int.reduceEq, Int.reduceLE, Int.reduceLT, Int.reduceToNat, Nat.reduceLeDiff, Nat.reduceMul, Nat.reduceSub, r0, hc0]; exact rfl)))) | fail)
          (simp only [go_sem]; repeat' first | exact LV.le_refl _ | exact LV.le_nil _ | exact le_nilF _ _ | exact LV.le_any _ _ _ | refine LV.le_tup ?_ | refine LV.le_agg ?_ | exact LV.les_nil | refine LV.les_cons ?_ ?_)
        · have hc1 : c ≥ (n.length : Int) := by omega
          (repeat' first | refine LOps.done ?_ | (apply LOps.mv; (focus (first | exact Goes.free | exact Goes.on rfl rfl (by with_reducible rfl) true (by decide))); (focus (exact rfl)); (focus (exact rfl))) | (apply LOps.loc; (focus (first | exact Goes.free | exact Goes.on rfl rfl (by with_reducible rfl) true (by decide))); (focus (exact rfl)); (focus (exact rfl)); (focus (simp only [go_sem, ↓reduceIte, Nat.reduceEqDiff, Nat.reduceAdd, r0, hc0, hc1]; with_reducible rfl))) | (apply LOps.pass; (focus (first | exact Goes.on rfl rfl (by with_reducible rfl) false (by decide) | exact Goes.undef rfl rfl (by with_reducible rfl))); (focus (exact rfl))) | refine LK.seq ?_ | refine LK.skip ?_ | refine LK.block ?_ | refine LK.ret' ?_ | (apply LK.condT2; (focus (exact rfl)); (focus (with_reducible rfl)); (focus (first | with_reducible rfl | decide | (with_reducible exact Bool.true_or _) | (with_reducible exact congrArg (fun b => b || _) (Bool.true_or _))))) | refine LK.regc ?_ | (apply retQ; (focus (first | exact lres_one rfl | exact lres_more rfl | (simp only [lres, lresv, Try.results29, go_sem, ↓reduceIte, Nat.reduceEqDiff, reduceCtorEq, Nat.reduceLT, Nat.reduceAdd, Int.reduceBEq, Int.reduceBNe, Int.reduceEq, Int.reduceLE, Int.reduceLT, Int.reduceToNat, Nat.reduceLeDiff, Nat.reduceMul, Nat.reduceSub, r0, hc0, hc1]; exact rfl)))) | fail)
          (simp only [go_sem]; repeat' first | exact LV.le_refl _ | exact LV.le_nil _ | exact le_nilF _ _ | exact LV.le_any _ _ _ | refine LV.le_tup ?_ | refine LV.le_agg ?_ | exact LV.les_nil | refine LV.les_cons ?_ ?_)
  · have h1 : ¬ ((i : Int) < (h.length : Int)) := by omega
    obtain rfl : i = h.length := by omega
    have hml := metB_len n.length Q.flatten
    have hmt : (metB n.length Q.flatten).take n.length = metB n.length Q.flatten := List.take_of_length_le (by omega)
    (repeat' first | refine LOps.done ?_ | (apply LOps.mv; (focus (first | exact Goes.free | exact Goes.on rfl rfl (by with_reducible rfl) true (by decide))); (focus (exact rfl)); (focus (exact rfl))) | (apply LOps.loc; (focus (first | exact Goes.free | exact Goes.on rfl rfl (by with_reducible rfl) true (by decide))); (focus (exact rfl)); (focus (exact rfl)); (focus (simp only [go_sem, ↓reduceIte, Nat.reduceEqDiff, Nat.reduceAdd, h1, hml, hmt]; with_reducible rfl))) | refine LK.seq ?_ | refine LK.block ?_ | refine LK.exit' rfl ?_ | (apply LK.condF2; (focus (exact rfl)); (focus (with_reducible rfl)); (focus (first | with_reducible rfl | decide | (with_reducible exact Bool.false_and _) | (with_reducible exact congrArg (fun b => b && _) (Bool.false_and _))))) | refine LK.regc ?_ | fail)
    refine LK.loop (fun k : Nat => n.length - k) (fun k => k ≤ n.length ∧ ∀ (x : Nat) (y : Int), x < k → n[x]? = some y → x ∉ Q.flatten → y = -2) (fun k => ⟨108, [(1, .ptr 0 1 0 0), (6, .own 2 Q.length 0 Q.length), (89, .own 1 n.length 0 n.length), (90, vi n.length), (91, vi k)]⟩) (fun _ => [(2, .arr 1 (oF cS Q)), (1, .arr 1 (oF cB (metB n.length Q.flatten))), (0, .arr 3 [[sI n, sI h, sI t]])]) 0 ⟨Nat.zero_le _, fun _ _ h => absurd h (Nat.not_lt_zero _)⟩ (Sub.by rfl rfl (by first | rfl | (simp only [subB, oF_all_under, LV.under, LO.under, List.all_cons, List.all_nil, decide_true, Nat.reduceLT, Bool.and_self]; done))) ?_
    rintro k ⟨hk, hall⟩ J2 hJ2
    rcases Nat.lt_or_ge k n.length with hlt | hge
    · obtain ⟨y, hy⟩ := idx_all hlt
      have r1 : ((k : Int) < (n.length : Int)) := by omega
      have hmg := metB_get (S := Q.flatten) hlt
      have hw2 := wrapn (n := k) (by have := g.1; omega)
      by_cases hm : k ∈ Q.flatten
      · have hdm : decide (k ∈ Q.flatten) = true := decide_eq_true hm
        rw [hdm] at hmg
        (repeat' first | refine LOps.done ?_ | (apply LOps.mv; (focus (first | exact Goes.free | exact Goes.on rfl rfl (by with_reducible rfl) true (by decide))); (focus (exact rfl)); (focus (exact rfl))) | (apply LOps.asg; (focus (first | exact Goes.free | exact Goes.on rfl rfl (by with_reducible rfl) true (by decide))); (focus (exact rfl)); (focus (exact rfl))) | (apply LOps.loc; (focus (first | exact Goes.free | exact Goes.on rfl rfl (by with_reducible rfl) true (by decide))); (focus (exact rfl)); (focus (exact rfl)); (focus (simp only [go_sem, ↓reduceIte, Nat.reduceEqDiff, Nat.reduceLT, r1, hmg, hml, hw2]; with_reducible rfl))) | (apply LOps.pass; (focus (first | exact Goes.on rfl rfl (by with_reducible rfl) false (by decide) | exact Goes.undef rfl rfl (by with_reducible rfl))); (focus (exact rfl))) | refine LK.seq ?_ | refine LK.skip ?_ | refine LK.block ?_ | refine LK.blk ?_ | refine LK.fin ?_ | (apply LK.condT2; (focus (exact rfl)); (focus (with_reducible rfl)); (focus (first | with_reducible rfl | decide | (with_reducible exact Bool.true_or _) | (with_reducible exact congrArg (fun b => b || _) (Bool.true_or _))))) | (apply LK.condF2; (focus (exact rfl)); (focus (with_reducible rfl)); (focus (first | with_reducible rfl | decide | (with_reducible exact Bool.false_and _) | (with_reducible exact congrArg (fun b => b && _) (Bool.false_and _))))) | refine LK.regc ?_ | fail)
        apply hJ2
        refine ⟨k + 1, ⟨hlt, fun x z hx hz hn => ?_⟩, by omega, (Sub.by rfl rfl (by first | rfl | (simp only [subB, oF_all_under, LV.under, LO.under, List.all_cons, List.all_nil, decide_true, Nat.reduceLT, Bool.and_self]; done)))⟩
        by_cases e : x = k
        · subst e; exact absurd hm hn
        · exact hall x z (by omega) hz hn
      · have hdm : decide (k ∈ Q.flatten) = false := decide_eq_false hm
        rw [hdm] at hmg
        by_cases e2 : y = -2
        · have e3 : (y != -2) = false := by simpa using e2
          (repeat' first | refine LOps.done ?_ | (apply LOps.mv; (focus (first | exact Goes.free | exact Goes.on rfl rfl (by with_reducible rfl) true (by decide))); (focus (exact rfl)); (focus (exact rfl))) | (apply LOps.asg; (focus (first | exact Goes.free | exact Goes.on rfl rfl (by with_reducible rfl) true (by decide))); (focus (exact rfl)); (focus (exact rfl))) | (apply LOps.loc; (focus (first | exact Goes.free | exact Goes.on rfl rfl (by with_reducible rfl) true (by decide))); (focus (exact rfl)); (focus (exact rfl)); (focus (simp only [go_sem, ↓reduceIte, Nat.reduceEqDiff, reduceCtorEq, Nat.reduceLT, r1, hmg, hml, hy, e3, hw2]; with_reducible rfl))) | refine LK.seq ?_ | refine LK.skip ?_ | refine LK.block ?_ | refine LK.blk ?_ | refine LK.fin ?_ | (apply LK.condT2; (focus (exact rfl)); (focus (with_reducible rfl)); (focus (first | with_reducible rfl | decide | (with_reducible exact Bool.true_or _) | (with_reducible exact congrArg (fun b => b || _) (Bool.true_or _))))) | (apply LK.condF2; (focus (exact rfl)); (focus (with_reducible rfl)); (focus (first | with_reducible rfl | decide | (with_reducible exact Bool.false_and _) | (with_reducible exact congrArg (fun b => b && _) (Bool.false_and _))))) | refine LK.regc ?_ | fail)
          apply hJ2
          refine ⟨k + 1, ⟨hlt, fun x z hx hz hn => ?_⟩, by omega, (Sub.by rfl rfl (by first | rfl | (simp only [subB, oF_all_under, LV.under, LO.under, List.all_cons, List.all_nil, decide_true, Nat.reduceLT, Bool.and_self]; done)))⟩
          by_cases e : x = k
          · subst e; rw [hy] at hz; exact (Option.some.inj hz).symm.trans e2
          · exact hall x z (by omega) hz hn
        · have e3 : (y != -2) = true := by simpa using e2
          obtain ⟨rfl, rfl⟩ := hno (no_out hu hm hy e2)
          (repeat' first | refine LOps.done ?_ | (apply LOps.mv; (focus (first | exact Goes.free | exact Goes.on rfl rfl (by with_reducible rfl) true (by decide))); (focus (exact rfl)); (focus (exact rfl))) | (apply LOps.asg; (focus (first | exact Goes.free | exact Goes.on rfl rfl (by with_reducible rfl) true (by decide))); (focus (exact rfl)); (focus (exact rfl))) | (apply LOps.loc; (focus (first | exact Goes.free | exact Goes.on rfl rfl (by with_reducible rfl) true (by decide))); (focus (exact rfl)); (focus (exact rfl)); (focus (simp only [go_sem, ↓reduceIte, Nat.reduceEqDiff, reduceCtorEq, Nat.reduceLT, r1, hmg, hml, hy, e3]; with_reducible rfl))) | refine LK.seq ?_ | refine LK.skip ?_ | refine LK.block ?_ | refine LK.ret' ?_ | (apply LK.condT2; (focus (exact rfl)); (focus (with_reducible rfl)); (focus (first | with_reducible rfl | decide | (with_reducible exact Bool.true_or _) | (with_reducible exact congrArg (fun b => b || _) (Bool.true_or _))))) | refine LK.regc ?_ | (apply retQ; (focus (first | exact lres_one rfl | exact lres_more rfl | (simp only [lres, lresv, Try.results29, go_sem, ↓reduceIte, Nat.reduceEqDiff, reduceCtorEq, Nat.reduceLT, Nat.reduceAdd, Int.reduceBEq, Int.reduceBNe, Int.reduceEq, Int.reduceLE, Int.reduceLT, Int.reduceToNat, Nat.reduceLeDiff, Nat.reduceMul, Nat.reduceSub, r1, hmg, hml, hlt, hy, e3]; exact rfl)))) | fail)
          (simp only [go_sem]; repeat' first | exact LV.le_refl _ | exact LV.le_nil _ | exact le_nilF _ _ | exact LV.le_any _ _ _ | refine LV.le_tup ?_ | refine LV.le_agg ?_ | exact LV.les_nil | refine LV.les_cons ?_ ?_)
    · have r1 : ¬ ((k : Int) < (n.length : Int)) := by omega
      have hr : Rep n h t Q := ⟨hu.len.symm, g.2.2.2.trans hu.len.symm, hu.path, hu.tail, hu.nodup, fun x y hy hn => hall x y (by have := lt_of_get hy; omega) hy hn⟩
      obtain ⟨rfl, rfl⟩ := hyes Q hr
      have hqt : Q.take Q.length = Q := List.take_length
      (repeat' first | refine LOps.done ?_ | (apply LOps.mv; (focus (first | exact Goes.free | exact Goes.on rfl rfl (by with_reducible rfl) true (by decide))); (focus (exact rfl)); (focus (exact rfl))) | (apply LOps.asg; (focus (first | exact Goes.free | exact Goes.on rfl rfl (by with_reducible rfl) true (by decide))); (focus (exact rfl)); (focus (exact rfl))) | (apply LOps.loc; (focus (first | exact Goes.free | exact Goes.on rfl rfl (by with_reducible rfl) true (by decide))); (focus (exact rfl)); (focus (exact rfl)); (focus (simp only [go_sem, ↓reduceIte, Nat.reduceEqDiff, r1]; with_reducible rfl))) | refine LK.seq ?_ | refine LK.ret' ?_ | refine LK.exit' rfl ?_ | (apply LK.condF2; (focus (exact rfl)); (focus (with_reducible rfl)); (focus (first | with_reducible rfl | decide | (with_reducible exact Bool.false_and _) | (with_reducible exact congrArg (fun b => b && _) (Bool.false_and _))))) | refine LK.regc ?_ | (apply retQ; (focus (first | exact lres_one rfl | exact lres_more rfl | (simp only [lres, lresv, Try.results29, go_sem, ↓reduceIte, Nat.reduceEqDiff, reduceCtorEq, Nat.reduceLT, Nat.reduceAdd, Int.reduceBEq, Int.reduceBNe, Int.reduceEq, Int.reduceLE, Int.reduceLT, Int.reduceToNat, Nat.reduceLeDiff, Nat.reduceMul, Nat.reduceSub, r1]; exact rfl)))) | fail)
      (simp only [go_sem, ↓reduceIte, hqt]; repeat' first | exact LV.le_refl _ | exact LV.le_nil _ | exact le_nilF _ _ | exact LV.le_any _ _ _ | refine LV.le_tup ?_ | refine LV.le_agg ?_ | exact LV.les_nil | refine LV.les_cons ?_ ?_)
theorem rlists_yes {n h t : List Int} {Q : List (List Nat)} (c : Ch n h t Q) : Fun Try.prog 29 [cv n h t] (.tup [sF 1 cS Q, vb true]) :=
  rlists_main n h t _ _ c.b (fun R r => by obtain rfl := c.unique ⟨c.b, r⟩; exact ⟨rfl, rfl⟩) fun hn => absurd c.ok hn
theorem rlists_no {n h t : List Int} (g : ¬ okC n h t) : Fun Try.prog 29 [cv n h t] (.tup [nil0, vb false]) := by
  by_cases b : okB n h t
  · exact rlists_main n h t nil0 false b (fun R r => absurd ⟨b, R, r⟩ g) fun _ => ⟨rfl, rfl⟩
  · exact rlists_bound n h t b
end Go.Proofs.Ytlikcejcdnkncaa
