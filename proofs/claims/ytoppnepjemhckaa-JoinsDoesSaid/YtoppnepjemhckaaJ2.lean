/- Chapter 11: joins that may not be. -/
import Derived.Test.YtoppnepjemhckaaJ1
set_option linter.unusedSimpArgs false
set_option linter.unusedVariables false
namespace Go.Proofs.Ytoppnepjemhckaa
open Go.Lw
attribute [local irreducible] LK LOps LW
/-- The first join that may not be: those ahead of it may. -/
theorem first_bad : ∀ {l : List Jn}, ¬ good l → ∃ i x, l[i]? = some x ∧ good (l.take i) ∧ (x.1 < 0 ∨ x.2 < 0 ∨ x.2 ∈ (l.take i).map (·.2)) := by
  intro l
  have key : ∀ k ≤ l.length, good (l.take k) ∨ ∃ i x, l[i]? = some x ∧ good (l.take i) ∧ (x.1 < 0 ∨ x.2 < 0 ∨ x.2 ∈ (l.take i).map (·.2)) := by
    intro k
    induction k with
    | zero => exact fun _ => .inl ⟨by simp, by simp⟩
    | succ k ih =>
      intro hk
      rcases ih (by omega) with h | h
      · obtain ⟨x, hx⟩ := idx_all (show k < l.length by omega)
        by_cases hb : x.1 < 0 ∨ x.2 < 0 ∨ x.2 ∈ (l.take k).map (·.2)
        · exact .inr ⟨k, x, hx, h, hb⟩
        · refine .inl ?_
          rw [List.take_add_one, hx]
          refine ⟨fun y hy => ?_, ?_⟩
          · rcases List.mem_append.1 hy with hy | hy
            · exact h.1 y hy
            · simp at hy; subst hy; omega
          · rw [List.map_append]
            refine List.nodup_append.2 ⟨h.2, by simp, fun u hu v hv => ?_⟩
            simp at hv; subst hv; rintro rfl
            exact hb (.inr (.inr hu))
      · exact .inr h
  intro hn
  rcases key l.length (Nat.le_refl _) with h | h
  · rw [List.take_length] at h; exact absurd h hn
  · exact h
theorem aget_some {l : List Jn} {n : Int} (h : n ∈ l.map (·.2)) : (aget n (mOf l)).isSome = true := by
  induction l with
  | nil => simp at h
  | cons x l ih =>
    by_cases e : n = x.2
    · simp [mOf, aget, e]
    · simp only [List.map_cons, List.mem_cons] at h
      rcases h with h | h
      · exact absurd h e
      · simp only [mOf, List.map_cons, aget, if_neg e]; exact ih h
set_option maxHeartbeats 4000000 in
set_option maxRecDepth 20000 in
theorem of_no (l : List Jn) (g : ¬ good l) (hl : l.length ≤ 100000) : Fun Try.prog 34 [sJ l] (.tup [.pv (.sc (.map none)), vb false]) := by
  obtain ⟨k, z, hz, gk, hbad⟩ := first_bad g
  have hkl := lt_of_get hz
  refine Fun.frozenLe ?_
  (refine LCalls.enter Try.func34 rfl (by simp [Try.ntmps34]) (LK.start ?_); simp only [Try.ntmps34, enterA])
  (repeat' first | refine LOps.done ?_ | (apply LOps.mv; (focus (first | exact Goes.free | exact Goes.on rfl rfl (by with_reducible rfl) true (by decide))); (focus (exact rfl)); (focus (exact rfl))) | (apply LOps.asg; (focus (first | exact Goes.free | exact Goes.on rfl rfl (by with_reducible rfl) true (by decide))); (focus (exact rfl)); (focus (exact rfl))) | (apply LOps.loc; (focus (first | exact Goes.free | exact Goes.on rfl rfl (by with_reducible rfl) true (by decide))); (focus (exact rfl)); (focus (exact rfl)); (focus (simp only [go_sem, ↓reduceIte, Nat.reduceLT]; with_reducible rfl))) | refine LK.seq ?_ | refine LK.block ?_ | refine LK.regc ?_ | fail)
  refine LK.loop (fun i : Nat => l.length - i) (fun i => i ≤ k) (fun i => ⟨42, [(0, sJ l), (4, .mp 0), (10, sJ l), (11, vi l.length), (12, vi i)]⟩) (fun i => [(0, .map (MI (mOf (l.take i))))]) 0 (Nat.zero_le _) (Sub.by rfl rfl (by first | rfl | (simp only [subB, MB_all_under, MI_all_under, MB_all_idp, MI_all_idp, oF_under, oF_idp, oF_all_under, oF_all_idp, MB_under, MI_under, MB_idp, MI_idp, evOk, ovOk, nvOk, keepOf, vis, LV.under, LV.unders, LV.idp, LV.idps, LO.under, LO.idp, under_pv, idp_pv, List.all_cons, List.all_nil, List.any_cons, List.any_nil, Nat.reduceBEq, beq_self_eq_true, Bool.and_true, Bool.true_and, Bool.or_true, Bool.true_or, Bool.or_false, Bool.false_or, decide_true, decide_false, Nat.reduceLT, Nat.reduceLeDiff, Nat.le_refl, Nat.reduceAdd, Bool.and_self, Bool.or_self]; done))) ?_
  rintro i hi J hJ
  have hlt : i < l.length := by omega
  obtain ⟨x, hx⟩ := idx_all hlt
  have h1 : ((i : Int) < (l.length : Int)) := by omega
  have hw := wrapn (n := i) (by omega)
  have htk : l.take (i + 1) = l.take i ++ [x] := by rw [List.take_add_one, hx]; rfl
  have hcj := cJ_eq x
  rcases Nat.lt_or_ge i k with ilt | ige
  · have e : l.take k = l.take (i + 1) ++ (l.take k).drop (i + 1) := by
      have := (List.take_append_drop (i + 1) (l.take k)).symm
      rw [List.take_take, show min (i + 1) k = i + 1 by omega] at this; exact this
    obtain ⟨g1, g2⟩ := gk.1 x (by rw [e, htk]; simp)
    have hnot : x.2 ∉ (l.take i).map (·.2) := by
      have hd := gk.2
      rw [e, htk] at hd
      simp only [List.map_append, List.map_cons, List.map_nil] at hd
      have := (List.nodup_append.1 hd).1
      intro hm
      exact (List.nodup_append.1 this).2.2 _ hm _ (by simp) rfl
    have hag : (aget x.2 (mOf (l.take i))).isSome = false := by rw [aget_mOf hnot]; rfl
    have hmin : ¬ ((if x.2 < x.1 then x.2 else x.1) < 0) := by split <;> omega
    have hput := aput_mOf hnot
    rw [← htk] at hput
    (repeat' first | refine LOps.done ?_ | (apply LOps.mv; (focus (first | exact Goes.free | exact Goes.on rfl rfl (by with_reducible rfl) true (by decide))); (focus (exact rfl)); (focus (exact rfl))) | (apply LOps.asg; (focus (first | exact Goes.free | exact Goes.on rfl rfl (by with_reducible rfl) true (by decide))); (focus (exact rfl)); (focus (exact rfl))) | (apply LOps.ext; (focus (first | exact Goes.free | exact Goes.on rfl rfl (by with_reducible rfl) true (by decide))); (focus (exact rfl)); (focus (exact rfl)); (focus (exact rfl))) | (apply LOps.loc; (focus (first | exact Goes.free | exact Goes.on rfl rfl (by with_reducible rfl) true (by decide))); (focus (exact rfl)); (focus (exact rfl)); (focus (simp only [go_sem, ↓reduceIte, Nat.reduceEqDiff, reduceCtorEq, Nat.reduceLT, Nat.reduceAdd, h1, hx, hcj, hag, hw, hmin]; with_reducible rfl))) | (apply LOps.loc0; (focus (first | exact Goes.free | exact Goes.on rfl rfl (by with_reducible rfl) true (by decide))); (focus (exact rfl)); (focus (simp only [go_sem, ↓reduceIte, Nat.reduceEqDiff, reduceCtorEq, Nat.reduceLT, Nat.reduceAdd, hput]; with_reducible rfl))) | refine LK.seq ?_ | refine LK.skip ?_ | refine LK.block ?_ | refine LK.blk ?_ | refine LK.fin ?_ | (apply LK.condT2; (focus (exact rfl)); (focus (with_reducible rfl)); (focus (first | with_reducible rfl | decide | (with_reducible exact Bool.true_or _) | (with_reducible exact congrArg (fun b => b || _) (Bool.true_or _))))) | (apply LK.condF2; (focus (exact rfl)); (focus (with_reducible rfl)); (focus (first | with_reducible rfl | decide | (with_reducible exact Bool.false_and _) | (with_reducible exact congrArg (fun b => b && _) (Bool.false_and _))))) | refine LK.regc ?_ | fail)
    apply hJ
    exact ⟨i + 1, ilt, by omega, (Sub.by rfl rfl (by first | rfl | (simp only [subB, MI_all_under, LV.under, LO.under, List.all_cons, List.all_nil, decide_true, Nat.reduceLT, Bool.and_self]; done)))⟩
  · obtain rfl : i = k := by omega
    rw [hx] at hz
    obtain rfl := Option.some.inj hz
    by_cases hm : x.2 ∈ (l.take i).map (·.2)
    · have hag := aget_some hm
      (repeat' first | refine LOps.done ?_ | (apply LOps.mv; (focus (first | exact Goes.free | exact Goes.on rfl rfl (by with_reducible rfl) true (by decide))); (focus (exact rfl)); (focus (exact rfl))) | (apply LOps.asg; (focus (first | exact Goes.free | exact Goes.on rfl rfl (by with_reducible rfl) true (by decide))); (focus (exact rfl)); (focus (exact rfl))) | (apply LOps.ext; (focus (first | exact Goes.free | exact Goes.on rfl rfl (by with_reducible rfl) true (by decide))); (focus (exact rfl)); (focus (exact rfl)); (focus (exact rfl))) | (apply LOps.loc; (focus (first | exact Goes.free | exact Goes.on rfl rfl (by with_reducible rfl) true (by decide))); (focus (exact rfl)); (focus (exact rfl)); (focus (simp only [go_sem, ↓reduceIte, Nat.reduceEqDiff, reduceCtorEq, Nat.reduceLT, Nat.reduceAdd, h1, hx, hcj, hag]; with_reducible rfl))) | (apply LOps.loc0; (focus (first | exact Goes.free | exact Goes.on rfl rfl (by with_reducible rfl) true (by decide))); (focus (exact rfl)); (focus (simp only [go_sem, ↓reduceIte, Nat.reduceEqDiff, reduceCtorEq, Nat.reduceLT, Nat.reduceAdd]; with_reducible rfl))) | (apply LOps.pass; (focus (first | exact Goes.on rfl rfl (by with_reducible rfl) false (by decide) | exact Goes.undef rfl rfl (by with_reducible rfl))); (focus (exact rfl))) | refine LK.seq ?_ | refine LK.skip ?_ | refine LK.block ?_ | refine LK.ret' ?_ | (apply LK.condT2; (focus (exact rfl)); (focus (with_reducible rfl)); (focus (first | with_reducible rfl | decide | (with_reducible exact Bool.true_or _) | (with_reducible exact congrArg (fun b => b || _) (Bool.true_or _))))) | refine LK.regc ?_ | (apply retQ; (focus (first | exact lres_one rfl | exact lres_more rfl | (simp only [lres, lresv, Try.results34, go_sem, ↓reduceIte, Nat.reduceEqDiff, reduceCtorEq, Nat.reduceLT, Nat.reduceAdd, Int.reduceBEq, Int.reduceBNe, Int.reduceEq, Int.reduceLE, Int.reduceLT, Int.reduceToNat, Nat.reduceLeDiff, Nat.reduceMul, Nat.reduceSub, h1, hx, hlt, hcj, hag]; exact rfl)))) | fail)
      exact LV.le_refl _
    · have hag : (aget x.2 (mOf (l.take i))).isSome = false := by rw [aget_mOf hm]; rfl
      have hmin : ((if x.2 < x.1 then x.2 else x.1) < 0) := by
        have : x.1 < 0 ∨ x.2 < 0 := by
          rcases hbad with h | h | h
          · exact .inl h
          · exact .inr h
          · exact absurd h hm
        split <;> omega
      (repeat' first | refine LOps.done ?_ | (apply LOps.mv; (focus (first | exact Goes.free | exact Goes.on rfl rfl (by with_reducible rfl) true (by decide))); (focus (exact rfl)); (focus (exact rfl))) | (apply LOps.asg; (focus (first | exact Goes.free | exact Goes.on rfl rfl (by with_reducible rfl) true (by decide))); (focus (exact rfl)); (focus (exact rfl))) | (apply LOps.ext; (focus (first | exact Goes.free | exact Goes.on rfl rfl (by with_reducible rfl) true (by decide))); (focus (exact rfl)); (focus (exact rfl)); (focus (exact rfl))) | (apply LOps.loc; (focus (first | exact Goes.free | exact Goes.on rfl rfl (by with_reducible rfl) true (by decide))); (focus (exact rfl)); (focus (exact rfl)); (focus (simp only [go_sem, ↓reduceIte, Nat.reduceEqDiff, reduceCtorEq, Nat.reduceLT, Nat.reduceAdd, h1, hx, hcj, hag, hmin]; with_reducible rfl))) | (apply LOps.loc0; (focus (first | exact Goes.free | exact Goes.on rfl rfl (by with_reducible rfl) true (by decide))); (focus (exact rfl)); (focus (simp only [go_sem, ↓reduceIte, Nat.reduceEqDiff, reduceCtorEq, Nat.reduceLT, Nat.reduceAdd]; with_reducible rfl))) | refine LK.seq ?_ | refine LK.skip ?_ | refine LK.block ?_ | refine LK.ret' ?_ | (apply LK.condT2; (focus (exact rfl)); (focus (with_reducible rfl)); (focus (first | with_reducible rfl | decide | (with_reducible exact Bool.true_or _) | (with_reducible exact congrArg (fun b => b || _) (Bool.true_or _))))) | refine LK.regc ?_ | (apply retQ; (focus (first | exact lres_one rfl | exact lres_more rfl | (simp only [lres, lresv, Try.results34, go_sem, ↓reduceIte, Nat.reduceEqDiff, reduceCtorEq, Nat.reduceLT, Nat.reduceAdd, Int.reduceBEq, Int.reduceBNe, Int.reduceEq, Int.reduceLE, Int.reduceLT, Int.reduceToNat, Nat.reduceLeDiff, Nat.reduceMul, Nat.reduceSub, h1, hx, hlt, hcj, hag, hmin]; exact rfl)))) | fail)
      exact LV.le_refl _
end Go.Proofs.Ytoppnepjemhckaa
