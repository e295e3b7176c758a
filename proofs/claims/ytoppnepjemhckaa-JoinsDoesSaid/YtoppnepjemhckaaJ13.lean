/- Chapter 11: what each answers, told once. -/
import Derived.Test.YtoppnepjemhckaaJ12
set_option linter.unusedSimpArgs false
set_option linter.unusedVariables false
namespace Go.Proofs.Ytoppnepjemhckaa
open Go.Lw
attribute [local irreducible] LK LOps LW
theorem nil_up {f : FuncId} {args : List LV} {e : Int} (h : Fun Try.prog f args (.tup [nil0, vi e])) : Fun Try.prog f args (.tup [sJ [], vi e]) := by
  refine Fun.frozenLe (h.mono ?_)
  rintro u σ rfl
  (simp only [go_sem]; repeat' first | exact LV.le_refl _ | exact LV.le_nil _ | exact le_nilF _ _ | exact LV.le_any _ _ _ | refine LV.le_tup ?_ | refine LV.le_agg ?_ | exact LV.les_nil | refine LV.les_cons ?_ ?_)
theorem nil_upI {f : FuncId} {args : List LV} {e : Int} (h : Fun Try.prog f args (.tup [nil0, vi e])) : Fun Try.prog f args (.tup [sI [], vi e]) := by
  refine Fun.frozenLe (h.mono ?_)
  rintro u σ rfl
  (simp only [go_sem]; repeat' first | exact LV.le_refl _ | exact LV.le_nil _ | exact le_nilF _ _ | exact LV.le_any _ _ _ | refine LV.le_tup ?_ | refine LV.le_agg ?_ | exact LV.les_nil | refine LV.les_cons ?_ ?_)
theorem nil_up2 {f : FuncId} {args : List LV} {e : Int} (h : Fun Try.prog f args (.tup [nil0, nil0, vi e])) : Fun Try.prog f args (.tup [sI [], sJ [], vi e]) := by
  refine Fun.frozenLe (h.mono ?_)
  rintro u σ rfl
  (simp only [go_sem]; repeat' first | exact LV.le_refl _ | exact LV.le_nil _ | exact le_nilF _ _ | exact LV.le_any _ _ _ | refine LV.le_tup ?_ | refine LV.le_agg ?_ | exact LV.les_nil | refine LV.les_cons ?_ ?_)
theorem own_fun {f : FuncId} {args : List LV} {n k : Nat} {e : Int} {l : List Jn} (hn : l.length = n) (h : Own Try.prog f args (.tup [.own 0 n 0 n, vi e]) k [(0, .arr 2 (oF cJ l))]) : Fun Try.prog f args (.tup [sJ l, vi e]) := by
  refine Fun.frozenLe (LCalls.mono h ?_)
  rintro u ⟨nx, m⟩ ⟨rfl, _, h⟩
  have h0 : Lw.look 0 m = some (LO.arr 2 (oF cJ l)) := h 0 _ rfl
  have ht : l.take n = l := List.take_of_length_le (by omega)
  (simp only [go_sem, ↓reduceIte, h0, ht, hn]; repeat' first | exact LV.le_refl _ | exact LV.le_nil _ | exact le_nilF _ _ | exact LV.le_any _ _ _ | refine LV.le_tup ?_ | refine LV.le_agg ?_ | exact LV.les_nil | refine LV.les_cons ?_ ?_)
def way (l : List Jn) (a : Int) : List Int := wayL (mOf l) (mOf l).length a
open Classical in
/-- What Wait answers. -/
noncomputable def wtE (l : List Jn) (on who : Int) : Int :=
  if okJ l ∧ ¬ (on < 0 ∨ who < 0) then (if (aget who (mOf l)).isSome = true then 6 else if on = who ∨ who ∈ way l on then 9 else if l.length = 256 then 7 else 0) else 1
noncomputable def wtL (l : List Jn) (on who : Int) : List Jn := if wtE l on who = 0 then l ++ [(on, who)] else []
theorem wtE_ok {l : List Jn} {on who : Int} (h : wtE l on who = 0) : okJ l ∧ ¬ (on < 0 ∨ who < 0) ∧ (aget who (mOf l)).isSome = false ∧ ¬ (on = who ∨ who ∈ way l on) ∧ ¬ l.length = 256 := by
  unfold wtE at h
  split at h
  · rename_i g
    split at h
    · cases h
    · rename_i g2
      split at h
      · cases h
      · split at h
        · cases h
        · exact ⟨g.1, g.2, by simpa using g2, by assumption, by assumption⟩
  · cases h
theorem wait_fun (l : List Jn) (on who : Int) (hb : l.length ≤ 100000) : Fun Try.prog 11 [sJ l, vi on, vi who] (.tup [sJ (wtL l on who), vi (wtE l on who)]) := by
  by_cases g : okJ l ∧ ¬ (on < 0 ∨ who < 0)
  · by_cases h1 : (aget who (mOf l)).isSome = true
    · have e : wtE l on who = 6 := by rw [wtE, if_pos g, if_pos h1]
      rw [wtL, e]; exact nil_up (wait_there l on who g.1 g.2 h1)
    · have h1' : (aget who (mOf l)).isSome = false := by simpa using h1
      by_cases h2 : on = who ∨ who ∈ way l on
      · have e : wtE l on who = 9 := by rw [wtE, if_pos g, if_neg h1, if_pos h2]
        rw [wtL, e]; exact nil_up (wait_ring l on who g.1 g.2 h1' h2)
      · by_cases h3 : l.length = 256
        · have e : wtE l on who = 7 := by rw [wtE, if_pos g, if_neg h1, if_neg h2, if_pos h3]
          rw [wtL, e]; exact nil_up (wait_full l on who g.1 g.2 h1' h2 h3)
        · have e : wtE l on who = 0 := by rw [wtE, if_pos g, if_neg h1, if_neg h2, if_neg h3]
          rw [wtL, e, if_pos rfl]
          exact own_fun (by simp) (wait_own l on who l.length rfl g.1 g.2 h1' h2 h3)
  · have e : wtE l on who = 1 := by rw [wtE, if_neg g]
    rw [wtL, e]
    by_cases g1 : okJ l
    · refine nil_up (wait_no2 l on who g1 ?_)
      by_cases g2 : on < 0 ∨ who < 0
      · exact g2
      · exact absurd ⟨g1, g2⟩ g
    · exact nil_up (wait_no1 l on who g1 hb)
open Classical in
noncomputable def frL (l : List Jn) (a : Int) : List Int := if okJ l then way l a else []
theorem for_fun (l : List Jn) (a : Int) (hb : l.length ≤ 100000) : Fun Try.prog 10 [sJ l, vi a] (.tup [sI (frL l a), vi (chkJ l)]) := by
  by_cases g : okJ l
  · rw [frL, chkJ, if_pos g, if_pos g]; exact for_yes l a g
  · rw [frL, chkJ, if_neg g, if_neg g]; exact nil_upI (for_no l a g hb)
open Classical in
noncomputable def drE (l : List Jn) (who : Int) : Int := if okJ l then (if (aget who (mOf l)).isSome = true then 0 else 5) else 1
noncomputable def drL (l : List Jn) (who : Int) : List Jn := if drE l who = 0 then l.filter (fun x => !(isWho who x)) else []
theorem drop_fun (l : List Jn) (who : Int) (hb : l.length ≤ 100000) : Fun Try.prog 14 [sJ l, vi who] (.tup [sJ (drL l who), vi (drE l who)]) := by
  by_cases g : okJ l
  · by_cases h : (aget who (mOf l)).isSome = true
    · have e : drE l who = 0 := by rw [drE, if_pos g, if_pos h]
      rw [drL, e, if_pos rfl]; exact drop_yes l who g h
    · have e : drE l who = 5 := by rw [drE, if_pos g, if_neg h]
      rw [drL, e]; exact nil_up (drop_none l who g (by simpa using h))
  · have e : drE l who = 1 := by rw [drE, if_neg g]
    rw [drL, e]; exact nil_up (drop_no l who g hb)
open Classical in
noncomputable def dnW (l : List Jn) (on : Int) : List Int := if okJ l then (l.filter (isOn on)).map (·.2) else []
open Classical in
noncomputable def dnL (l : List Jn) (on : Int) : List Jn := if okJ l then l.filter (fun x => !(isOn on x)) else []
theorem done_fun (l : List Jn) (on : Int) (hb : l.length ≤ 100000) : Fun Try.prog 12 [sJ l, vi on] (.tup [sI (dnW l on), sJ (dnL l on), vi (chkJ l)]) := by
  by_cases g : okJ l
  · rw [dnW, dnL, chkJ, if_pos g, if_pos g, if_pos g]; exact done_yes l on g
  · rw [dnW, dnL, chkJ, if_neg g, if_neg g, if_neg g]; exact nil_up2 (done_no l on g hb)
theorem chkJ_ok {l : List Jn} (g : okJ l) : chkJ l = 0 := if_pos g
theorem chkJ_no {l : List Jn} (g : ¬ okJ l) : chkJ l = 1 := if_neg g
/-! ### The example -/
theorem ok1 : okJ [(5, 6)] := by unfold okJ good free; decide
theorem ok2 : okJ [(5, 6), (6, 7)] := by unfold okJ good free; decide
set_option maxHeartbeats 4000000 in
set_option maxRecDepth 10000 in
theorem live_fun : Fun Try.prog 8 [] (vb true) := by
  have w1 := wait_fun [] 5 6 (by simp)
  have e1 : wtE [] 5 6 = 0 := by rw [wtE, if_pos ⟨okJ_nil, by omega⟩]; rfl
  have w2 := wait_fun [(5, 6)] 6 7 (by simp)
  have e2 : wtE [(5, 6)] 6 7 = 0 := by
    rw [wtE, if_pos ⟨ok1, by omega⟩, if_neg (by decide), if_neg (by decide), if_neg (by decide)]
  have w3 := wait_fun [(5, 6), (6, 7)] 7 5 (by simp)
  have e3 : wtE [(5, 6), (6, 7)] 7 5 = 9 := by
    rw [wtE, if_pos ⟨ok2, by omega⟩, if_neg (by decide), if_pos (by decide)]
  rw [wtL, e1] at w1
  rw [wtL, e2] at w2
  rw [wtL, e3] at w3
  have n2 : ((2 : Nat) : Int) = 2 := rfl
  simp only [if_true, List.nil_append, List.cons_append] at w1 w2 w3
  (refine LCalls.enter Try.func8 rfl (by simp [Try.ntmps8]) (LK.start ?_); simp only [Try.ntmps8, enterA])
  (repeat' first | refine LOps.done ?_ | (apply LOps.mv; (focus (first | exact Goes.free | exact Goes.on rfl rfl (by with_reducible rfl) true (by decide))); (focus (exact rfl)); (focus (exact rfl))) | (apply LOps.asg; (focus (first | exact Goes.free | exact Goes.on rfl rfl (by with_reducible rfl) true (by decide))); (focus (exact rfl)); (focus (exact rfl))) | (apply LOps.ext; (focus (first | exact Goes.free | exact Goes.on rfl rfl (by with_reducible rfl) true (by decide))); (focus (exact rfl)); (focus (exact rfl)); (focus (exact rfl))) | (apply LOps.loc; (focus (first | exact Goes.free | exact Goes.on rfl rfl (by with_reducible rfl) true (by decide))); (focus (exact rfl)); (focus (exact rfl)); (focus (simp only [go_sem, ↓reduceIte, Nat.reduceEqDiff, reduceCtorEq, Nat.reduceAdd, n2]; with_reducible rfl))) | refine LK.seq ?_ | refine LK.ret' ?_ | refine LK.regc ?_ | (apply retQ; (focus (first | exact lres_one rfl | exact lres_more rfl | (simp only [lres, lresv, Try.results8, go_sem, ↓reduceIte, Nat.reduceEqDiff, reduceCtorEq, Nat.reduceLT, Nat.reduceAdd, Int.reduceBEq, Int.reduceBNe, Int.reduceEq, Int.reduceLE, Int.reduceLT, Int.reduceToNat, Nat.reduceLeDiff, Nat.reduceMul, Nat.reduceSub, n2]; exact rfl)))) | (apply LOps.locFn; (focus (first | exact Goes.free | exact Goes.on rfl rfl (by with_reducible rfl) true (by decide))); (focus (exact rfl)); (focus (exact rfl)); (focus (simp only [go_sem, ↓reduceIte]; exact rfl)); (focus (simp only [go_sem])); (focus (first | exact w1 | exact w2 | exact w3 | (refine Fun.argsLe ?_ (w1); (repeat' first | exact LV.le_refl _ | exact LV.le_nil _ | exact le_nilF _ _ | exact LV.le_any _ _ _ | refine LV.le_tup ?_ | refine LV.le_agg ?_ | exact LV.les_nil | refine LV.les_cons ?_ ?_); done))); (focus (first | rfl | simp [go_sem])); (focus (first | rfl | simp [go_sem]))) | fail)
  all_goals rfl
end Go.Proofs.Ytoppnepjemhckaa
