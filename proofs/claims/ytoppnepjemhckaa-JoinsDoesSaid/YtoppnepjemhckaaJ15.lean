/- Chapter 11: the law JoinsBack. -/
import Derived.Test.YtoppnepjemhckaaJ14
set_option linter.unusedSimpArgs false
set_option linter.unusedVariables false
namespace Go.Proofs.Ytoppnepjemhckaa
open Go.Lw
attribute [local irreducible] LK LOps LW
set_option maxHeartbeats 4000000 in
set_option maxRecDepth 10000 in
theorem back_len (l : List Jn) (a b : Int) (h : 260 < l.length) : Fun Try.prog 5 [sJ l, vi a, vi b] (vb true) := by
  have hb : ((l.length : Int) > 260) := by omega
  (refine LCalls.enter Try.func5 rfl (by simp [Try.ntmps5]) (LK.start ?_); simp only [Try.ntmps5, enterA, Nat.zero_add])
  (repeat' first | refine LOps.done ?_ | (apply LOps.mv; (focus (first | exact Goes.free | exact Goes.on rfl rfl (by with_reducible rfl) true (by decide))); (focus (exact rfl)); (focus (exact rfl))) | (apply LOps.asg; (focus (first | exact Goes.free | exact Goes.on rfl rfl (by with_reducible rfl) true (by decide))); (focus (exact rfl)); (focus (exact rfl))) | (apply LOps.loc; (focus (first | exact Goes.free | exact Goes.on rfl rfl (by with_reducible rfl) true (by decide))); (focus (exact rfl)); (focus (exact rfl)); (focus (simp only [go_sem, ↓reduceIte, reduceCtorEq, hb]; with_reducible rfl))) | refine LK.seq ?_ | refine LK.skip ?_ | refine LK.ret' ?_ | (apply LK.condT2; (focus (exact rfl)); (focus (with_reducible rfl)); (focus (first | with_reducible rfl | decide | (with_reducible exact Bool.true_or _) | (with_reducible exact congrArg (fun b => b || _) (Bool.true_or _))))) | (apply LK.condF2; (focus (exact rfl)); (focus (with_reducible rfl)); (focus (first | with_reducible rfl | decide | (with_reducible exact Bool.false_and _) | (with_reducible exact congrArg (fun b => b && _) (Bool.false_and _))))) | refine LK.regc ?_ | (apply retQ; (focus (first | exact lres_one rfl | exact lres_more rfl | (simp only [lres, lresv, Try.results5, go_sem, ↓reduceIte, Nat.reduceEqDiff, reduceCtorEq, Nat.reduceLT, Nat.reduceAdd, Int.reduceBEq, Int.reduceBNe, Int.reduceEq, Int.reduceLE, Int.reduceLT, Int.reduceToNat, Nat.reduceLeDiff, Nat.reduceMul, Nat.reduceSub, hb]; exact rfl)))) | (apply LOps.locFn; (focus (first | exact Goes.free | exact Goes.on rfl rfl (by with_reducible rfl) true (by decide))); (focus (exact rfl)); (focus (exact rfl)); (focus (simp only [go_sem]; exact rfl)); (focus (simp only [go_sem])); (focus (first | exact live_fun)); (focus (first | rfl | simp [go_sem])); (focus (first | rfl | simp [go_sem]))) | fail)
  all_goals rfl
set_option maxHeartbeats 4000000 in
set_option maxRecDepth 10000 in
theorem back_no (l : List Jn) (a b : Int) (h : l.length ≤ 260) (h0 : ¬ wtE l a b = 0) : Fun Try.prog 5 [sJ l, vi a, vi b] (vb true) := by
  have hb : ¬ ((l.length : Int) > 260) := by omega
  have hw := wait_fun l a b (by omega)
  rw [wtL, if_neg h0] at hw
  have he : (wtE l a b != 0) = true := by simpa using h0
  have n0 : ((0 : Nat) : Int) = 0 := rfl
  generalize wtE l a b = e at *
  (refine LCalls.enter Try.func5 rfl (by simp [Try.ntmps5]) (LK.start ?_); simp only [Try.ntmps5, enterA, Nat.zero_add])
  (repeat' first | refine LOps.done ?_ | (apply LOps.mv; (focus (first | exact Goes.free | exact Goes.on rfl rfl (by with_reducible rfl) true (by decide))); (focus (exact rfl)); (focus (exact rfl))) | (apply LOps.asg; (focus (first | exact Goes.free | exact Goes.on rfl rfl (by with_reducible rfl) true (by decide))); (focus (exact rfl)); (focus (exact rfl))) | (apply LOps.ext; (focus (first | exact Goes.free | exact Goes.on rfl rfl (by with_reducible rfl) true (by decide))); (focus (exact rfl)); (focus (exact rfl)); (focus (exact rfl))) | (apply LOps.loc; (focus (first | exact Goes.free | exact Goes.on rfl rfl (by with_reducible rfl) true (by decide))); (focus (exact rfl)); (focus (exact rfl)); (focus (simp only [go_sem, ↓reduceIte, Nat.reduceEqDiff, reduceCtorEq, hb, he, n0]; with_reducible rfl))) | refine LK.seq ?_ | refine LK.skip ?_ | refine LK.ret' ?_ | (apply LK.condT2; (focus (exact rfl)); (focus (with_reducible rfl)); (focus (first | with_reducible rfl | decide | (with_reducible exact Bool.true_or _) | (with_reducible exact congrArg (fun b => b || _) (Bool.true_or _))))) | (apply LK.condF2; (focus (exact rfl)); (focus (with_reducible rfl)); (focus (first | with_reducible rfl | decide | (with_reducible exact Bool.false_and _) | (with_reducible exact congrArg (fun b => b && _) (Bool.false_and _))))) | refine LK.regc ?_ | (apply retQ; (focus (first | exact lres_one rfl | exact lres_more rfl | (simp only [lres, lresv, Try.results5, go_sem, ↓reduceIte, Nat.reduceEqDiff, reduceCtorEq, Nat.reduceLT, Nat.reduceAdd, Int.reduceBEq, Int.reduceBNe, Int.reduceEq, Int.reduceLE, Int.reduceLT, Int.reduceToNat, Nat.reduceLeDiff, Nat.reduceMul, Nat.reduceSub, hb, he, n0]; exact rfl)))) | (apply LOps.locFn; (focus (first | exact Goes.free | exact Goes.on rfl rfl (by with_reducible rfl) true (by decide))); (focus (exact rfl)); (focus (exact rfl)); (focus (simp only [go_sem, ↓reduceIte, Nat.reduceEqDiff]; exact rfl)); (focus (simp only [go_sem])); (focus (first | exact live_fun | exact hw)); (focus (first | rfl | simp [go_sem])); (focus (first | rfl | simp [go_sem]))) | fail)
  all_goals rfl
theorem filter_push {l : List Jn} {on who : Int} (h : who ∉ l.map (·.2)) : (l ++ [(on, who)]).filter (fun x => !(isWho who x)) = l := by
  rw [List.filter_append]
  have h1 : l.filter (fun x => !(isWho who x)) = l := List.filter_eq_self.2 fun x hx => by
    have : x.2 ≠ who := fun e => h (List.mem_map.2 ⟨x, hx, e⟩)
    simp [isWho, this]
  rw [h1]
  simp [isWho]
set_option maxHeartbeats 4000000 in
set_option maxRecDepth 10000 in
theorem back_ok (l : List Jn) (a b : Int) (h : l.length ≤ 260) (h0 : wtE l a b = 0) : Fun Try.prog 5 [sJ l, vi a, vi b] (vb true) := by
  have hb : ¬ ((l.length : Int) > 260) := by omega
  have hw := wait_fun l a b (by omega)
  rw [wtL, if_pos h0, h0] at hw
  obtain ⟨g, g1, g2, g3, g4⟩ := wtE_ok h0
  have g5 := okJ_push g g1 g2 g3 g4
  have hnot := aget_no g2
  have hl2 : (l ++ [(a, b)]).length ≤ 261 := by simp; omega
  have hs : aget b (mOf (l ++ [(a, b)])) = some a := by rw [aget_push hnot]; simp
  have hss : (aget b (mOf (l ++ [(a, b)]))).isSome = true := by rw [hs]; rfl
  have hf := for_fun (l ++ [(a, b)]) b (by omega)
  obtain ⟨v, t, k1, k2⟩ := way_some hss
  obtain rfl : v = a := by rw [hs] at k1; exact (Option.some.inj k1).symm
  rw [frL, if_pos g5, chkJ_ok g5, k2] at hf
  have hd := drop_fun (l ++ [(v, b)]) b (by omega)
  have hde : drE (l ++ [(v, b)]) b = 0 := by rw [drE, if_pos g5, if_pos hss]
  rw [drL, hde, if_pos rfl, filter_push hnot] at hd
  have hn := for_fun l b (by omega)
  rw [frL, if_pos g, chkJ_ok g, way_nil g2] at hn
  have hsm := same_fun l l (by omega)
  rw [decide_eq_true rfl] at hsm
  have n0 : ((0 : Nat) : Int) = 0 := rfl
  have hp : (((v :: t).length : Int) > 0) := by simp only [List.length_cons]; omega
  have hi : (0 : Int) < (((v :: t).length : Nat) : Int) := hp
  have hx : (v :: t)[0]? = some v := rfl
  generalize v :: t = W at *
  generalize l ++ [(v, b)] = L at *
  have hvv : (v == v) = true := by simp
  (refine LCalls.enter Try.func5 rfl (by simp [Try.ntmps5]) (LK.start ?_); simp only [Try.ntmps5, enterA, Nat.zero_add])
  (repeat' first | refine LOps.done ?_ | (apply LOps.mv; (focus (first | exact Goes.free | exact Goes.on rfl rfl (by with_reducible rfl) true (by decide))); (focus (exact rfl)); (focus (exact rfl))) | (apply LOps.asg; (focus (first | exact Goes.free | exact Goes.on rfl rfl (by with_reducible rfl) true (by decide))); (focus (exact rfl)); (focus (exact rfl))) | (apply LOps.ext; (focus (first | exact Goes.free | exact Goes.on rfl rfl (by with_reducible rfl) true (by decide))); (focus (exact rfl)); (focus (exact rfl)); (focus (exact rfl))) | (apply LOps.loc; (focus (first | exact Goes.free | exact Goes.on rfl rfl (by with_reducible rfl) true (by decide))); (focus (exact rfl)); (focus (exact rfl)); (focus (simp only [go_sem, ↓reduceIte, Nat.reduceEqDiff, reduceCtorEq, Nat.reduceLT, Int.reduceBNe, Int.reduceLE, hb, n0, hp, hx, hvv]; with_reducible rfl))) | refine LK.seq ?_ | refine LK.skip ?_ | refine LK.ret' ?_ | (apply LK.condF2; (focus (exact rfl)); (focus (with_reducible rfl)); (focus (first | with_reducible rfl | decide | (with_reducible exact Bool.false_and _) | (with_reducible exact congrArg (fun b => b && _) (Bool.false_and _))))) | refine LK.regc ?_ | (apply retQ; (focus (first | exact lres_one rfl | exact lres_more rfl | (simp only [lres, lresv, Try.results5, go_sem, ↓reduceIte, Nat.reduceEqDiff, reduceCtorEq, Nat.reduceLT, Nat.reduceAdd, Int.reduceBEq, Int.reduceBNe, Int.reduceEq, Int.reduceLE, Int.reduceLT, Int.reduceToNat, Nat.reduceLeDiff, Nat.reduceMul, Nat.reduceSub, hb, n0, hp, hi, hx, hvv]; exact rfl)))) | (apply LOps.locFn; (focus (first | exact Goes.free | exact Goes.on rfl rfl (by with_reducible rfl) true (by decide))); (focus (exact rfl)); (focus (exact rfl)); (focus (simp only [go_sem, ↓reduceIte, Nat.reduceEqDiff]; exact rfl)); (focus (simp only [go_sem])); (focus (first | exact live_fun | exact hw | exact hf | exact hd | exact hn | exact hsm)); (focus (first | rfl | simp [go_sem])); (focus (first | rfl | simp [go_sem]))) | fail)
  all_goals rfl
theorem back_fun (l : List Jn) (a b : Int) : Fun Try.prog 5 [sJ l, vi a, vi b] (vb true) := by
  rcases Nat.lt_or_ge 260 l.length with h | h
  · exact back_len l a b h
  · by_cases h0 : wtE l a b = 0
    · exact back_ok l a b h h0
    · exact back_no l a b h h0
end Go.Proofs.Ytoppnepjemhckaa
