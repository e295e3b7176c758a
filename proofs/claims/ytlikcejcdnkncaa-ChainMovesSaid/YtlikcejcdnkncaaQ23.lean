/- Chapter 06: the document's Push. -/
import Derived.Test.YtlikcejcdnkncaaQ22
set_option linter.unusedSimpArgs false
set_option linter.unusedVariables false
namespace Go.Proofs.Ytlikcejcdnkncaa
open Go.Lw
attribute [local irreducible] LK LOps LW
theorem cS_shift (L : List (List Nat)) (d : Nat) : (oF cS L).map (fun r => r.map (LV.shift d)) = oF cS L := oF_shift cS L d
theorem rT_shift (v : LV) (Q : List (List Nat)) (T i d : Nat) : (rT v Q T i).map (fun r => r.map (LV.shift d)) = rT (v.shift d) Q T i := by
  unfold rT; split
  · rw [List.map_append, List.map_cons, cS_shift, cS_shift]; rfl
  · rw [cS_shift]
theorem rT_all {v : LV} {Q : List (List Nat)} {T : Nat} (hT : T < Q.length) : rT v Q T Q.length = oF cS (Q.take T) ++ [v] :: oF cS (Q.drop (T + 1)) := by
  unfold rT; rw [if_pos hT, List.take_of_length_le (Nat.le_refl _)]
theorem rT_get {v : LV} {Q : List (List Nat)} {T : Nat} (hT : T < Q.length) : (rT v Q T Q.length)[T]? = some [v] := by
  rw [rT_all hT, List.getElem?_append_right (by rw [oF_len, List.length_take]; omega), oF_len, List.length_take, Nat.min_eq_left (by omega), Nat.sub_self]; rfl
theorem rT_set {v w : LV} {Q : List (List Nat)} {T : Nat} (hT : T < Q.length) : (rT v Q T Q.length).set T [w] = rT w Q T Q.length := by
  rw [rT_all hT, rT_all hT, List.set_append_right _ _ (by rw [oF_len, List.length_take]; omega), oF_len, List.length_take, Nat.min_eq_left (by omega), Nat.sub_self]; rfl
theorem set_split {α : Type} {Q : List α} {T : Nat} (hT : T < Q.length) (q : α) : Q.set T q = Q.take T ++ q :: Q.drop (T + 1) := by
  rw [List.set_eq_take_append_cons_drop, if_pos hT]
theorem oF_split (A B : List (List Nat)) (q : List Nat) : oF cS (A ++ q :: B) = oF cS A ++ [LV.pv (.ro .any 1 (rF (cI .i64) (castL q)))] :: oF cS B := by
  rw [show A ++ q :: B = A ++ ([q] ++ B) from rfl, ← oF_append, ← oF_append]; rfl
theorem rT_cS {Q : List (List Nat)} {T : Nat} (hT : T < Q.length) (q : List Nat) : rT (.pv (.ro .any 1 (rF (cI .i64) (castL q)))) Q T Q.length = oF cS (Q.set T q) := by
  rw [rT_all hT, set_split hT, oF_split]
theorem rT_melt {v : LV} {σ : LSt} {id : Nat} {Q : List (List Nat)} {T : Nat} (hT : T < Q.length) (q : List Nat) (hv : frzAt σ id v = .pv (.ro .any 1 (rF (cI .i64) (castL q)))) : (rT v Q T Q.length).map (fun r => r.map (frzAt σ id)) = oF cS (Q.set T q) := by
  rw [← rT_cS hT, rT_all hT, rT_all hT, List.map_append, List.map_cons, oF_frz, oF_frz]; simp [hv]
/-- The lists with a nil one, as rows. -/
def pN (Q : List (List Nat)) (T : Nat) : List (List PV) := rF cS (Q.take T) ++ [.sc (.slice none 0 0)] :: rF cS (Q.drop (T + 1))
theorem rT_pN {Q : List (List Nat)} {T : Nat} (hT : T < Q.length) : rT nil0 Q T Q.length = oF id (pN Q T) := by
  rw [rT_all hT]
  unfold pN oF
  simp [rF, nil0]
theorem pN_le {Q : List (List Nat)} {T : Nat} (hq : Q[T]? = some []) : LV.le (sF 1 id (pN Q T)) (sS Q) := by
  have hT := lt_of_get hq
  have h := LV.le_oneNil .any 1 1 (rF cS (Q.take T)) (rF cS (Q.drop (T + 1)))
  have e : rF cS Q = rF cS (Q.take T) ++ [.ro .any 1 []] :: rF cS (Q.drop (T + 1)) := by
    conv => lhs; rw [← set_same hq, set_split hT]
    simp [rF, cS, castL]
  have e1 : rF id (pN Q T) = pN Q T := by simp [rF]
  show LV.le (.pv (.ro .any 1 (rF id (pN Q T)))) (.pv (.ro .any 1 (rF cS Q)))
  rw [e, e1]; exact h
theorem pN_len {Q : List (List Nat)} {T : Nat} (hT : T < Q.length) : (pN Q T).length = Q.length := by
  unfold pN; simp [rF]; omega
set_option maxHeartbeats 4000000 in
set_option maxRecDepth 20000 in
theorem rpush_no1 {n h t : List Int} (i x : Int) (g : ¬ okC n h t) : Fun Try.prog 18 [cv n h t, vi i, vi x] (.tup [cv [] [] [], vi 1]) := by
  have hl := rlists_no g
  refine Fun.frozenLe ?_
  (refine LCalls.enter Try.func18 rfl (by simp [Try.ntmps18]) (LK.start ?_); simp only [Try.ntmps18, enterA, Nat.zero_add])
  (repeat' first | refine LOps.done ?_ | (apply LOps.mv; (focus (first | exact Goes.free | exact Goes.on rfl rfl (by with_reducible rfl) true (by decide))); (focus (exact rfl)); (focus (exact rfl))) | (apply LOps.asg; (focus (first | exact Goes.free | exact Goes.on rfl rfl (by with_reducible rfl) true (by decide))); (focus (exact rfl)); (focus (exact rfl))) | (apply LOps.ext; (focus (first | exact Goes.free | exact Goes.on rfl rfl (by with_reducible rfl) true (by decide))); (focus (exact rfl)); (focus (exact rfl)); (focus (exact rfl))) | (apply LOps.loc; (focus (first | exact Goes.free | exact Goes.on rfl rfl (by with_reducible rfl) true (by decide))); (focus (exact rfl)); (focus (exact rfl)); (focus (simp only [go_sem, ↓reduceIte, reduceCtorEq, Nat.reduceLT, Nat.reduceAdd]; with_reducible rfl))) | (apply LOps.loc0; (focus (first | exact Goes.free | exact Goes.on rfl rfl (by with_reducible rfl) true (by decide))); (focus (exact rfl)); (focus (simp only [go_sem, ↓reduceIte, Nat.reduceEqDiff, reduceCtorEq, Nat.reduceLT, Nat.reduceAdd]; with_reducible rfl))) | (apply LOps.pass; (focus (first | exact Goes.on rfl rfl (by with_reducible rfl) false (by decide) | exact Goes.undef rfl rfl (by with_reducible rfl))); (focus (exact rfl))) | refine LK.seq ?_ | refine LK.ret' ?_ | (apply LK.condT2; (focus (exact rfl)); (focus (with_reducible rfl)); (focus (first | with_reducible rfl | decide | (with_reducible exact Bool.true_or _) | (with_reducible exact congrArg (fun b => b || _) (Bool.true_or _))))) | refine LK.regc ?_ | (apply retQ; (focus (first | exact lres_one rfl | exact lres_more rfl | (simp only [lres, lresv, Try.results18, go_sem, ↓reduceIte, Nat.reduceEqDiff, reduceCtorEq, Nat.reduceAdd]; exact rfl)))) | (apply LOps.locFn; (focus (first | exact Goes.free | exact Goes.on rfl rfl (by with_reducible rfl) true (by decide))); (focus (exact rfl)); (focus (exact rfl)); (focus (simp only [go_sem, ↓reduceIte]; exact rfl)); (focus (simp only [go_sem])); (focus (exact hl)); (focus (first | rfl | simp [go_sem])); (focus (first | rfl | simp [go_sem]))) | fail)
  (simp only [go_sem]; repeat' first | exact LV.le_refl _ | exact LV.le_nil _ | exact le_nilF _ _ | exact LV.le_any _ _ _ | refine LV.le_tup ?_ | refine LV.le_agg ?_ | exact LV.les_nil | refine LV.les_cons ?_ ?_)
set_option maxHeartbeats 4000000 in
set_option maxRecDepth 20000 in
theorem rpush_no2 {n h t : List Int} {Q : List (List Nat)} (c : Ch n h t Q) (i x : Int) (g : (decide (i ≥ 0) && decide (i < (Q.length : Int))) = false) : Fun Try.prog 18 [cv n h t, vi i, vi x] (.tup [cv [] [] [], vi 1]) := by
  have hl := rlists_yes c
  have hi := in_fun i Q.length
  rw [g] at hi
  refine Fun.frozenLe ?_
  (refine LCalls.enter Try.func18 rfl (by simp [Try.ntmps18]) (LK.start ?_); simp only [Try.ntmps18, enterA, Nat.zero_add])
  (repeat' first | refine LOps.done ?_ | (apply LOps.mv; (focus (first | exact Goes.free | exact Goes.on rfl rfl (by with_reducible rfl) true (by decide))); (focus (exact rfl)); (focus (exact rfl))) | (apply LOps.asg; (focus (first | exact Goes.free | exact Goes.on rfl rfl (by with_reducible rfl) true (by decide))); (focus (exact rfl)); (focus (exact rfl))) | (apply LOps.ext; (focus (first | exact Goes.free | exact Goes.on rfl rfl (by with_reducible rfl) true (by decide))); (focus (exact rfl)); (focus (exact rfl)); (focus (exact rfl))) | (apply LOps.loc; (focus (first | exact Goes.free | exact Goes.on rfl rfl (by with_reducible rfl) true (by decide))); (focus (exact rfl)); (focus (exact rfl)); (focus (simp only [go_sem, ↓reduceIte, Nat.reduceEqDiff, reduceCtorEq, Nat.reduceLT, Nat.reduceAdd]; with_reducible rfl))) | (apply LOps.loc0; (focus (first | exact Goes.free | exact Goes.on rfl rfl (by with_reducible rfl) true (by decide))); (focus (exact rfl)); (focus (simp only [go_sem, ↓reduceIte, Nat.reduceEqDiff, reduceCtorEq, Nat.reduceLT, Nat.reduceAdd]; with_reducible rfl))) | (apply LOps.pass; (focus (first | exact Goes.on rfl rfl (by with_reducible rfl) false (by decide) | exact Goes.undef rfl rfl (by with_reducible rfl))); (focus (exact rfl))) | refine LK.seq ?_ | refine LK.ret' ?_ | (apply LK.condT2; (focus (exact rfl)); (focus (with_reducible rfl)); (focus (first | with_reducible rfl | decide | (with_reducible exact Bool.true_or _) | (with_reducible exact congrArg (fun b => b || _) (Bool.true_or _))))) | refine LK.regc ?_ | (apply retQ; (focus (first | exact lres_one rfl | exact lres_more rfl | (simp only [lres, lresv, Try.results18, go_sem, ↓reduceIte, Nat.reduceEqDiff, reduceCtorEq, Nat.reduceAdd]; exact rfl)))) | (apply LOps.locFn; (focus (first | exact Goes.free | exact Goes.on rfl rfl (by with_reducible rfl) true (by decide))); (focus (exact rfl)); (focus (exact rfl)); (focus (simp only [go_sem, ↓reduceIte, Nat.reduceEqDiff]; exact rfl)); (focus (simp only [go_sem])); (focus (first | exact hl | exact hi)); (focus (first | rfl | simp [go_sem])); (focus (first | rfl | simp [go_sem]))) | fail)
  (simp only [go_sem]; repeat' first | exact LV.le_refl _ | exact LV.le_nil _ | exact le_nilF _ _ | exact LV.le_any _ _ _ | refine LV.le_tup ?_ | refine LV.le_agg ?_ | exact LV.les_nil | refine LV.les_cons ?_ ?_)
set_option maxHeartbeats 4000000 in
set_option maxRecDepth 20000 in
theorem rpush_no3 {n h t : List Int} {Q : List (List Nat)} (c : Ch n h t Q) (i x : Int) (g : (decide (i ≥ 0) && decide (i < (Q.length : Int))) = true) (g2 : (decide (x ≥ 0) && decide (x < (n.length : Int))) = false) : Fun Try.prog 18 [cv n h t, vi i, vi x] (.tup [cv [] [] [], vi 1]) := by
  have hl := rlists_yes c
  have hi := in_fun i Q.length
  rw [g] at hi
  have hx := in_fun x n.length
  rw [g2] at hx
  refine Fun.frozenLe ?_
  (refine LCalls.enter Try.func18 rfl (by simp [Try.ntmps18]) (LK.start ?_); simp only [Try.ntmps18, enterA, Nat.zero_add])
  (repeat' first | refine LOps.done ?_ | (apply LOps.mv; (focus (first | exact Goes.free | exact Goes.on rfl rfl (by with_reducible rfl) true (by decide))); (focus (exact rfl)); (focus (exact rfl))) | (apply LOps.asg; (focus (first | exact Goes.free | exact Goes.on rfl rfl (by with_reducible rfl) true (by decide))); (focus (exact rfl)); (focus (exact rfl))) | (apply LOps.ext; (focus (first | exact Goes.free | exact Goes.on rfl rfl (by with_reducible rfl) true (by decide))); (focus (exact rfl)); (focus (exact rfl)); (focus (exact rfl))) | (apply LOps.loc; (focus (first | exact Goes.free | exact Goes.on rfl rfl (by with_reducible rfl) true (by decide))); (focus (exact rfl)); (focus (exact rfl)); (focus (simp only [go_sem, ↓reduceIte, Nat.reduceEqDiff, reduceCtorEq, Nat.reduceLT, Nat.reduceAdd]; with_reducible rfl))) | (apply LOps.loc0; (focus (first | exact Goes.free | exact Goes.on rfl rfl (by with_reducible rfl) true (by decide))); (focus (exact rfl)); (focus (simp only [go_sem, ↓reduceIte, Nat.reduceEqDiff, reduceCtorEq, Nat.reduceLT, Nat.reduceAdd]; with_reducible rfl))) | refine LK.seq ?_ | refine LK.ret' ?_ | (apply LK.condT2; (focus (exact rfl)); (focus (with_reducible rfl)); (focus (first | with_reducible rfl | decide | (with_reducible exact Bool.true_or _) | (with_reducible exact congrArg (fun b => b || _) (Bool.true_or _))))) | refine LK.regc ?_ | (apply retQ; (focus (first | exact lres_one rfl | exact lres_more rfl | (simp only [lres, lresv, Try.results18, go_sem, ↓reduceIte, Nat.reduceEqDiff, reduceCtorEq, Nat.reduceAdd]; exact rfl)))) | (apply LOps.locFn; (focus (first | exact Goes.free | exact Goes.on rfl rfl (by with_reducible rfl) true (by decide))); (focus (exact rfl)); (focus (exact rfl)); (focus (simp only [go_sem, ↓reduceIte, Nat.reduceEqDiff]; exact rfl)); (focus (simp only [go_sem])); (focus (first | exact hl | exact hi | exact hx)); (focus (first | rfl | simp [go_sem])); (focus (first | rfl | simp [go_sem]))) | fail)
  (simp only [go_sem]; repeat' first | exact LV.le_refl _ | exact LV.le_nil _ | exact le_nilF _ _ | exact LV.le_any _ _ _ | refine LV.le_tup ?_ | refine LV.le_agg ?_ | exact LV.les_nil | refine LV.les_cons ?_ ?_)
set_option maxHeartbeats 4000000 in
set_option maxRecDepth 20000 in
theorem rpush_there {n h t : List Int} {Q : List (List Nat)} (c : Ch n h t Q) (i : Int) (x : Nat) (g : (decide (i ≥ 0) && decide (i < (Q.length : Int))) = true) (hx : x ∈ Q.flatten) (hxl : x < n.length) : Fun Try.prog 18 [cv n h t, vi i, vi x] (.tup [cv [] [] [], vi 6]) := by
  have hl := rlists_yes c
  have hi := in_fun i Q.length
  rw [g] at hi
  have hx2 := in_fun x n.length
  rw [show (decide ((x : Int) ≥ 0) && decide ((x : Int) < (n.length : Int))) = true by simp only [Bool.and_eq_true, decide_eq_true_eq]; omega] at hx2
  obtain ⟨j, q, hq, hm⟩ := mem_fl.1 hx
  obtain ⟨p, s, rfl⟩ := List.append_of_mem hm
  have hw := rwhere_at c (x := x) (i := j) (p := p) ⟨s, hq⟩
  have h1 : ((j : Int) ≥ 0) := by omega
  refine Fun.frozenLe ?_
  (refine LCalls.enter Try.func18 rfl (by simp [Try.ntmps18]) (LK.start ?_); simp only [Try.ntmps18, enterA, Nat.zero_add])
  (repeat' first | refine LOps.done ?_ | (apply LOps.mv; (focus (first | exact Goes.free | exact Goes.on rfl rfl (by with_reducible rfl) true (by decide))); (focus (exact rfl)); (focus (exact rfl))) | (apply LOps.asg; (focus (first | exact Goes.free | exact Goes.on rfl rfl (by with_reducible rfl) true (by decide))); (focus (exact rfl)); (focus (exact rfl))) | (apply LOps.ext; (focus (first | exact Goes.free | exact Goes.on rfl rfl (by with_reducible rfl) true (by decide))); (focus (exact rfl)); (focus (exact rfl)); (focus (exact rfl))) | (apply LOps.loc; (focus (first | exact Goes.free | exact Goes.on rfl rfl (by with_reducible rfl) true (by decide))); (focus (exact rfl)); (focus (exact rfl)); (focus (simp only [go_sem, ↓reduceIte, Nat.reduceEqDiff, reduceCtorEq, Nat.reduceLT, Nat.reduceAdd, h1]; with_reducible rfl))) | (apply LOps.loc0; (focus (first | exact Goes.free | exact Goes.on rfl rfl (by with_reducible rfl) true (by decide))); (focus (exact rfl)); (focus (simp only [go_sem, ↓reduceIte, Nat.reduceEqDiff, reduceCtorEq, Nat.reduceLT, Nat.reduceAdd]; with_reducible rfl))) | refine LK.seq ?_ | refine LK.skip ?_ | refine LK.ret' ?_ | (apply LK.condT2; (focus (exact rfl)); (focus (with_reducible rfl)); (focus (first | with_reducible rfl | decide | (with_reducible exact Bool.true_or _) | (with_reducible exact congrArg (fun b => b || _) (Bool.true_or _))))) | (apply LK.condF2; (focus (exact rfl)); (focus (with_reducible rfl)); (focus (first | with_reducible rfl | decide | (with_reducible exact Bool.false_and _) | (with_reducible exact congrArg (fun b => b && _) (Bool.false_and _))))) | refine LK.regc ?_ | (apply retQ; (focus (first | exact lres_one rfl | exact lres_more rfl | (simp only [lres, lresv, Try.results18, go_sem, ↓reduceIte, Nat.reduceEqDiff, reduceCtorEq, Nat.reduceAdd]; exact rfl)))) | (apply LOps.locFn; (focus (first | exact Goes.free | exact Goes.on rfl rfl (by with_reducible rfl) true (by decide))); (focus (exact rfl)); (focus (exact rfl)); (focus (simp only [go_sem, ↓reduceIte, Nat.reduceEqDiff]; exact rfl)); (focus (simp only [go_sem])); (focus (first | exact hl | exact hi | exact hx2 | exact hw)); (focus (first | rfl | simp [go_sem])); (focus (first | rfl | simp [go_sem]))) | fail)
  (simp only [go_sem]; repeat' first | exact LV.le_refl _ | exact LV.le_nil _ | exact le_nilF _ _ | exact LV.le_any _ _ _ | refine LV.le_tup ?_ | refine LV.le_agg ?_ | exact LV.les_nil | refine LV.les_cons ?_ ?_)
end Go.Proofs.Ytlikcejcdnkncaa
