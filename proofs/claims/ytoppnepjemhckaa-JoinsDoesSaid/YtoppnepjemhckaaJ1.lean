/- Chapter 11: joins as a map. -/
import Derived.Test.YtoppnepjemhckaaTy
set_option linter.unusedSimpArgs false
set_option linter.unusedVariables false
namespace Go.Proofs.Ytoppnepjemhckaa
open Go.Lw
attribute [local irreducible] LK LOps LW
abbrev vi (a : Int) : LV := .pv (.sc (.int .i64 a))
abbrev vb (a : Bool) : LV := .pv (.sc (.bool a))
abbrev nil0 : LV := .pv (.sc (.slice none 0 0))
/-- A join: for whom, and who. -/
abbrev Jn := Int × Int
def cJ (x : Jn) : List PV := [.sc (.int .i64 x.1), .sc (.int .i64 x.2)]
theorem cJ_eq (x : Jn) : cJ x = [.sc (.int .i64 x.1), .sc (.int .i64 x.2)] := rfl
abbrev sJ (l : List Jn) : LV := sF 2 cJ l
/-- Who waits for whom. -/
def mOf (l : List Jn) : List (Int × Int) := l.map fun x => (x.2, x.1)
def rmI (m : List (Int × Int)) : List (Value × PV) := m.map fun p => (.int .i64 p.1, .sc (.int .i64 p.2))
theorem rmL_rmI (m : List (Int × Int)) : rmL (rmI m) = MI m := by simp [rmL, rmI, MI, MapOf]
/-- All are numbers of somebody, and nobody waits twice. -/
def good (l : List Jn) : Prop := (∀ x ∈ l, 0 ≤ x.1 ∧ 0 ≤ x.2) ∧ (l.map (·.2)).Nodup
theorem aget_mOf {l : List Jn} {n : Int} (h : n ∉ l.map (·.2)) : aget n (mOf l) = none := by
  induction l with
  | nil => rfl
  | cons x l ih =>
    simp only [List.map_cons, List.mem_cons, not_or] at h
    simp only [mOf, List.map_cons, aget, if_neg h.1]
    exact ih h.2
theorem aput_mOf {l : List Jn} {x : Jn} (h : x.2 ∉ l.map (·.2)) : aput x.2 x.1 (mOf l) = mOf (l ++ [x]) := by
  induction l with
  | nil => rfl
  | cons y l ih =>
    simp only [List.map_cons, List.mem_cons, not_or] at h
    simp only [mOf, List.map_cons, List.cons_append, aput, if_neg h.1]
    congr 1
    exact ih h.2
theorem frz_rm (nx : Nat) (m : List (Int × Int)) (b : Bool) : frz ⟨nx, [(0, LO.map (MI m))]⟩ (.tup [.mp 0, vb b]) = .tup [.pv (.rm (rmI m)), vb b] := by
  have h1 : ∀ m : List (Int × Int), pvRow ((MI m).map (·.2)) = some (m.map fun p => PV.sc (.int .i64 p.2)) := by
    intro m
    induction m with
    | nil => rfl
    | cons p m ih =>
      have e : (MI (p :: m)).map (·.2) = LV.pv (.sc (.int .i64 p.2)) :: (MI m).map (·.2) := rfl
      rw [e]; simp only [pvRow, ih]; rfl
  have h2 : ∀ m : List (Int × Int), ((MI m).map (·.1)).zip (m.map fun p => PV.sc (.int .i64 p.2)) = rmI m := by
    intro m
    induction m with
    | nil => rfl
    | cons p m ih =>
      have e : (MI (p :: m)).map (·.1) = Value.int .i64 p.1 :: (MI m).map (·.1) := rfl
      rw [e]; simp only [List.map_cons, List.zip_cons_cons, ih]; rfl
  have h3 : Lw.look 0 [(0, LO.map (MI m))] = some (LO.map (MI m)) := rfl
  simp only [frz, frzs, frzM, LSt.get, h3, h1, h2]
set_option maxHeartbeats 4000000 in
set_option maxRecDepth 20000 in
theorem of_yes (l : List Jn) (g : good l) (hl : l.length ≤ 100000) : Fun Try.prog 34 [sJ l] (.tup [.pv (.rm (rmI (mOf l))), vb (decide ((l.length : Int) ≤ 256))]) := by
  refine Fun.frozenLe ?_
  (refine LCalls.enter Try.func34 rfl (by simp [Try.ntmps34]) (LK.start ?_); simp only [Try.ntmps34, enterA])
  (repeat' first | refine LOps.done ?_ | (apply LOps.mv; (focus (first | exact Goes.free | exact Goes.on rfl rfl (by with_reducible rfl) true (by decide))); (focus (exact rfl)); (focus (exact rfl))) | (apply LOps.asg; (focus (first | exact Goes.free | exact Goes.on rfl rfl (by with_reducible rfl) true (by decide))); (focus (exact rfl)); (focus (exact rfl))) | (apply LOps.loc; (focus (first | exact Goes.free | exact Goes.on rfl rfl (by with_reducible rfl) true (by decide))); (focus (exact rfl)); (focus (exact rfl)); (focus (simp only [go_sem, ↓reduceIte, Nat.reduceLT]; with_reducible rfl))) | refine LK.seq ?_ | refine LK.block ?_ | refine LK.regc ?_ | fail)
  refine LK.loop (fun i : Nat => l.length - i) (fun i => i ≤ l.length) (fun i => ⟨42, [(0, sJ l), (4, .mp 0), (10, sJ l), (11, vi l.length), (12, vi i)]⟩) (fun i => [(0, .map (MI (mOf (l.take i))))]) 0 (Nat.zero_le _) (Sub.by rfl rfl (by first | rfl | (simp only [subB, MB_all_under, MI_all_under, MB_all_idp, MI_all_idp, oF_under, oF_idp, oF_all_under, oF_all_idp, MB_under, MI_under, MB_idp, MI_idp, evOk, ovOk, nvOk, keepOf, vis, LV.under, LV.unders, LV.idp, LV.idps, LO.under, LO.idp, under_pv, idp_pv, List.all_cons, List.all_nil, List.any_cons, List.any_nil, Nat.reduceBEq, beq_self_eq_true, Bool.and_true, Bool.true_and, Bool.or_true, Bool.true_or, Bool.or_false, Bool.false_or, decide_true, decide_false, Nat.reduceLT, Nat.reduceLeDiff, Nat.le_refl, Nat.reduceAdd, Bool.and_self, Bool.or_self]; done))) ?_
  rintro i hi J hJ
  rcases Nat.lt_or_ge i l.length with hlt | hge
  · obtain ⟨x, hx⟩ := idx_all hlt
    have h1 : ((i : Int) < (l.length : Int)) := by omega
    have hw := wrapn (n := i) (by omega)
    obtain ⟨g1, g2⟩ := g.1 x (List.mem_of_getElem? hx)
    have htk : l.take (i + 1) = l.take i ++ [x] := by rw [List.take_add_one, hx]; rfl
    have hnot : x.2 ∉ (l.take i).map (·.2) := by
      have hd := g.2
      have e : l = l.take (i + 1) ++ l.drop (i + 1) := (List.take_append_drop _ _).symm
      rw [e, htk] at hd
      simp only [List.map_append, List.map_cons, List.map_nil] at hd
      have := (List.nodup_append.1 hd).1
      intro hm
      exact (List.nodup_append.1 this).2.2 _ hm _ (by simp) rfl
    have hag : (aget x.2 (mOf (l.take i))).isSome = false := by rw [aget_mOf hnot]; rfl
    have hmin : ¬ ((if x.2 < x.1 then x.2 else x.1) < 0) := by split <;> omega
    have hput := aput_mOf hnot
    rw [← htk] at hput
    have hcj := cJ_eq x
    (repeat' first | refine LOps.done ?_ | (apply LOps.mv; (focus (first | exact Goes.free | exact Goes.on rfl rfl (by with_reducible rfl) true (by decide))); (focus (exact rfl)); (focus (exact rfl))) | (apply LOps.asg; (focus (first | exact Goes.free | exact Goes.on rfl rfl (by with_reducible rfl) true (by decide))); (focus (exact rfl)); (focus (exact rfl))) | (apply LOps.ext; (focus (first | exact Goes.free | exact Goes.on rfl rfl (by with_reducible rfl) true (by decide))); (focus (exact rfl)); (focus (exact rfl)); (focus (exact rfl))) | (apply LOps.loc; (focus (first | exact Goes.free | exact Goes.on rfl rfl (by with_reducible rfl) true (by decide))); (focus (exact rfl)); (focus (exact rfl)); (focus (simp only [go_sem, ↓reduceIte, Nat.reduceEqDiff, reduceCtorEq, Nat.reduceLT, Nat.reduceAdd, h1, hx, hcj, hag, hw, hmin]; with_reducible rfl))) | (apply LOps.loc0; (focus (first | exact Goes.free | exact Goes.on rfl rfl (by with_reducible rfl) true (by decide))); (focus (exact rfl)); (focus (simp only [go_sem, ↓reduceIte, Nat.reduceEqDiff, reduceCtorEq, Nat.reduceLT, Nat.reduceAdd, hput]; with_reducible rfl))) | refine LK.seq ?_ | refine LK.skip ?_ | refine LK.block ?_ | refine LK.blk ?_ | refine LK.fin ?_ | (apply LK.condT2; (focus (exact rfl)); (focus (with_reducible rfl)); (focus (first | with_reducible rfl | decide | (with_reducible exact Bool.true_or _) | (with_reducible exact congrArg (fun b => b || _) (Bool.true_or _))))) | (apply LK.condF2; (focus (exact rfl)); (focus (with_reducible rfl)); (focus (first | with_reducible rfl | decide | (with_reducible exact Bool.false_and _) | (with_reducible exact congrArg (fun b => b && _) (Bool.false_and _))))) | refine LK.regc ?_ | fail)
    apply hJ
    exact ⟨i + 1, hlt, by omega, (Sub.by rfl rfl (by first | rfl | (simp only [subB, MI_all_under, LV.under, LO.under, List.all_cons, List.all_nil, decide_true, Nat.reduceLT, Bool.and_self]; done)))⟩
  · obtain rfl : i = l.length := by omega
    have h1 : ¬ ((l.length : Int) < (l.length : Int)) := by omega
    have ht : l.take l.length = l := List.take_length
    rw [ht]
    (repeat' first | refine LOps.done ?_ | (apply LOps.mv; (focus (first | exact Goes.free | exact Goes.on rfl rfl (by with_reducible rfl) true (by decide))); (focus (exact rfl)); (focus (exact rfl))) | (apply LOps.asg; (focus (first | exact Goes.free | exact Goes.on rfl rfl (by with_reducible rfl) true (by decide))); (focus (exact rfl)); (focus (exact rfl))) | (apply LOps.loc; (focus (first | exact Goes.free | exact Goes.on rfl rfl (by with_reducible rfl) true (by decide))); (focus (exact rfl)); (focus (exact rfl)); (focus (simp only [go_sem, ↓reduceIte, Nat.reduceEqDiff, h1]; with_reducible rfl))) | refine LK.seq ?_ | refine LK.ret' ?_ | refine LK.exit' rfl ?_ | (apply LK.condF2; (focus (exact rfl)); (focus (with_reducible rfl)); (focus (first | with_reducible rfl | decide | (with_reducible exact Bool.false_and _) | (with_reducible exact congrArg (fun b => b && _) (Bool.false_and _))))) | refine LK.regc ?_ | (apply retQ; (focus (first | exact lres_one rfl | exact lres_more rfl | (simp only [lres, lresv, Try.results34, go_sem, ↓reduceIte, Nat.reduceEqDiff, reduceCtorEq, Nat.reduceLT, Nat.reduceAdd, Int.reduceBEq, Int.reduceBNe, Int.reduceEq, Int.reduceLE, Int.reduceLT, Int.reduceToNat, Nat.reduceLeDiff, Nat.reduceMul, Nat.reduceSub, h1]; exact rfl)))) | fail)
    rw [frz_rm]
    exact LV.le_refl _
end Go.Proofs.Ytoppnepjemhckaa
