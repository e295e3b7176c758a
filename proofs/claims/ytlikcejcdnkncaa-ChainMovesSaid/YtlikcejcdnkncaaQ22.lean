/- Chapter 06: the document's lists, one of which is our own. -/
import Derived.Test.YtlikcejcdnkncaaQ21
set_option linter.unusedSimpArgs false
set_option linter.unusedVariables false
namespace Go.Proofs.Ytlikcejcdnkncaa
open Go.Lw
attribute [local irreducible] LK LOps LW
/-- The lists so far; the one at T as v. -/
def rT (v : LV) (Q : List (List Nat)) (T i : Nat) : List (List LV) := if T < i then oF cS (Q.take T) ++ [v] :: oF cS ((Q.take i).drop (T + 1)) else oF cS (Q.take i)
def dT (T : Nat) (q : List Nat) (i : Nat) : List (List LV) := if T < i then oF (cI .i64) (castL q) else []
theorem dT_yes {T : Nat} {q : List Nat} {i : Nat} (h : T < i) : dT T q i = oF (cI .i64) (castL q) := if_pos h
theorem dT_no {T : Nat} {q : List Nat} {i : Nat} (h : ¬ T < i) : dT T q i = [] := if_neg h
theorem rT_le {v : LV} {Q : List (List Nat)} {T i : Nat} (h : ¬ T < i) : rT v Q T i = oF cS (Q.take i) := if_neg h
theorem rT_len {v : LV} {Q : List (List Nat)} {T i : Nat} (h : i ≤ Q.length) (hT : T < Q.length) : (rT v Q T i).length = i := by
  unfold rT; split
  · rw [List.length_append, List.length_cons, oF_len, oF_len, List.length_drop, List.length_take, List.length_take]; omega
  · rw [oF_len, List.length_take]; omega
theorem rT_at (v : LV) (Q : List (List Nat)) (T : Nat) (hT : T < Q.length) : rT v Q T T ++ [[v]] = rT v Q T (T + 1) := by
  unfold rT
  rw [if_neg (by omega), if_pos (by omega), List.drop_eq_nil_of_le (by rw [List.length_take]; omega)]; rfl
theorem rT_step (v : LV) {Q : List (List Nat)} {T i : Nat} {q : List Nat} (hq : Q[i]? = some q) (h : T < i) : rT v Q T i ++ [[LV.pv (.ro .any 1 (rF (cI .i64) (castL q)))]] = rT v Q T (i + 1) := by
  unfold rT
  rw [if_pos h, if_pos (by omega), List.append_assoc, List.cons_append, cS_snoc]
  have e : (Q.take (i + 1)).drop (T + 1) = (Q.take i).drop (T + 1) ++ [q] := by
    rw [List.take_add_one, hq, List.drop_append_of_le_length (by rw [List.length_take]; have := lt_of_get hq; omega)]; rfl
  rw [e]
theorem cS_und (N : Nat) (L : List (List Nat)) : ((oF cS L).all fun r => r.all fun x => LV.under N x) = true := oF_all_under cS L N
theorem rT_und {v : LV} {Q : List (List Nat)} {T i N : Nat} (h : v.under N = true) : ((rT v Q T i).all fun r => r.all fun x => LV.under N x) = true := by
  unfold rT; split
  · rw [List.all_append, List.all_cons, cS_und, cS_und]; simp [h]
  · exact cS_und N _
theorem dT_und {T : Nat} {q : List Nat} {i N : Nat} : ((dT T q i).all fun r => r.all fun x => LV.under N x) = true := by
  unfold dT; split
  · exact oF_all_under (cI .i64) (castL q) N
  · rfl
theorem oF_frz (σ : LSt) (id : Nat) (L : List (List Nat)) : (oF cS L).map (fun r => r.map (frzAt σ id)) = oF cS L := frzAt_pvrows σ id (rF cS L)
theorem rT_frz {v : LV} {Q : List (List Nat)} {T i : Nat} {id : Nat} (σ : LSt) (h : frzAt σ id v = v) : (rT v Q T i).map (fun r => r.map (frzAt σ id)) = rT v Q T i := by
  unfold rT; split
  · rw [List.map_append, List.map_cons, oF_frz, oF_frz]; simp [h]
  · rw [oF_frz]
set_option maxHeartbeats 4000000 in
set_option maxRecDepth 20000 in
theorem rlists_nil (n h t : List Int) (Q0 : List (List Nat)) (c : Ch n h t Q0) (T : Nat) (hT : Q0[T]? = some []) : Own Try.prog 29 [cv n h t] (.tup [.own 2 Q0.length 0 Q0.length, vb true]) 3 [(2, .arr 1 (rT nil0 Q0 T Q0.length))] := by
  have hTl := lt_of_get hT
  have hUa : ∀ j i, ((rT nil0 Q0 j i).all fun r => r.all fun x => LV.under 3 x) = true := fun j i => rT_und rfl
  have hUb : ∀ j i, ((rT nil0 Q0 j i).all fun r => r.all fun x => LV.under 4 x) = true := fun j i => rT_und rfl
  have g := c.b
  have r := c.r
  have hc := okB_yes g
  have hm : n.length ≤ maxLen ∧ 1 * n.length ≤ 281474976710656 := by have := g.1; simp only [maxLen]; omega
  have hz := metB_nil n.length
  have m1 : n.length ≤ maxLen := hm.1
  have m2 : n.length ≤ 281474976710656 := by have := hm.2; omega
  have hlQ : h.length = Q0.length := r.lh
  (refine LCalls.enter Try.func29 rfl (by simp [Try.ntmps29]) (LK.start ?_); simp only [Try.ntmps29, enterA])
  (repeat' first | refine LOps.done ?_ | (apply LOps.mv; (focus (first | exact Goes.free | exact Goes.on rfl rfl (by with_reducible rfl) true (by decide))); (focus (exact rfl)); (focus (exact rfl))) | (apply LOps.asg; (focus (first | exact Goes.free | exact Goes.on rfl rfl (by with_reducible rfl) true (by decide))); (focus (exact rfl)); (focus (exact rfl))) | (apply LOps.loc; (focus (first | exact Goes.free | exact Goes.on rfl rfl (by with_reducible rfl) true (by decide))); (focus (exact rfl)); (focus (exact rfl)); (focus (simp only [go_sem, ↓reduceIte, Nat.reduceEqDiff, Nat.reduceLT, Nat.reduceAdd]; with_reducible rfl))) | (apply LOps.pass; (focus (first | exact Goes.on rfl rfl (by with_reducible rfl) false (by decide) | exact Goes.undef rfl rfl (by with_reducible rfl))); (focus (exact rfl))) | (apply LOps.scEnd; (focus (exact rfl)); (focus (with_reducible rfl))) | refine LK.seq ?_ | refine LK.regc ?_ | (apply LOps.or2; exact rfl; exact rfl; exact rfl; exact rfl; exact rfl; (focus (with_reducible rfl)); (focus (first | kernel_rfl | rfl))) | refine Under.mk (fun hg => ?_) | fail)
  refine LK.condF2 rfl (by first | with_reducible rfl | rfl) (hc) ?_
  (repeat' first | refine LOps.done ?_ | (apply LOps.mv; (focus (first | exact Goes.free | exact Goes.on rfl rfl (by with_reducible rfl) true (by decide))); (focus (exact rfl)); (focus (exact rfl))) | (apply LOps.asg; (focus (first | exact Goes.free | exact Goes.on rfl rfl (by with_reducible rfl) true (by decide))); (focus (exact rfl)); (focus (exact rfl))) | (apply LOps.loc; (focus (first | exact Goes.free | exact Goes.on rfl rfl (by with_reducible rfl) true (by decide))); (focus (exact rfl)); (focus (exact rfl)); (focus (simp only [go_sem, ↓reduceIte, reduceCtorEq, Nat.reduceLT, Nat.reduceAdd, m1, m2, hz, Nat.one_mul]; with_reducible rfl))) | refine LK.seq ?_ | refine LK.skip ?_ | refine LK.block ?_ | refine LK.regc ?_ | fail)
  refine LK.own0 6 1 (by simp only [upd, go_sem, ↓reduceIte, Nat.reduceEqDiff, reduceCtorEq]; rfl) rfl ?_
  refine LK.loop (fun i : Nat => h.length - i) (fun i => i ≤ h.length) (fun i => ⟨108, [(1, .ptr 0 1 0 0), (4, vi n.length), (5, .own 1 n.length 0 n.length), (6, .own 2 i 0 i), (42, sI h), (43, vi h.length), (44, vi i)]⟩) (fun i => [(2, .arr 1 (rT nil0 Q0 T i)), (1, .arr 1 (oF cB (metB n.length (Q0.take i).flatten))), (0, .arr 3 [[sI n, sI h, sI t]])]) 0 (Nat.zero_le _) (Sub.by rfl rfl (by first | rfl | (simp only [subB, oF_all_under, LV.under, LO.under, List.all_cons, List.all_nil, decide_true, Nat.reduceLT, Nat.reduceAdd, Bool.and_self, hUa]; done))) ?_
  rintro i hi J hJ
  rcases Nat.lt_or_ge i h.length with hlt | hge
  · rcases Nat.lt_trichotomy i T with hcmp | hcmp | hcmp
    · obtain ⟨q, hq⟩ := idx_all (show i < Q0.length by omega)
      obtain ⟨a, b, ha, hb, hpq, hbl⟩ := rep_head r hq
      have hRi : rT nil0 Q0 T i = oF cS (Q0.take i) := rT_le (by omega)
      simp only [hRi]
      have h1 : ((i : Int) < (h.length : Int)) := by omega
      have h1t : ((i : Int) < (t.length : Int)) := by have := g.2.2.2; omega
      have hw := wrapn (n := i) (by have := g.2.2.1; omega)
      have hi256 : i ≤ 256 := by have := g.2.2.1; omega
      have hcut := nodup_cut r.nodup hq
      have hle := r.le hq
      have htl : (Q0.take i).length = i := by rw [List.length_take]; omega
      (repeat' first | refine LOps.done ?_ | (apply LOps.mv; (focus (first | exact Goes.free | exact Goes.on rfl rfl (by with_reducible rfl) true (by decide))); (focus (exact rfl)); (focus (exact rfl))) | (apply LOps.asg; (focus (first | exact Goes.free | exact Goes.on rfl rfl (by with_reducible rfl) true (by decide))); (focus (exact rfl)); (focus (exact rfl))) | (apply LOps.loc; (focus (first | exact Goes.free | exact Goes.on rfl rfl (by with_reducible rfl) true (by decide))); (focus (exact rfl)); (focus (exact rfl)); (focus (simp only [go_sem, ↓reduceIte, Nat.reduceEqDiff, Nat.reduceLT, Nat.reduceAdd, h1, ha]; with_reducible rfl))) | refine LK.seq ?_ | refine LK.skip ?_ | refine LK.block ?_ | (apply LK.condT2; (focus (exact rfl)); (focus (with_reducible rfl)); (focus (first | with_reducible rfl | decide | (with_reducible exact Bool.true_or _) | (with_reducible exact congrArg (fun b => b || _) (Bool.true_or _))))) | refine LK.regc ?_ | fail)
      refine LK.own0 9 1 (by simp only [upd, go_sem, ↓reduceIte, Nat.reduceEqDiff, reduceCtorEq]; rfl) rfl ?_
      refine LK.loop (fun s : List Nat × Int => n.length + 1 - s.1.length) (fun s => pathTo n a s.1 s.2) (fun s => ⟨108, [(1, .ptr 0 1 0 0), (4, vi n.length), (5, .own 1 n.length 0 n.length), (6, .own 2 i 0 i), (7, vi i), (8, vi s.2), (9, .own 3 s.1.length 0 s.1.length), (10, vi (lastI s.1)), (42, sI h), (43, vi h.length), (44, vi i)]⟩) (fun s => [(3, .arr 1 (oF (cI .i64) (castL s.1))), (2, .arr 1 (oF cS (Q0.take i))), (1, .arr 1 (oF cB (metB n.length ((Q0.take i).flatten ++ s.1)))), (0, .arr 3 [[sI n, sI h, sI t]])]) ([], a) rfl (by dsimp only; rw [List.append_nil]; exact (Sub.by rfl rfl (by first | rfl | (simp only [subB, oF_all_under, LV.under, LO.under, List.all_cons, List.all_nil, decide_true, Nat.reduceLT, Nat.reduceAdd, Bool.and_self]; done)))) ?_
      rintro ⟨p, d⟩ hp J2 hJ2
      simp only at hp
      obtain ⟨rest, e, hr⟩ := pathTo_split hp hpq
      have hpl : p.length + rest.length = q.length := by rw [e, List.length_append]
      cases rest with
      | cons x rest =>
        obtain ⟨rfl, y, hy, hr2⟩ := hr
        have hx := lt_of_get hy
        have r0 : ((x : Int) != -1) = true := by rw [bne_iff_ne]; omega
        have r2 : ¬ ((x : Int) < 0) := by omega
        have r3 : ¬ ((x : Int) ≥ (n.length : Int)) := by omega
        have r4 : ((x : Int) < (n.length : Int)) := by omega
        have hmg := metB_get (S := (Q0.take i).flatten ++ p) hx
        have hml := metB_len n.length ((Q0.take i).flatten ++ p)
        have hmet : x ∉ (Q0.take i).flatten ++ p := by
          intro hm
          rcases List.mem_append.1 hm with hm | hm
          · exact hcut.2.2.1 x (by rw [e]; simp) hm
          · have hd := hcut.2.1
            rw [e] at hd
            exact (List.nodup_append.1 hd).2.2 x hm x (by simp) rfl
        have hdm : decide (x ∈ (Q0.take i).flatten ++ p) = false := decide_eq_false hmet
        rw [hdm] at hmg
        have hms := metB_set n.length ((Q0.take i).flatten ++ p) x
        rw [List.append_assoc] at hms
        have hcs := castL_snoc p x
        have hcl := castL_len p
        have hmm : p.length + 1 ≤ maxLen ∧ (p.length + 1) * 8 ≤ 140737488355328 := by have := g.1; have := hle.1; simp only [maxLen]; omega
        (repeat' first | refine LOps.done ?_ | (apply LOps.mv; (focus (first | exact Goes.free | exact Goes.on rfl rfl (by with_reducible rfl) true (by decide))); (focus (exact rfl)); (focus (exact rfl))) | (apply LOps.asg; (focus (first | exact Goes.free | exact Goes.on rfl rfl (by with_reducible rfl) true (by decide))); (focus (exact rfl)); (focus (exact rfl))) | (apply LOps.loc; (focus (first | exact Goes.free | exact Goes.on rfl rfl (by with_reducible rfl) true (by decide))); (focus (exact rfl)); (focus (exact rfl)); (focus (simp only [go_sem, ↓reduceIte, Nat.reduceEqDiff, reduceCtorEq, Nat.reduceLT, Nat.reduceAdd, Nat.reduceLeDiff, r0, r2, r3, r4, hy, hmg, hml, hcs, hcl, hmm]; with_reducible rfl))) | (apply LOps.loc0; (focus (first | exact Goes.free | exact Goes.on rfl rfl (by with_reducible rfl) true (by decide))); (focus (exact rfl)); (focus (simp only [go_sem, ↓reduceIte, Nat.reduceEqDiff, Nat.reduceLT, hmg, hml, hms]; with_reducible rfl))) | refine LK.seq ?_ | refine LK.skip ?_ | refine LK.block ?_ | refine LK.blk ?_ | refine LK.fin ?_ | (apply LK.condT2; (focus (exact rfl)); (focus (with_reducible rfl)); (focus (first | with_reducible rfl | decide | (with_reducible exact Bool.true_or _) | (with_reducible exact congrArg (fun b => b || _) (Bool.true_or _))))) | (apply LK.condF2; (focus (exact rfl)); (focus (with_reducible rfl)); (focus (first | with_reducible rfl | decide | (with_reducible exact Bool.false_and _) | (with_reducible exact congrArg (fun b => b && _) (Bool.false_and _))))) | refine LK.regc ?_ | fail)
        apply hJ2
        refine ⟨(p ++ [x], y), pathTo_snoc hp rfl hy, ?_, ?_⟩
        · have := hle.1; simp only [List.length_append, List.length_singleton]; simp only [List.length_cons] at hpl; omega
        · simp only [lastI_snoc, List.length_append, List.length_singleton]; exact (Sub.by rfl rfl (by first | rfl | (simp only [subB, oF_all_under, LV.under, LO.under, List.all_cons, List.all_nil, decide_true, Nat.reduceLT, Nat.reduceAdd, Bool.and_self]; done)))
      | nil =>
        obtain rfl : d = -1 := hr
        rw [List.append_nil] at e
        subst e
        have r0 : ((-1 : Int) != -1) = false := rfl
        have hcl := castL_len q
        have hct : (castL q).take q.length = castL q := List.take_of_length_le (by omega)
        (repeat' first | refine LOps.done ?_ | (apply LOps.mv; (focus (first | exact Goes.free | exact Goes.on rfl rfl (by with_reducible rfl) true (by decide))); (focus (exact rfl)); (focus (exact rfl))) | (apply LOps.loc; (focus (first | exact Goes.free | exact Goes.on rfl rfl (by with_reducible rfl) true (by decide))); (focus (exact rfl)); (focus (exact rfl)); (focus (simp only [go_sem, ↓reduceIte, Nat.reduceEqDiff, reduceCtorEq, Nat.reduceLT, Nat.reduceAdd, r0, h1t, hb]; with_reducible rfl))) | refine LK.seq ?_ | refine LK.exit' rfl ?_ | (apply LK.condF2; (focus (exact rfl)); (focus (with_reducible rfl)); (focus (first | with_reducible rfl | decide | (with_reducible exact Bool.false_and _) | (with_reducible exact congrArg (fun b => b && _) (Bool.false_and _))))) | refine LK.regc ?_ | fail)
        have e3 : (b != lastI q) = false := by simpa using hbl
        refine LK.condF2 rfl (by first | with_reducible rfl | rfl) (e3) ?_
        have hF : frzT ⟨4, [(3, .arr 1 (oF (cI .i64) (castL q))), (2, .arr 1 (oF cS (Q0.take i))), (1, .arr 1 (oF cB (metB n.length ((Q0.take i).flatten ++ q)))), (0, .arr 3 [[sI n, sI h, sI t]])]⟩ 3 [(9, .own 3 q.length 0 q.length)] = [(9, .pv (.ro .any 1 (rF (cI .i64) (castL q))))] := by
          simp only [go_sem, ↓reduceIte, hcl, hct]
        refine LK.freeze 3 [9] rfl (by first | (rw [hF]; done) | (rw [hF]; rfl)) (by first | (simp only [go_sem, ↓reduceIte, Nat.reduceEqDiff, reduceCtorEq]; done) | (simp only [go_sem, ↓reduceIte, Nat.reduceEqDiff, reduceCtorEq]; exact rfl)) ?_
        have htk : Q0.take i ++ [q] = Q0.take (i + 1) := by rw [List.take_add_one, hq]; rfl
        have hcs := cS_snoc (Q0.take i) q
        rw [htk] at hcs
        have hmm : i + 1 ≤ maxLen ∧ (i + 1) * 24 ≤ 140737488355328 := by simp only [maxLen]; omega
        have hfl : (Q0.take i).flatten ++ q = (Q0.take (i + 1)).flatten := by rw [← htk]; simp
        (repeat' first | refine LOps.done ?_ | (apply LOps.mv; (focus (first | exact Goes.free | exact Goes.on rfl rfl (by with_reducible rfl) true (by decide))); (focus (exact rfl)); (focus (exact rfl))) | (apply LOps.asg; (focus (first | exact Goes.free | exact Goes.on rfl rfl (by with_reducible rfl) true (by decide))); (focus (exact rfl)); (focus (exact rfl))) | (apply LOps.loc; (focus (first | exact Goes.free | exact Goes.on rfl rfl (by with_reducible rfl) true (by decide))); (focus (exact rfl)); (focus (exact rfl)); (focus (simp only [go_sem, ↓reduceIte, Nat.reduceEqDiff, reduceCtorEq, Nat.reduceLT, Nat.reduceAdd, Nat.reduceLeDiff, hcs, hmm, hw, htl]; with_reducible rfl))) | refine LK.skip ?_ | refine LK.blk ?_ | refine LK.fin ?_ | refine LK.regc ?_ | fail)
        apply hJ
        refine ⟨i + 1, hlt, by omega, ?_⟩
        simp only [← hfl]
        have hRn : rT nil0 Q0 T (i + 1) = oF cS (Q0.take (i + 1)) := rT_le (by omega)
        simp only [hRn]
        exact (Sub.by rfl rfl (by first | rfl | (simp only [subB, oF_all_under, LV.under, LO.under, List.all_cons, List.all_nil, decide_true, Nat.reduceLT, Nat.reduceAdd, Bool.and_self]; done)))
    · subst hcmp
      obtain ⟨q, hq⟩ := idx_all (show i < Q0.length by omega)
      obtain ⟨a, b, ha, hb, hpq, hbl⟩ := rep_head r hq
      have hRi : rT nil0 Q0 i i = oF cS (Q0.take i) := rT_le (by omega)
      simp only [hRi]
      have h1 : ((i : Int) < (h.length : Int)) := by omega
      have h1t : ((i : Int) < (t.length : Int)) := by have := g.2.2.2; omega
      have hw := wrapn (n := i) (by have := g.2.2.1; omega)
      have hi256 : i ≤ 256 := by have := g.2.2.1; omega
      have hcut := nodup_cut r.nodup hq
      have hle := r.le hq
      have htl : (Q0.take i).length = i := by rw [List.length_take]; omega
      have hql : q = [] := by rw [hT] at hq; exact (Option.some.inj hq).symm
      subst hql
      obtain rfl : a = -1 := hpq
      have r0 : ((-1 : Int) != -1) = false := rfl
      have e3 : (b != -1) = false := by rw [hbl, lastI_nil]; rfl
      have hcs := rT_at nil0 Q0 i hTl
      rw [hRi] at hcs
      have htl2 : (oF cS (Q0.take i)).length = i := by rw [oF_len, htl]
      have hmm : i + 1 ≤ maxLen ∧ (i + 1) * 24 ≤ 140737488355328 := by simp only [maxLen]; omega
      have htk : Q0.take i ++ [[]] = Q0.take (i + 1) := by rw [List.take_add_one, hq]; rfl
      have hfl : (Q0.take i).flatten = (Q0.take (i + 1)).flatten := by rw [← htk]; simp
      (repeat' first | refine LOps.done ?_ | (apply LOps.mv; (focus (first | exact Goes.free | exact Goes.on rfl rfl (by with_reducible rfl) true (by decide))); (focus (exact rfl)); (focus (exact rfl))) | (apply LOps.asg; (focus (first | exact Goes.free | exact Goes.on rfl rfl (by with_reducible rfl) true (by decide))); (focus (exact rfl)); (focus (exact rfl))) | (apply LOps.loc; (focus (first | exact Goes.free | exact Goes.on rfl rfl (by with_reducible rfl) true (by decide))); (focus (exact rfl)); (focus (exact rfl)); (focus (simp only [go_sem, ↓reduceIte, Nat.reduceEqDiff, reduceCtorEq, Nat.reduceLT, Nat.reduceAdd, h1, ha, r0, h1t, hb, Int.reduceNeg]; with_reducible rfl))) | refine LK.seq ?_ | refine LK.skip ?_ | refine LK.block ?_ | refine LK.exit' rfl ?_ | (apply LK.condT2; (focus (exact rfl)); (focus (with_reducible rfl)); (focus (first | with_reducible rfl | decide | (with_reducible exact Bool.true_or _) | (with_reducible exact congrArg (fun b => b || _) (Bool.true_or _))))) | (apply LK.condF2; (focus (exact rfl)); (focus (with_reducible rfl)); (focus (first | with_reducible rfl | decide | (with_reducible exact Bool.false_and _) | (with_reducible exact congrArg (fun b => b && _) (Bool.false_and _))))) | refine LK.regc ?_ | refine LK.rounds 1 ?_ | fail)
      refine LK.condF2 rfl (by first | with_reducible rfl | rfl) (e3) ?_
      (repeat' first | refine LOps.done ?_ | (apply LOps.mv; (focus (first | exact Goes.free | exact Goes.on rfl rfl (by with_reducible rfl) true (by decide))); (focus (exact rfl)); (focus (exact rfl))) | (apply LOps.asg; (focus (first | exact Goes.free | exact Goes.on rfl rfl (by with_reducible rfl) true (by decide))); (focus (exact rfl)); (focus (exact rfl))) | (apply LOps.loc; (focus (first | exact Goes.free | exact Goes.on rfl rfl (by with_reducible rfl) true (by decide))); (focus (exact rfl)); (focus (exact rfl)); (focus (simp only [go_sem, ↓reduceIte, Nat.reduceEqDiff, reduceCtorEq, Nat.reduceLT, Nat.reduceAdd, Nat.reduceLeDiff, hcs, hmm, hw, htl2]; with_reducible rfl))) | refine LK.skip ?_ | refine LK.blk ?_ | refine LK.fin ?_ | refine LK.regc ?_ | fail)
      apply hJ
      refine ⟨i + 1, hlt, by omega, ?_⟩
      simp only [← hfl]
      exact (Sub.by rfl rfl (by first | rfl | (simp only [subB, oF_all_under, LV.under, LO.under, List.all_cons, List.all_nil, decide_true, Nat.reduceLT, Nat.reduceAdd, Bool.and_self, hUa]; done)))
    · obtain ⟨q, hq⟩ := idx_all (show i < Q0.length by omega)
      obtain ⟨a, b, ha, hb, hpq, hbl⟩ := rep_head r hq
      have htl0 : (rT nil0 Q0 T i).length = i := rT_len (by omega) hTl
      have hfz : ∀ σ, (rT nil0 Q0 T i).map (fun r => r.map (frzAt σ 3)) = rT nil0 Q0 T i := fun σ => rT_frz σ (by simp [frzAt, nil0])
      have h1 : ((i : Int) < (h.length : Int)) := by omega
      have h1t : ((i : Int) < (t.length : Int)) := by have := g.2.2.2; omega
      have hw := wrapn (n := i) (by have := g.2.2.1; omega)
      have hi256 : i ≤ 256 := by have := g.2.2.1; omega
      have hcut := nodup_cut r.nodup hq
      have hle := r.le hq
      have htl : (Q0.take i).length = i := by rw [List.length_take]; omega
      (repeat' first | refine LOps.done ?_ | (apply LOps.mv; (focus (first | exact Goes.free | exact Goes.on rfl rfl (by with_reducible rfl) true (by decide))); (focus (exact rfl)); (focus (exact rfl))) | (apply LOps.asg; (focus (first | exact Goes.free | exact Goes.on rfl rfl (by with_reducible rfl) true (by decide))); (focus (exact rfl)); (focus (exact rfl))) | (apply LOps.loc; (focus (first | exact Goes.free | exact Goes.on rfl rfl (by with_reducible rfl) true (by decide))); (focus (exact rfl)); (focus (exact rfl)); (focus (simp only [go_sem, ↓reduceIte, Nat.reduceEqDiff, Nat.reduceLT, Nat.reduceAdd, h1, ha]; with_reducible rfl))) | refine LK.seq ?_ | refine LK.skip ?_ | refine LK.block ?_ | (apply LK.condT2; (focus (exact rfl)); (focus (with_reducible rfl)); (focus (first | with_reducible rfl | decide | (with_reducible exact Bool.true_or _) | (with_reducible exact congrArg (fun b => b || _) (Bool.true_or _))))) | refine LK.regc ?_ | fail)
      refine LK.own0 9 1 (by simp only [upd, go_sem, ↓reduceIte, Nat.reduceEqDiff, reduceCtorEq]; rfl) rfl ?_
      refine LK.loop (fun s : List Nat × Int => n.length + 1 - s.1.length) (fun s => pathTo n a s.1 s.2) (fun s => ⟨108, [(1, .ptr 0 1 0 0), (4, vi n.length), (5, .own 1 n.length 0 n.length), (6, .own 2 i 0 i), (7, vi i), (8, vi s.2), (9, .own 3 s.1.length 0 s.1.length), (10, vi (lastI s.1)), (42, sI h), (43, vi h.length), (44, vi i)]⟩) (fun s => [(3, .arr 1 (oF (cI .i64) (castL s.1))), (2, .arr 1 (rT nil0 Q0 T i)), (1, .arr 1 (oF cB (metB n.length ((Q0.take i).flatten ++ s.1)))), (0, .arr 3 [[sI n, sI h, sI t]])]) ([], a) rfl (by dsimp only; rw [List.append_nil]; exact (Sub.by rfl rfl (by first | rfl | (simp only [subB, oF_all_under, LV.under, LO.under, List.all_cons, List.all_nil, decide_true, Nat.reduceLT, Nat.reduceAdd, Bool.and_self, hUb]; done)))) ?_
      rintro ⟨p, d⟩ hp J2 hJ2
      simp only at hp
      obtain ⟨rest, e, hr⟩ := pathTo_split hp hpq
      have hpl : p.length + rest.length = q.length := by rw [e, List.length_append]
      cases rest with
      | cons x rest =>
        obtain ⟨rfl, y, hy, hr2⟩ := hr
        have hx := lt_of_get hy
        have r0 : ((x : Int) != -1) = true := by rw [bne_iff_ne]; omega
        have r2 : ¬ ((x : Int) < 0) := by omega
        have r3 : ¬ ((x : Int) ≥ (n.length : Int)) := by omega
        have r4 : ((x : Int) < (n.length : Int)) := by omega
        have hmg := metB_get (S := (Q0.take i).flatten ++ p) hx
        have hml := metB_len n.length ((Q0.take i).flatten ++ p)
        have hmet : x ∉ (Q0.take i).flatten ++ p := by
          intro hm
          rcases List.mem_append.1 hm with hm | hm
          · exact hcut.2.2.1 x (by rw [e]; simp) hm
          · have hd := hcut.2.1
            rw [e] at hd
            exact (List.nodup_append.1 hd).2.2 x hm x (by simp) rfl
        have hdm : decide (x ∈ (Q0.take i).flatten ++ p) = false := decide_eq_false hmet
        rw [hdm] at hmg
        have hms := metB_set n.length ((Q0.take i).flatten ++ p) x
        rw [List.append_assoc] at hms
        have hcs := castL_snoc p x
        have hcl := castL_len p
        have hmm : p.length + 1 ≤ maxLen ∧ (p.length + 1) * 8 ≤ 140737488355328 := by have := g.1; have := hle.1; simp only [maxLen]; omega
        (repeat' first | refine LOps.done ?_ | (apply LOps.mv; (focus (first | exact Goes.free | exact Goes.on rfl rfl (by with_reducible rfl) true (by decide))); (focus (exact rfl)); (focus (exact rfl))) | (apply LOps.asg; (focus (first | exact Goes.free | exact Goes.on rfl rfl (by with_reducible rfl) true (by decide))); (focus (exact rfl)); (focus (exact rfl))) | (apply LOps.loc; (focus (first | exact Goes.free | exact Goes.on rfl rfl (by with_reducible rfl) true (by decide))); (focus (exact rfl)); (focus (exact rfl)); (focus (simp only [go_sem, ↓reduceIte, Nat.reduceEqDiff, reduceCtorEq, Nat.reduceLT, Nat.reduceAdd, Nat.reduceLeDiff, r0, r2, r3, r4, hy, hmg, hml, hcs, hcl, hmm]; with_reducible rfl))) | (apply LOps.loc0; (focus (first | exact Goes.free | exact Goes.on rfl rfl (by with_reducible rfl) true (by decide))); (focus (exact rfl)); (focus (simp only [go_sem, ↓reduceIte, Nat.reduceEqDiff, Nat.reduceLT, hmg, hml, hms]; with_reducible rfl))) | refine LK.seq ?_ | refine LK.skip ?_ | refine LK.block ?_ | refine LK.blk ?_ | refine LK.fin ?_ | (apply LK.condT2; (focus (exact rfl)); (focus (with_reducible rfl)); (focus (first | with_reducible rfl | decide | (with_reducible exact Bool.true_or _) | (with_reducible exact congrArg (fun b => b || _) (Bool.true_or _))))) | (apply LK.condF2; (focus (exact rfl)); (focus (with_reducible rfl)); (focus (first | with_reducible rfl | decide | (with_reducible exact Bool.false_and _) | (with_reducible exact congrArg (fun b => b && _) (Bool.false_and _))))) | refine LK.regc ?_ | fail)
        apply hJ2
        refine ⟨(p ++ [x], y), pathTo_snoc hp rfl hy, ?_, ?_⟩
        · have := hle.1; simp only [List.length_append, List.length_singleton]; simp only [List.length_cons] at hpl; omega
        · simp only [lastI_snoc, List.length_append, List.length_singleton]; exact (Sub.by rfl rfl (by first | rfl | (simp only [subB, oF_all_under, LV.under, LO.under, List.all_cons, List.all_nil, decide_true, Nat.reduceLT, Nat.reduceAdd, Bool.and_self, hUb]; done)))
      | nil =>
        obtain rfl : d = -1 := hr
        rw [List.append_nil] at e
        subst e
        have r0 : ((-1 : Int) != -1) = false := rfl
        have hcl := castL_len q
        have hct : (castL q).take q.length = castL q := List.take_of_length_le (by omega)
        (repeat' first | refine LOps.done ?_ | (apply LOps.mv; (focus (first | exact Goes.free | exact Goes.on rfl rfl (by with_reducible rfl) true (by decide))); (focus (exact rfl)); (focus (exact rfl))) | (apply LOps.loc; (focus (first | exact Goes.free | exact Goes.on rfl rfl (by with_reducible rfl) true (by decide))); (focus (exact rfl)); (focus (exact rfl)); (focus (simp only [go_sem, ↓reduceIte, Nat.reduceEqDiff, reduceCtorEq, Nat.reduceLT, Nat.reduceAdd, r0, h1t, hb]; with_reducible rfl))) | refine LK.seq ?_ | refine LK.exit' rfl ?_ | (apply LK.condF2; (focus (exact rfl)); (focus (with_reducible rfl)); (focus (first | with_reducible rfl | decide | (with_reducible exact Bool.false_and _) | (with_reducible exact congrArg (fun b => b && _) (Bool.false_and _))))) | refine LK.regc ?_ | fail)
        have e3 : (b != lastI q) = false := by simpa using hbl
        refine LK.condF2 rfl (by first | with_reducible rfl | rfl) (e3) ?_
        have hF : frzT ⟨4, [(3, .arr 1 (oF (cI .i64) (castL q))), (2, .arr 1 (rT nil0 Q0 T i)), (1, .arr 1 (oF cB (metB n.length ((Q0.take i).flatten ++ q)))), (0, .arr 3 [[sI n, sI h, sI t]])]⟩ 3 [(9, .own 3 q.length 0 q.length)] = [(9, .pv (.ro .any 1 (rF (cI .i64) (castL q))))] := by
          simp only [go_sem, ↓reduceIte, hcl, hct]
        refine LK.freeze 3 [9] rfl (by first | (rw [hF]; done) | (rw [hF]; rfl)) (by first | (simp only [go_sem, ↓reduceIte, Nat.reduceEqDiff, reduceCtorEq, hfz]; done) | (simp only [go_sem, ↓reduceIte, Nat.reduceEqDiff, reduceCtorEq, hfz]; exact rfl)) ?_
        have htk : Q0.take i ++ [q] = Q0.take (i + 1) := by rw [List.take_add_one, hq]; rfl
        have hcs := rT_step nil0 (T := T) hq (by omega)
        have hmm : i + 1 ≤ maxLen ∧ (i + 1) * 24 ≤ 140737488355328 := by simp only [maxLen]; omega
        have hfl : (Q0.take i).flatten ++ q = (Q0.take (i + 1)).flatten := by rw [← htk]; simp
        (repeat' first | refine LOps.done ?_ | (apply LOps.mv; (focus (first | exact Goes.free | exact Goes.on rfl rfl (by with_reducible rfl) true (by decide))); (focus (exact rfl)); (focus (exact rfl))) | (apply LOps.asg; (focus (first | exact Goes.free | exact Goes.on rfl rfl (by with_reducible rfl) true (by decide))); (focus (exact rfl)); (focus (exact rfl))) | (apply LOps.loc; (focus (first | exact Goes.free | exact Goes.on rfl rfl (by with_reducible rfl) true (by decide))); (focus (exact rfl)); (focus (exact rfl)); (focus (simp only [go_sem, ↓reduceIte, Nat.reduceEqDiff, reduceCtorEq, Nat.reduceLT, Nat.reduceAdd, Nat.reduceLeDiff, hcs, hmm, hw, htl0]; with_reducible rfl))) | refine LK.skip ?_ | refine LK.blk ?_ | refine LK.fin ?_ | refine LK.regc ?_ | fail)
        apply hJ
        refine ⟨i + 1, hlt, by omega, ?_⟩
        simp only [← hfl]
        exact (Sub.by rfl rfl (by first | rfl | (simp only [subB, oF_all_under, LV.under, LO.under, List.all_cons, List.all_nil, decide_true, Nat.reduceLT, Nat.reduceAdd, Bool.and_self, hUa]; done)))
  · have h1 : ¬ ((i : Int) < (h.length : Int)) := by omega
    obtain rfl : i = h.length := by omega
    have hQt : Q0.take h.length = Q0 := List.take_of_length_le (by omega)
    rw [hQt]
    have hrl : (rT nil0 Q0 T h.length).length = h.length := rT_len (by omega) hTl
    have hml := metB_len n.length Q0.flatten
    have hmt : (metB n.length Q0.flatten).take n.length = metB n.length Q0.flatten := List.take_of_length_le (by omega)
    (repeat' first | refine LOps.done ?_ | (apply LOps.mv; (focus (first | exact Goes.free | exact Goes.on rfl rfl (by with_reducible rfl) true (by decide))); (focus (exact rfl)); (focus (exact rfl))) | (apply LOps.loc; (focus (first | exact Goes.free | exact Goes.on rfl rfl (by with_reducible rfl) true (by decide))); (focus (exact rfl)); (focus (exact rfl)); (focus (simp only [go_sem, ↓reduceIte, Nat.reduceEqDiff, Nat.reduceAdd, h1, hml, hmt]; with_reducible rfl))) | refine LK.seq ?_ | refine LK.block ?_ | refine LK.exit' rfl ?_ | (apply LK.condF2; (focus (exact rfl)); (focus (with_reducible rfl)); (focus (first | with_reducible rfl | decide | (with_reducible exact Bool.false_and _) | (with_reducible exact congrArg (fun b => b && _) (Bool.false_and _))))) | refine LK.regc ?_ | fail)
    refine LK.loop (fun k : Nat => n.length - k) (fun k => k ≤ n.length) (fun k => ⟨108, [(1, .ptr 0 1 0 0), (6, .own 2 h.length 0 h.length), (89, .own 1 n.length 0 n.length), (90, vi n.length), (91, vi k)]⟩) (fun _ => [(2, .arr 1 (rT nil0 Q0 T h.length)), (1, .arr 1 (oF cB (metB n.length Q0.flatten))), (0, .arr 3 [[sI n, sI h, sI t]])]) 0 (Nat.zero_le _) (Sub.by rfl rfl (by first | rfl | (simp only [subB, oF_all_under, LV.under, LO.under, List.all_cons, List.all_nil, decide_true, Nat.reduceLT, Bool.and_self, hUa]; done))) ?_
    rintro k hk J2 hJ2
    rcases Nat.lt_or_ge k n.length with hlt | hge
    · obtain ⟨y, hy⟩ := idx_all hlt
      have r1 : ((k : Int) < (n.length : Int)) := by omega
      have hmg := metB_get (S := Q0.flatten) hlt
      have hw2 := wrapn (n := k) (by have := g.1; omega)
      by_cases hm : k ∈ Q0.flatten
      · have hdm : decide (k ∈ Q0.flatten) = true := decide_eq_true hm
        rw [hdm] at hmg
        (repeat' first | refine LOps.done ?_ | (apply LOps.mv; (focus (first | exact Goes.free | exact Goes.on rfl rfl (by with_reducible rfl) true (by decide))); (focus (exact rfl)); (focus (exact rfl))) | (apply LOps.asg; (focus (first | exact Goes.free | exact Goes.on rfl rfl (by with_reducible rfl) true (by decide))); (focus (exact rfl)); (focus (exact rfl))) | (apply LOps.loc; (focus (first | exact Goes.free | exact Goes.on rfl rfl (by with_reducible rfl) true (by decide))); (focus (exact rfl)); (focus (exact rfl)); (focus (simp only [go_sem, ↓reduceIte, Nat.reduceEqDiff, Nat.reduceLT, r1, hmg, hml, hw2]; with_reducible rfl))) | (apply LOps.pass; (focus (first | exact Goes.on rfl rfl (by with_reducible rfl) false (by decide) | exact Goes.undef rfl rfl (by with_reducible rfl))); (focus (exact rfl))) | refine LK.seq ?_ | refine LK.skip ?_ | refine LK.block ?_ | refine LK.blk ?_ | refine LK.fin ?_ | (apply LK.condT2; (focus (exact rfl)); (focus (with_reducible rfl)); (focus (first | with_reducible rfl | decide | (with_reducible exact Bool.true_or _) | (with_reducible exact congrArg (fun b => b || _) (Bool.true_or _))))) | (apply LK.condF2; (focus (exact rfl)); (focus (with_reducible rfl)); (focus (first | with_reducible rfl | decide | (with_reducible exact Bool.false_and _) | (with_reducible exact congrArg (fun b => b && _) (Bool.false_and _))))) | refine LK.regc ?_ | fail)
        apply hJ2
        exact ⟨k + 1, hlt, by omega, (Sub.by rfl rfl (by first | rfl | (simp only [subB, oF_all_under, LV.under, LO.under, List.all_cons, List.all_nil, decide_true, Nat.reduceLT, Bool.and_self, hUa]; done)))⟩
      · have hdm : decide (k ∈ Q0.flatten) = false := decide_eq_false hm
        rw [hdm] at hmg
        obtain rfl := r.out k y hy hm
        have e3 : ((-2 : Int) != -2) = false := rfl
        (repeat' first | refine LOps.done ?_ | (apply LOps.mv; (focus (first | exact Goes.free | exact Goes.on rfl rfl (by with_reducible rfl) true (by decide))); (focus (exact rfl)); (focus (exact rfl))) | (apply LOps.asg; (focus (first | exact Goes.free | exact Goes.on rfl rfl (by with_reducible rfl) true (by decide))); (focus (exact rfl)); (focus (exact rfl))) | (apply LOps.loc; (focus (first | exact Goes.free | exact Goes.on rfl rfl (by with_reducible rfl) true (by decide))); (focus (exact rfl)); (focus (exact rfl)); (focus (simp only [go_sem, ↓reduceIte, Nat.reduceEqDiff, reduceCtorEq, Nat.reduceLT, r1, hmg, hml, hy, e3, hw2]; with_reducible rfl))) | refine LK.seq ?_ | refine LK.skip ?_ | refine LK.block ?_ | refine LK.blk ?_ | refine LK.fin ?_ | (apply LK.condT2; (focus (exact rfl)); (focus (with_reducible rfl)); (focus (first | with_reducible rfl | decide | (with_reducible exact Bool.true_or _) | (with_reducible exact congrArg (fun b => b || _) (Bool.true_or _))))) | (apply LK.condF2; (focus (exact rfl)); (focus (with_reducible rfl)); (focus (first | with_reducible rfl | decide | (with_reducible exact Bool.false_and _) | (with_reducible exact congrArg (fun b => b && _) (Bool.false_and _))))) | refine LK.regc ?_ | fail)
        apply hJ2
        exact ⟨k + 1, hlt, by omega, (Sub.by rfl rfl (by first | rfl | (simp only [subB, oF_all_under, LV.under, LO.under, List.all_cons, List.all_nil, decide_true, Nat.reduceLT, Bool.and_self, hUa]; done)))⟩
    · have r1 : ¬ ((k : Int) < (n.length : Int)) := by omega
      rw [← hlQ]
      (repeat' first | refine LOps.done ?_ | (apply LOps.mv; (focus (first | exact Goes.free | exact Goes.on rfl rfl (by with_reducible rfl) true (by decide))); (focus (exact rfl)); (focus (exact rfl))) | (apply LOps.asg; (focus (first | exact Goes.free | exact Goes.on rfl rfl (by with_reducible rfl) true (by decide))); (focus (exact rfl)); (focus (exact rfl))) | (apply LOps.loc; (focus (first | exact Goes.free | exact Goes.on rfl rfl (by with_reducible rfl) true (by decide))); (focus (exact rfl)); (focus (exact rfl)); (focus (simp only [go_sem, ↓reduceIte, Nat.reduceEqDiff, r1]; with_reducible rfl))) | refine LK.seq ?_ | refine LK.ret' ?_ | refine LK.exit' rfl ?_ | (apply LK.condF2; (focus (exact rfl)); (focus (with_reducible rfl)); (focus (first | with_reducible rfl | decide | (with_reducible exact Bool.false_and _) | (with_reducible exact congrArg (fun b => b && _) (Bool.false_and _))))) | refine LK.regc ?_ | (apply retQ; (focus (first | exact lres_one rfl | exact lres_more rfl | (simp only [lres, lresv, Try.results29, go_sem, ↓reduceIte, Nat.reduceEqDiff, reduceCtorEq, Nat.reduceLT, Nat.reduceAdd, Int.reduceBEq, Int.reduceBNe, Int.reduceEq, Int.reduceLE, Int.reduceLT, Int.reduceToNat, Nat.reduceLeDiff, Nat.reduceMul, Nat.reduceSub, r1]; exact rfl)))) | fail)
      exact Own.end (by first | rfl | (simp only [go_sem, ↓reduceIte, Nat.reduceEqDiff, reduceCtorEq, Nat.reduceLT, Nat.reduceAdd, Int.reduceBEq, Int.reduceBNe, Int.reduceEq, Int.reduceLE, Int.reduceLT, Int.reduceToNat, Nat.reduceLeDiff, Nat.reduceMul, Nat.reduceSub])) rfl rfl (by first | exact rfl | (simp only [go_sem, ↓reduceIte, Nat.reduceEqDiff, reduceCtorEq, Nat.reduceLT, Nat.reduceAdd, Int.reduceBEq, Int.reduceBNe, Int.reduceEq, Int.reduceLE, Int.reduceLT, Int.reduceToNat, Nat.reduceLeDiff, Nat.reduceMul, Nat.reduceSub]; exact rfl))
set_option maxHeartbeats 4000000 in
set_option maxRecDepth 20000 in
theorem rlists_at (n h t : List Int) (Q0 : List (List Nat)) (c : Ch n h t Q0) (T : Nat) (q0 : List Nat) (hT : Q0[T]? = some q0) (hne : q0 ≠ []) : Own Try.prog 29 [cv n h t] (.tup [.own 2 Q0.length 0 Q0.length, vb true]) 4 [(2, .arr 1 (rT (.own 3 q0.length 0 q0.length) Q0 T Q0.length)), (3, .arr 1 (oF (cI .i64) (castL q0)))] := by
  have hTl := lt_of_get hT
  have hUa : ∀ j i, ((rT (.own 3 q0.length 0 q0.length) Q0 j i).all fun r => r.all fun x => LV.under 4 x) = true := fun j i => rT_und rfl
  have hUb : ∀ j i, ((rT (.own 3 q0.length 0 q0.length) Q0 j i).all fun r => r.all fun x => LV.under 5 x) = true := fun j i => rT_und rfl
  have hDa : ∀ j i, ((dT j q0 i).all fun r => r.all fun x => LV.under 4 x) = true := fun j i => dT_und
  have g := c.b
  have r := c.r
  have hc := okB_yes g
  have hm : n.length ≤ maxLen ∧ 1 * n.length ≤ 281474976710656 := by have := g.1; simp only [maxLen]; omega
  have hz := metB_nil n.length
  have m1 : n.length ≤ maxLen := hm.1
  have m2 : n.length ≤ 281474976710656 := by have := hm.2; omega
  have hlQ : h.length = Q0.length := r.lh
  (refine LCalls.enter Try.func29 rfl (by simp [Try.ntmps29]) (LK.start ?_); simp only [Try.ntmps29, enterA])
  (repeat' first | refine LOps.done ?_ | (apply LOps.mv; (focus (first | exact Goes.free | exact Goes.on rfl rfl (by with_reducible rfl) true (by decide))); (focus (exact rfl)); (focus (exact rfl))) | (apply LOps.asg; (focus (first | exact Goes.free | exact Goes.on rfl rfl (by with_reducible rfl) true (by decide))); (focus (exact rfl)); (focus (exact rfl))) | (apply LOps.loc; (focus (first | exact Goes.free | exact Goes.on rfl rfl (by with_reducible rfl) true (by decide))); (focus (exact rfl)); (focus (exact rfl)); (focus (simp only [go_sem, ↓reduceIte, Nat.reduceEqDiff, Nat.reduceLT, Nat.reduceAdd]; with_reducible rfl))) | (apply LOps.pass; (focus (first | exact Goes.on rfl rfl (by with_reducible rfl) false (by decide) | exact Goes.undef rfl rfl (by with_reducible rfl))); (focus (exact rfl))) | (apply LOps.scEnd; (focus (exact rfl)); (focus (with_reducible rfl))) | refine LK.seq ?_ | refine LK.regc ?_ | (apply LOps.or2; exact rfl; exact rfl; exact rfl; exact rfl; exact rfl; (focus (with_reducible rfl)); (focus (first | kernel_rfl | rfl))) | refine Under.mk (fun hg => ?_) | fail)
  refine LK.condF2 rfl (by first | with_reducible rfl | rfl) (hc) ?_
  (repeat' first | refine LOps.done ?_ | (apply LOps.mv; (focus (first | exact Goes.free | exact Goes.on rfl rfl (by with_reducible rfl) true (by decide))); (focus (exact rfl)); (focus (exact rfl))) | (apply LOps.asg; (focus (first | exact Goes.free | exact Goes.on rfl rfl (by with_reducible rfl) true (by decide))); (focus (exact rfl)); (focus (exact rfl))) | (apply LOps.loc; (focus (first | exact Goes.free | exact Goes.on rfl rfl (by with_reducible rfl) true (by decide))); (focus (exact rfl)); (focus (exact rfl)); (focus (simp only [go_sem, ↓reduceIte, reduceCtorEq, Nat.reduceLT, Nat.reduceAdd, m1, m2, hz, Nat.one_mul]; with_reducible rfl))) | refine LK.seq ?_ | refine LK.skip ?_ | refine LK.block ?_ | refine LK.regc ?_ | fail)
  refine LK.own0 6 1 (by simp only [upd, go_sem, ↓reduceIte, Nat.reduceEqDiff, reduceCtorEq]; rfl) rfl ?_
  refine LK.own0 2 1 (by simp only [upd, go_sem, ↓reduceIte, Nat.reduceEqDiff, reduceCtorEq, Nat.reduceAdd]; rfl) rfl ?_
  refine LK.loop (fun i : Nat => h.length - i) (fun i => i ≤ h.length) (fun i => ⟨108, [(1, .ptr 0 1 0 0), (4, vi n.length), (5, .own 1 n.length 0 n.length), (6, .own 2 i 0 i), (42, sI h), (43, vi h.length), (44, vi i)]⟩) (fun i => [(3, .arr 1 (dT T q0 i)), (2, .arr 1 (rT (.own 3 q0.length 0 q0.length) Q0 T i)), (1, .arr 1 (oF cB (metB n.length (Q0.take i).flatten))), (0, .arr 3 [[sI n, sI h, sI t]])]) 0 (Nat.zero_le _) (Sub.by rfl rfl (by first | rfl | (simp only [subB, oF_all_under, LV.under, LO.under, List.all_cons, List.all_nil, decide_true, Nat.reduceLT, Nat.reduceAdd, Bool.and_self, hUa, hDa]; done))) ?_
  rintro i hi J hJ
  rcases Nat.lt_or_ge i h.length with hlt | hge
  · rcases Nat.lt_trichotomy i T with hcmp | hcmp | hcmp
    · obtain ⟨q, hq⟩ := idx_all (show i < Q0.length by omega)
      obtain ⟨a, b, ha, hb, hpq, hbl⟩ := rep_head r hq
      have hRi : rT (.own 3 q0.length 0 q0.length) Q0 T i = oF cS (Q0.take i) := rT_le (by omega)
      simp only [hRi]
      have hDi : dT T q0 i = [] := dT_no (by omega)
      simp only [hDi]
      have h1 : ((i : Int) < (h.length : Int)) := by omega
      have h1t : ((i : Int) < (t.length : Int)) := by have := g.2.2.2; omega
      have hw := wrapn (n := i) (by have := g.2.2.1; omega)
      have hi256 : i ≤ 256 := by have := g.2.2.1; omega
      have hcut := nodup_cut r.nodup hq
      have hle := r.le hq
      have htl : (Q0.take i).length = i := by rw [List.length_take]; omega
      (repeat' first | refine LOps.done ?_ | (apply LOps.mv; (focus (first | exact Goes.free | exact Goes.on rfl rfl (by with_reducible rfl) true (by decide))); (focus (exact rfl)); (focus (exact rfl))) | (apply LOps.asg; (focus (first | exact Goes.free | exact Goes.on rfl rfl (by with_reducible rfl) true (by decide))); (focus (exact rfl)); (focus (exact rfl))) | (apply LOps.loc; (focus (first | exact Goes.free | exact Goes.on rfl rfl (by with_reducible rfl) true (by decide))); (focus (exact rfl)); (focus (exact rfl)); (focus (simp only [go_sem, ↓reduceIte, Nat.reduceEqDiff, Nat.reduceLT, Nat.reduceAdd, h1, ha]; with_reducible rfl))) | refine LK.seq ?_ | refine LK.skip ?_ | refine LK.block ?_ | (apply LK.condT2; (focus (exact rfl)); (focus (with_reducible rfl)); (focus (first | with_reducible rfl | decide | (with_reducible exact Bool.true_or _) | (with_reducible exact congrArg (fun b => b || _) (Bool.true_or _))))) | refine LK.regc ?_ | fail)
      refine LK.own0 9 1 (by simp only [upd, go_sem, ↓reduceIte, Nat.reduceEqDiff, reduceCtorEq]; rfl) rfl ?_
      refine LK.loop (fun s : List Nat × Int => n.length + 1 - s.1.length) (fun s => pathTo n a s.1 s.2) (fun s => ⟨108, [(1, .ptr 0 1 0 0), (4, vi n.length), (5, .own 1 n.length 0 n.length), (6, .own 2 i 0 i), (7, vi i), (8, vi s.2), (9, .own 4 s.1.length 0 s.1.length), (10, vi (lastI s.1)), (42, sI h), (43, vi h.length), (44, vi i)]⟩) (fun s => [(4, .arr 1 (oF (cI .i64) (castL s.1))), (3, .arr 1 []), (2, .arr 1 (oF cS (Q0.take i))), (1, .arr 1 (oF cB (metB n.length ((Q0.take i).flatten ++ s.1)))), (0, .arr 3 [[sI n, sI h, sI t]])]) ([], a) rfl (by dsimp only; rw [List.append_nil]; exact (Sub.by rfl rfl (by first | rfl | (simp only [subB, oF_all_under, LV.under, LO.under, List.all_cons, List.all_nil, decide_true, Nat.reduceLT, Nat.reduceAdd, Bool.and_self]; done)))) ?_
      rintro ⟨p, d⟩ hp J2 hJ2
      simp only at hp
      obtain ⟨rest, e, hr⟩ := pathTo_split hp hpq
      have hpl : p.length + rest.length = q.length := by rw [e, List.length_append]
      cases rest with
      | cons x rest =>
        obtain ⟨rfl, y, hy, hr2⟩ := hr
        have hx := lt_of_get hy
        have r0 : ((x : Int) != -1) = true := by rw [bne_iff_ne]; omega
        have r2 : ¬ ((x : Int) < 0) := by omega
        have r3 : ¬ ((x : Int) ≥ (n.length : Int)) := by omega
        have r4 : ((x : Int) < (n.length : Int)) := by omega
        have hmg := metB_get (S := (Q0.take i).flatten ++ p) hx
        have hml := metB_len n.length ((Q0.take i).flatten ++ p)
        have hmet : x ∉ (Q0.take i).flatten ++ p := by
          intro hm
          rcases List.mem_append.1 hm with hm | hm
          · exact hcut.2.2.1 x (by rw [e]; simp) hm
          · have hd := hcut.2.1
            rw [e] at hd
            exact (List.nodup_append.1 hd).2.2 x hm x (by simp) rfl
        have hdm : decide (x ∈ (Q0.take i).flatten ++ p) = false := decide_eq_false hmet
        rw [hdm] at hmg
        have hms := metB_set n.length ((Q0.take i).flatten ++ p) x
        rw [List.append_assoc] at hms
        have hcs := castL_snoc p x
        have hcl := castL_len p
        have hmm : p.length + 1 ≤ maxLen ∧ (p.length + 1) * 8 ≤ 140737488355328 := by have := g.1; have := hle.1; simp only [maxLen]; omega
        (repeat' first | refine LOps.done ?_ | (apply LOps.mv; (focus (first | exact Goes.free | exact Goes.on rfl rfl (by with_reducible rfl) true (by decide))); (focus (exact rfl)); (focus (exact rfl))) | (apply LOps.asg; (focus (first | exact Goes.free | exact Goes.on rfl rfl (by with_reducible rfl) true (by decide))); (focus (exact rfl)); (focus (exact rfl))) | (apply LOps.loc; (focus (first | exact Goes.free | exact Goes.on rfl rfl (by with_reducible rfl) true (by decide))); (focus (exact rfl)); (focus (exact rfl)); (focus (simp only [go_sem, ↓reduceIte, Nat.reduceEqDiff, reduceCtorEq, Nat.reduceLT, Nat.reduceAdd, Nat.reduceLeDiff, r0, r2, r3, r4, hy, hmg, hml, hcs, hcl, hmm]; with_reducible rfl))) | (apply LOps.loc0; (focus (first | exact Goes.free | exact Goes.on rfl rfl (by with_reducible rfl) true (by decide))); (focus (exact rfl)); (focus (simp only [go_sem, ↓reduceIte, Nat.reduceEqDiff, Nat.reduceLT, hmg, hml, hms]; with_reducible rfl))) | refine LK.seq ?_ | refine LK.skip ?_ | refine LK.block ?_ | refine LK.blk ?_ | refine LK.fin ?_ | (apply LK.condT2; (focus (exact rfl)); (focus (with_reducible rfl)); (focus (first | with_reducible rfl | decide | (with_reducible exact Bool.true_or _) | (with_reducible exact congrArg (fun b => b || _) (Bool.true_or _))))) | (apply LK.condF2; (focus (exact rfl)); (focus (with_reducible rfl)); (focus (first | with_reducible rfl | decide | (with_reducible exact Bool.false_and _) | (with_reducible exact congrArg (fun b => b && _) (Bool.false_and _))))) | refine LK.regc ?_ | fail)
        apply hJ2
        refine ⟨(p ++ [x], y), pathTo_snoc hp rfl hy, ?_, ?_⟩
        · have := hle.1; simp only [List.length_append, List.length_singleton]; simp only [List.length_cons] at hpl; omega
        · simp only [lastI_snoc, List.length_append, List.length_singleton]; exact (Sub.by rfl rfl (by first | rfl | (simp only [subB, oF_all_under, LV.under, LO.under, List.all_cons, List.all_nil, decide_true, Nat.reduceLT, Nat.reduceAdd, Bool.and_self]; done)))
      | nil =>
        obtain rfl : d = -1 := hr
        rw [List.append_nil] at e
        subst e
        have r0 : ((-1 : Int) != -1) = false := rfl
        have hcl := castL_len q
        have hct : (castL q).take q.length = castL q := List.take_of_length_le (by omega)
        (repeat' first | refine LOps.done ?_ | (apply LOps.mv; (focus (first | exact Goes.free | exact Goes.on rfl rfl (by with_reducible rfl) true (by decide))); (focus (exact rfl)); (focus (exact rfl))) | (apply LOps.loc; (focus (first | exact Goes.free | exact Goes.on rfl rfl (by with_reducible rfl) true (by decide))); (focus (exact rfl)); (focus (exact rfl)); (focus (simp only [go_sem, ↓reduceIte, Nat.reduceEqDiff, reduceCtorEq, Nat.reduceLT, Nat.reduceAdd, r0, h1t, hb]; with_reducible rfl))) | refine LK.seq ?_ | refine LK.exit' rfl ?_ | (apply LK.condF2; (focus (exact rfl)); (focus (with_reducible rfl)); (focus (first | with_reducible rfl | decide | (with_reducible exact Bool.false_and _) | (with_reducible exact congrArg (fun b => b && _) (Bool.false_and _))))) | refine LK.regc ?_ | fail)
        have e3 : (b != lastI q) = false := by simpa using hbl
        refine LK.condF2 rfl (by first | with_reducible rfl | rfl) (e3) ?_
        have hF : frzT ⟨5, [(4, .arr 1 (oF (cI .i64) (castL q))), (3, .arr 1 []), (2, .arr 1 (oF cS (Q0.take i))), (1, .arr 1 (oF cB (metB n.length ((Q0.take i).flatten ++ q)))), (0, .arr 3 [[sI n, sI h, sI t]])]⟩ 4 [(9, .own 4 q.length 0 q.length)] = [(9, .pv (.ro .any 1 (rF (cI .i64) (castL q))))] := by
          simp only [go_sem, ↓reduceIte, hcl, hct]
        refine LK.freeze 4 [9] rfl (by first | (rw [hF]; done) | (rw [hF]; rfl)) (by first | (simp only [go_sem, ↓reduceIte, Nat.reduceEqDiff, reduceCtorEq]; done) | (simp only [go_sem, ↓reduceIte, Nat.reduceEqDiff, reduceCtorEq]; exact rfl)) ?_
        have htk : Q0.take i ++ [q] = Q0.take (i + 1) := by rw [List.take_add_one, hq]; rfl
        have hcs := cS_snoc (Q0.take i) q
        rw [htk] at hcs
        have hmm : i + 1 ≤ maxLen ∧ (i + 1) * 24 ≤ 140737488355328 := by simp only [maxLen]; omega
        have hfl : (Q0.take i).flatten ++ q = (Q0.take (i + 1)).flatten := by rw [← htk]; simp
        (repeat' first | refine LOps.done ?_ | (apply LOps.mv; (focus (first | exact Goes.free | exact Goes.on rfl rfl (by with_reducible rfl) true (by decide))); (focus (exact rfl)); (focus (exact rfl))) | (apply LOps.asg; (focus (first | exact Goes.free | exact Goes.on rfl rfl (by with_reducible rfl) true (by decide))); (focus (exact rfl)); (focus (exact rfl))) | (apply LOps.loc; (focus (first | exact Goes.free | exact Goes.on rfl rfl (by with_reducible rfl) true (by decide))); (focus (exact rfl)); (focus (exact rfl)); (focus (simp only [go_sem, ↓reduceIte, Nat.reduceEqDiff, reduceCtorEq, Nat.reduceLT, Nat.reduceAdd, Nat.reduceLeDiff, hcs, hmm, hw, htl]; with_reducible rfl))) | refine LK.skip ?_ | refine LK.blk ?_ | refine LK.fin ?_ | refine LK.regc ?_ | fail)
        apply hJ
        refine ⟨i + 1, hlt, by omega, ?_⟩
        simp only [← hfl]
        have hRn : rT (.own 3 q0.length 0 q0.length) Q0 T (i + 1) = oF cS (Q0.take (i + 1)) := rT_le (by omega)
        simp only [hRn]
        have hDn : dT T q0 (i + 1) = [] := dT_no (by omega)
        simp only [hDn]
        exact (Sub.by rfl rfl (by first | rfl | (simp only [subB, oF_all_under, LV.under, LO.under, List.all_cons, List.all_nil, decide_true, Nat.reduceLT, Nat.reduceAdd, Bool.and_self]; done)))
    · subst hcmp
      obtain ⟨q, hq⟩ := idx_all (show i < Q0.length by omega)
      obtain ⟨a, b, ha, hb, hpq, hbl⟩ := rep_head r hq
      have hRi : rT (.own 3 q0.length 0 q0.length) Q0 i i = oF cS (Q0.take i) := rT_le (by omega)
      simp only [hRi]
      have hDi : dT i q0 i = [] := dT_no (by omega)
      simp only [hDi]
      have h1 : ((i : Int) < (h.length : Int)) := by omega
      have h1t : ((i : Int) < (t.length : Int)) := by have := g.2.2.2; omega
      have hw := wrapn (n := i) (by have := g.2.2.1; omega)
      have hi256 : i ≤ 256 := by have := g.2.2.1; omega
      have hcut := nodup_cut r.nodup hq
      have hle := r.le hq
      have htl : (Q0.take i).length = i := by rw [List.length_take]; omega
      (repeat' first | refine LOps.done ?_ | (apply LOps.mv; (focus (first | exact Goes.free | exact Goes.on rfl rfl (by with_reducible rfl) true (by decide))); (focus (exact rfl)); (focus (exact rfl))) | (apply LOps.asg; (focus (first | exact Goes.free | exact Goes.on rfl rfl (by with_reducible rfl) true (by decide))); (focus (exact rfl)); (focus (exact rfl))) | (apply LOps.loc; (focus (first | exact Goes.free | exact Goes.on rfl rfl (by with_reducible rfl) true (by decide))); (focus (exact rfl)); (focus (exact rfl)); (focus (simp only [go_sem, ↓reduceIte, Nat.reduceEqDiff, Nat.reduceLT, Nat.reduceAdd, h1, ha]; with_reducible rfl))) | refine LK.seq ?_ | refine LK.skip ?_ | refine LK.block ?_ | (apply LK.condT2; (focus (exact rfl)); (focus (with_reducible rfl)); (focus (first | with_reducible rfl | decide | (with_reducible exact Bool.true_or _) | (with_reducible exact congrArg (fun b => b || _) (Bool.true_or _))))) | refine LK.regc ?_ | fail)
      refine LK.own0 9 1 (by simp only [upd, go_sem, ↓reduceIte, Nat.reduceEqDiff, reduceCtorEq]; rfl) rfl ?_
      refine LK.loop (fun s : List Nat × Int => n.length + 1 - s.1.length) (fun s => pathTo n a s.1 s.2) (fun s => ⟨108, [(1, .ptr 0 1 0 0), (4, vi n.length), (5, .own 1 n.length 0 n.length), (6, .own 2 i 0 i), (7, vi i), (8, vi s.2), (9, .own 4 s.1.length 0 s.1.length), (10, vi (lastI s.1)), (42, sI h), (43, vi h.length), (44, vi i)]⟩) (fun s => [(4, .arr 1 (oF (cI .i64) (castL s.1))), (3, .arr 1 []), (2, .arr 1 (oF cS (Q0.take i))), (1, .arr 1 (oF cB (metB n.length ((Q0.take i).flatten ++ s.1)))), (0, .arr 3 [[sI n, sI h, sI t]])]) ([], a) rfl (by dsimp only; rw [List.append_nil]; exact (Sub.by rfl rfl (by first | rfl | (simp only [subB, oF_all_under, LV.under, LO.under, List.all_cons, List.all_nil, decide_true, Nat.reduceLT, Nat.reduceAdd, Bool.and_self]; done)))) ?_
      rintro ⟨p, d⟩ hp J2 hJ2
      simp only at hp
      obtain ⟨rest, e, hr⟩ := pathTo_split hp hpq
      have hpl : p.length + rest.length = q.length := by rw [e, List.length_append]
      cases rest with
      | cons x rest =>
        obtain ⟨rfl, y, hy, hr2⟩ := hr
        have hx := lt_of_get hy
        have r0 : ((x : Int) != -1) = true := by rw [bne_iff_ne]; omega
        have r2 : ¬ ((x : Int) < 0) := by omega
        have r3 : ¬ ((x : Int) ≥ (n.length : Int)) := by omega
        have r4 : ((x : Int) < (n.length : Int)) := by omega
        have hmg := metB_get (S := (Q0.take i).flatten ++ p) hx
        have hml := metB_len n.length ((Q0.take i).flatten ++ p)
        have hmet : x ∉ (Q0.take i).flatten ++ p := by
          intro hm
          rcases List.mem_append.1 hm with hm | hm
          · exact hcut.2.2.1 x (by rw [e]; simp) hm
          · have hd := hcut.2.1
            rw [e] at hd
            exact (List.nodup_append.1 hd).2.2 x hm x (by simp) rfl
        have hdm : decide (x ∈ (Q0.take i).flatten ++ p) = false := decide_eq_false hmet
        rw [hdm] at hmg
        have hms := metB_set n.length ((Q0.take i).flatten ++ p) x
        rw [List.append_assoc] at hms
        have hcs := castL_snoc p x
        have hcl := castL_len p
        have hmm : p.length + 1 ≤ maxLen ∧ (p.length + 1) * 8 ≤ 140737488355328 := by have := g.1; have := hle.1; simp only [maxLen]; omega
        (repeat' first | refine LOps.done ?_ | (apply LOps.mv; (focus (first | exact Goes.free | exact Goes.on rfl rfl (by with_reducible rfl) true (by decide))); (focus (exact rfl)); (focus (exact rfl))) | (apply LOps.asg; (focus (first | exact Goes.free | exact Goes.on rfl rfl (by with_reducible rfl) true (by decide))); (focus (exact rfl)); (focus (exact rfl))) | (apply LOps.loc; (focus (first | exact Goes.free | exact Goes.on rfl rfl (by with_reducible rfl) true (by decide))); (focus (exact rfl)); (focus (exact rfl)); (focus (simp only [go_sem, ↓reduceIte, Nat.reduceEqDiff, reduceCtorEq, Nat.reduceLT, Nat.reduceAdd, Nat.reduceLeDiff, r0, r2, r3, r4, hy, hmg, hml, hcs, hcl, hmm]; with_reducible rfl))) | (apply LOps.loc0; (focus (first | exact Goes.free | exact Goes.on rfl rfl (by with_reducible rfl) true (by decide))); (focus (exact rfl)); (focus (simp only [go_sem, ↓reduceIte, Nat.reduceEqDiff, Nat.reduceLT, hmg, hml, hms]; with_reducible rfl))) | refine LK.seq ?_ | refine LK.skip ?_ | refine LK.block ?_ | refine LK.blk ?_ | refine LK.fin ?_ | (apply LK.condT2; (focus (exact rfl)); (focus (with_reducible rfl)); (focus (first | with_reducible rfl | decide | (with_reducible exact Bool.true_or _) | (with_reducible exact congrArg (fun b => b || _) (Bool.true_or _))))) | (apply LK.condF2; (focus (exact rfl)); (focus (with_reducible rfl)); (focus (first | with_reducible rfl | decide | (with_reducible exact Bool.false_and _) | (with_reducible exact congrArg (fun b => b && _) (Bool.false_and _))))) | refine LK.regc ?_ | fail)
        apply hJ2
        refine ⟨(p ++ [x], y), pathTo_snoc hp rfl hy, ?_, ?_⟩
        · have := hle.1; simp only [List.length_append, List.length_singleton]; simp only [List.length_cons] at hpl; omega
        · simp only [lastI_snoc, List.length_append, List.length_singleton]; exact (Sub.by rfl rfl (by first | rfl | (simp only [subB, oF_all_under, LV.under, LO.under, List.all_cons, List.all_nil, decide_true, Nat.reduceLT, Nat.reduceAdd, Bool.and_self]; done)))
      | nil =>
        obtain rfl : d = -1 := hr
        rw [List.append_nil] at e
        subst e
        have r0 : ((-1 : Int) != -1) = false := rfl
        have hcl := castL_len q
        have hct : (castL q).take q.length = castL q := List.take_of_length_le (by omega)
        (repeat' first | refine LOps.done ?_ | (apply LOps.mv; (focus (first | exact Goes.free | exact Goes.on rfl rfl (by with_reducible rfl) true (by decide))); (focus (exact rfl)); (focus (exact rfl))) | (apply LOps.loc; (focus (first | exact Goes.free | exact Goes.on rfl rfl (by with_reducible rfl) true (by decide))); (focus (exact rfl)); (focus (exact rfl)); (focus (simp only [go_sem, ↓reduceIte, Nat.reduceEqDiff, reduceCtorEq, Nat.reduceLT, Nat.reduceAdd, r0, h1t, hb]; with_reducible rfl))) | refine LK.seq ?_ | refine LK.exit' rfl ?_ | (apply LK.condF2; (focus (exact rfl)); (focus (with_reducible rfl)); (focus (first | with_reducible rfl | decide | (with_reducible exact Bool.false_and _) | (with_reducible exact congrArg (fun b => b && _) (Bool.false_and _))))) | refine LK.regc ?_ | fail)
        have e3 : (b != lastI q) = false := by simpa using hbl
        refine LK.condF2 rfl (by first | with_reducible rfl | rfl) (e3) ?_
        have hql : q = q0 := by rw [hT] at hq; exact (Option.some.inj hq).symm
        subst hql
        refine LK.move 4 3 9 1 1 q.length 0 q.length (by decide) rfl rfl (by rw [oF_len, hcl]; exact List.length_pos_iff.2 hne) rfl (by simp only [upd, del, go_sem, ↓reduceIte, Nat.reduceEqDiff, reduceCtorEq]; rfl) ?_
        have htk : Q0.take i ++ [q] = Q0.take (i + 1) := by rw [List.take_add_one, hq]; rfl
        have hcs := rT_at (.own 3 q.length 0 q.length) Q0 i hTl
        rw [hRi] at hcs
        have hmm : i + 1 ≤ maxLen ∧ (i + 1) * 24 ≤ 140737488355328 := by simp only [maxLen]; omega
        have hfl : (Q0.take i).flatten ++ q = (Q0.take (i + 1)).flatten := by rw [← htk]; simp
        (repeat' first | refine LOps.done ?_ | (apply LOps.mv; (focus (first | exact Goes.free | exact Goes.on rfl rfl (by with_reducible rfl) true (by decide))); (focus (exact rfl)); (focus (exact rfl))) | (apply LOps.asg; (focus (first | exact Goes.free | exact Goes.on rfl rfl (by with_reducible rfl) true (by decide))); (focus (exact rfl)); (focus (exact rfl))) | (apply LOps.loc; (focus (first | exact Goes.free | exact Goes.on rfl rfl (by with_reducible rfl) true (by decide))); (focus (exact rfl)); (focus (exact rfl)); (focus (simp only [go_sem, ↓reduceIte, Nat.reduceEqDiff, reduceCtorEq, Nat.reduceLT, Nat.reduceAdd, Nat.reduceLeDiff, hcs, hmm, hw, htl]; with_reducible rfl))) | refine LK.skip ?_ | refine LK.blk ?_ | refine LK.fin ?_ | refine LK.regc ?_ | fail)
        apply hJ
        refine ⟨i + 1, hlt, by omega, ?_⟩
        simp only [← hfl]
        have hDn : dT i q (i + 1) = oF (cI .i64) (castL q) := dT_yes (by omega)
        simp only [hDn]
        exact (Sub.by rfl rfl (by first | rfl | (simp only [subB, oF_all_under, LV.under, LO.under, List.all_cons, List.all_nil, decide_true, Nat.reduceLT, Nat.reduceAdd, Bool.and_self, hUa]; done)))
    · obtain ⟨q, hq⟩ := idx_all (show i < Q0.length by omega)
      obtain ⟨a, b, ha, hb, hpq, hbl⟩ := rep_head r hq
      have htl0 : (rT (.own 3 q0.length 0 q0.length) Q0 T i).length = i := rT_len (by omega) hTl
      have hfz : ∀ σ, (rT (.own 3 q0.length 0 q0.length) Q0 T i).map (fun r => r.map (frzAt σ 4)) = rT (.own 3 q0.length 0 q0.length) Q0 T i := fun σ => rT_frz σ (by simp [frzAt])
      have hDi : dT T q0 i = oF (cI .i64) (castL q0) := dT_yes (by omega)
      simp only [hDi]
      have h1 : ((i : Int) < (h.length : Int)) := by omega
      have h1t : ((i : Int) < (t.length : Int)) := by have := g.2.2.2; omega
      have hw := wrapn (n := i) (by have := g.2.2.1; omega)
      have hi256 : i ≤ 256 := by have := g.2.2.1; omega
      have hcut := nodup_cut r.nodup hq
      have hle := r.le hq
      have htl : (Q0.take i).length = i := by rw [List.length_take]; omega
      (repeat' first | refine LOps.done ?_ | (apply LOps.mv; (focus (first | exact Goes.free | exact Goes.on rfl rfl (by with_reducible rfl) true (by decide))); (focus (exact rfl)); (focus (exact rfl))) | (apply LOps.asg; (focus (first | exact Goes.free | exact Goes.on rfl rfl (by with_reducible rfl) true (by decide))); (focus (exact rfl)); (focus (exact rfl))) | (apply LOps.loc; (focus (first | exact Goes.free | exact Goes.on rfl rfl (by with_reducible rfl) true (by decide))); (focus (exact rfl)); (focus (exact rfl)); (focus (simp only [go_sem, ↓reduceIte, Nat.reduceEqDiff, Nat.reduceLT, Nat.reduceAdd, h1, ha]; with_reducible rfl))) | refine LK.seq ?_ | refine LK.skip ?_ | refine LK.block ?_ | (apply LK.condT2; (focus (exact rfl)); (focus (with_reducible rfl)); (focus (first | with_reducible rfl | decide | (with_reducible exact Bool.true_or _) | (with_reducible exact congrArg (fun b => b || _) (Bool.true_or _))))) | refine LK.regc ?_ | fail)
      refine LK.own0 9 1 (by simp only [upd, go_sem, ↓reduceIte, Nat.reduceEqDiff, reduceCtorEq]; rfl) rfl ?_
      refine LK.loop (fun s : List Nat × Int => n.length + 1 - s.1.length) (fun s => pathTo n a s.1 s.2) (fun s => ⟨108, [(1, .ptr 0 1 0 0), (4, vi n.length), (5, .own 1 n.length 0 n.length), (6, .own 2 i 0 i), (7, vi i), (8, vi s.2), (9, .own 4 s.1.length 0 s.1.length), (10, vi (lastI s.1)), (42, sI h), (43, vi h.length), (44, vi i)]⟩) (fun s => [(4, .arr 1 (oF (cI .i64) (castL s.1))), (3, .arr 1 (oF (cI .i64) (castL q0))), (2, .arr 1 (rT (.own 3 q0.length 0 q0.length) Q0 T i)), (1, .arr 1 (oF cB (metB n.length ((Q0.take i).flatten ++ s.1)))), (0, .arr 3 [[sI n, sI h, sI t]])]) ([], a) rfl (by dsimp only; rw [List.append_nil]; exact (Sub.by rfl rfl (by first | rfl | (simp only [subB, oF_all_under, LV.under, LO.under, List.all_cons, List.all_nil, decide_true, Nat.reduceLT, Nat.reduceAdd, Bool.and_self, hUb]; done)))) ?_
      rintro ⟨p, d⟩ hp J2 hJ2
      simp only at hp
      obtain ⟨rest, e, hr⟩ := pathTo_split hp hpq
      have hpl : p.length + rest.length = q.length := by rw [e, List.length_append]
      cases rest with
      | cons x rest =>
        obtain ⟨rfl, y, hy, hr2⟩ := hr
        have hx := lt_of_get hy
        have r0 : ((x : Int) != -1) = true := by rw [bne_iff_ne]; omega
        have r2 : ¬ ((x : Int) < 0) := by omega
        have r3 : ¬ ((x : Int) ≥ (n.length : Int)) := by omega
        have r4 : ((x : Int) < (n.length : Int)) := by omega
        have hmg := metB_get (S := (Q0.take i).flatten ++ p) hx
        have hml := metB_len n.length ((Q0.take i).flatten ++ p)
        have hmet : x ∉ (Q0.take i).flatten ++ p := by
          intro hm
          rcases List.mem_append.1 hm with hm | hm
          · exact hcut.2.2.1 x (by rw [e]; simp) hm
          · have hd := hcut.2.1
            rw [e] at hd
            exact (List.nodup_append.1 hd).2.2 x hm x (by simp) rfl
        have hdm : decide (x ∈ (Q0.take i).flatten ++ p) = false := decide_eq_false hmet
        rw [hdm] at hmg
        have hms := metB_set n.length ((Q0.take i).flatten ++ p) x
        rw [List.append_assoc] at hms
        have hcs := castL_snoc p x
        have hcl := castL_len p
        have hmm : p.length + 1 ≤ maxLen ∧ (p.length + 1) * 8 ≤ 140737488355328 := by have := g.1; have := hle.1; simp only [maxLen]; omega
        (repeat' first | refine LOps.done ?_ | (apply LOps.mv; (focus (first | exact Goes.free | exact Goes.on rfl rfl (by with_reducible rfl) true (by decide))); (focus (exact rfl)); (focus (exact rfl))) | (apply LOps.asg; (focus (first | exact Goes.free | exact Goes.on rfl rfl (by with_reducible rfl) true (by decide))); (focus (exact rfl)); (focus (exact rfl))) | (apply LOps.loc; (focus (first | exact Goes.free | exact Goes.on rfl rfl (by with_reducible rfl) true (by decide))); (focus (exact rfl)); (focus (exact rfl)); (focus (simp only [go_sem, ↓reduceIte, Nat.reduceEqDiff, reduceCtorEq, Nat.reduceLT, Nat.reduceAdd, Nat.reduceLeDiff, r0, r2, r3, r4, hy, hmg, hml, hcs, hcl, hmm]; with_reducible rfl))) | (apply LOps.loc0; (focus (first | exact Goes.free | exact Goes.on rfl rfl (by with_reducible rfl) true (by decide))); (focus (exact rfl)); (focus (simp only [go_sem, ↓reduceIte, Nat.reduceEqDiff, Nat.reduceLT, hmg, hml, hms]; with_reducible rfl))) | refine LK.seq ?_ | refine LK.skip ?_ | refine LK.block ?_ | refine LK.blk ?_ | refine LK.fin ?_ | (apply LK.condT2; (focus (exact rfl)); (focus (with_reducible rfl)); (focus (first | with_reducible rfl | decide | (with_reducible exact Bool.true_or _) | (with_reducible exact congrArg (fun b => b || _) (Bool.true_or _))))) | (apply LK.condF2; (focus (exact rfl)); (focus (with_reducible rfl)); (focus (first | with_reducible rfl | decide | (with_reducible exact Bool.false_and _) | (with_reducible exact congrArg (fun b => b && _) (Bool.false_and _))))) | refine LK.regc ?_ | fail)
        apply hJ2
        refine ⟨(p ++ [x], y), pathTo_snoc hp rfl hy, ?_, ?_⟩
        · have := hle.1; simp only [List.length_append, List.length_singleton]; simp only [List.length_cons] at hpl; omega
        · simp only [lastI_snoc, List.length_append, List.length_singleton]; exact (Sub.by rfl rfl (by first | rfl | (simp only [subB, oF_all_under, LV.under, LO.under, List.all_cons, List.all_nil, decide_true, Nat.reduceLT, Nat.reduceAdd, Bool.and_self, hUb]; done)))
      | nil =>
        obtain rfl : d = -1 := hr
        rw [List.append_nil] at e
        subst e
        have r0 : ((-1 : Int) != -1) = false := rfl
        have hcl := castL_len q
        have hct : (castL q).take q.length = castL q := List.take_of_length_le (by omega)
        (repeat' first | refine LOps.done ?_ | (apply LOps.mv; (focus (first | exact Goes.free | exact Goes.on rfl rfl (by with_reducible rfl) true (by decide))); (focus (exact rfl)); (focus (exact rfl))) | (apply LOps.loc; (focus (first | exact Goes.free | exact Goes.on rfl rfl (by with_reducible rfl) true (by decide))); (focus (exact rfl)); (focus (exact rfl)); (focus (simp only [go_sem, ↓reduceIte, Nat.reduceEqDiff, reduceCtorEq, Nat.reduceLT, Nat.reduceAdd, r0, h1t, hb]; with_reducible rfl))) | refine LK.seq ?_ | refine LK.exit' rfl ?_ | (apply LK.condF2; (focus (exact rfl)); (focus (with_reducible rfl)); (focus (first | with_reducible rfl | decide | (with_reducible exact Bool.false_and _) | (with_reducible exact congrArg (fun b => b && _) (Bool.false_and _))))) | refine LK.regc ?_ | fail)
        have e3 : (b != lastI q) = false := by simpa using hbl
        refine LK.condF2 rfl (by first | with_reducible rfl | rfl) (e3) ?_
        have hF : frzT ⟨5, [(4, .arr 1 (oF (cI .i64) (castL q))), (3, .arr 1 (oF (cI .i64) (castL q0))), (2, .arr 1 (rT (.own 3 q0.length 0 q0.length) Q0 T i)), (1, .arr 1 (oF cB (metB n.length ((Q0.take i).flatten ++ q)))), (0, .arr 3 [[sI n, sI h, sI t]])]⟩ 4 [(9, .own 4 q.length 0 q.length)] = [(9, .pv (.ro .any 1 (rF (cI .i64) (castL q))))] := by
          simp only [go_sem, ↓reduceIte, hcl, hct]
        refine LK.freeze 4 [9] rfl (by first | (rw [hF]; done) | (rw [hF]; rfl)) (by first | (simp only [go_sem, ↓reduceIte, Nat.reduceEqDiff, reduceCtorEq, hfz]; done) | (simp only [go_sem, ↓reduceIte, Nat.reduceEqDiff, reduceCtorEq, hfz]; exact rfl)) ?_
        have htk : Q0.take i ++ [q] = Q0.take (i + 1) := by rw [List.take_add_one, hq]; rfl
        have hcs := rT_step (.own 3 q0.length 0 q0.length) (T := T) hq (by omega)
        have hmm : i + 1 ≤ maxLen ∧ (i + 1) * 24 ≤ 140737488355328 := by simp only [maxLen]; omega
        have hfl : (Q0.take i).flatten ++ q = (Q0.take (i + 1)).flatten := by rw [← htk]; simp
        (repeat' first | refine LOps.done ?_ | (apply LOps.mv; (focus (first | exact Goes.free | exact Goes.on rfl rfl (by with_reducible rfl) true (by decide))); (focus (exact rfl)); (focus (exact rfl))) | (apply LOps.asg; (focus (first | exact Goes.free | exact Goes.on rfl rfl (by with_reducible rfl) true (by decide))); (focus (exact rfl)); (focus (exact rfl))) | (apply LOps.loc; (focus (first | exact Goes.free | exact Goes.on rfl rfl (by with_reducible rfl) true (by decide))); (focus (exact rfl)); (focus (exact rfl)); (focus (simp only [go_sem, ↓reduceIte, Nat.reduceEqDiff, reduceCtorEq, Nat.reduceLT, Nat.reduceAdd, Nat.reduceLeDiff, hcs, hmm, hw, htl0]; with_reducible rfl))) | refine LK.skip ?_ | refine LK.blk ?_ | refine LK.fin ?_ | refine LK.regc ?_ | fail)
        apply hJ
        refine ⟨i + 1, hlt, by omega, ?_⟩
        simp only [← hfl]
        have hDn : dT T q0 (i + 1) = oF (cI .i64) (castL q0) := dT_yes (by omega)
        simp only [hDn]
        exact (Sub.by rfl rfl (by first | rfl | (simp only [subB, oF_all_under, LV.under, LO.under, List.all_cons, List.all_nil, decide_true, Nat.reduceLT, Nat.reduceAdd, Bool.and_self, hUa]; done)))
  · have h1 : ¬ ((i : Int) < (h.length : Int)) := by omega
    obtain rfl : i = h.length := by omega
    have hQt : Q0.take h.length = Q0 := List.take_of_length_le (by omega)
    rw [hQt]
    have hDi : dT T q0 h.length = oF (cI .i64) (castL q0) := dT_yes (by omega)
    simp only [hDi]
    have hrl : (rT (.own 3 q0.length 0 q0.length) Q0 T h.length).length = h.length := rT_len (by omega) hTl
    have hml := metB_len n.length Q0.flatten
    have hmt : (metB n.length Q0.flatten).take n.length = metB n.length Q0.flatten := List.take_of_length_le (by omega)
    (repeat' first | refine LOps.done ?_ | (apply LOps.mv; (focus (first | exact Goes.free | exact Goes.on rfl rfl (by with_reducible rfl) true (by decide))); (focus (exact rfl)); (focus (exact rfl))) | (apply LOps.loc; (focus (first | exact Goes.free | exact Goes.on rfl rfl (by with_reducible rfl) true (by decide))); (focus (exact rfl)); (focus (exact rfl)); (focus (simp only [go_sem, ↓reduceIte, Nat.reduceEqDiff, Nat.reduceAdd, h1, hml, hmt]; with_reducible rfl))) | refine LK.seq ?_ | refine LK.block ?_ | refine LK.exit' rfl ?_ | (apply LK.condF2; (focus (exact rfl)); (focus (with_reducible rfl)); (focus (first | with_reducible rfl | decide | (with_reducible exact Bool.false_and _) | (with_reducible exact congrArg (fun b => b && _) (Bool.false_and _))))) | refine LK.regc ?_ | fail)
    refine LK.loop (fun k : Nat => n.length - k) (fun k => k ≤ n.length) (fun k => ⟨108, [(1, .ptr 0 1 0 0), (6, .own 2 h.length 0 h.length), (89, .own 1 n.length 0 n.length), (90, vi n.length), (91, vi k)]⟩) (fun _ => [(3, .arr 1 (oF (cI .i64) (castL q0))), (2, .arr 1 (rT (.own 3 q0.length 0 q0.length) Q0 T h.length)), (1, .arr 1 (oF cB (metB n.length Q0.flatten))), (0, .arr 3 [[sI n, sI h, sI t]])]) 0 (Nat.zero_le _) (Sub.by rfl rfl (by first | rfl | (simp only [subB, oF_all_under, LV.under, LO.under, List.all_cons, List.all_nil, decide_true, Nat.reduceLT, Bool.and_self, hUa]; done))) ?_
    rintro k hk J2 hJ2
    rcases Nat.lt_or_ge k n.length with hlt | hge
    · obtain ⟨y, hy⟩ := idx_all hlt
      have r1 : ((k : Int) < (n.length : Int)) := by omega
      have hmg := metB_get (S := Q0.flatten) hlt
      have hw2 := wrapn (n := k) (by have := g.1; omega)
      by_cases hm : k ∈ Q0.flatten
      · have hdm : decide (k ∈ Q0.flatten) = true := decide_eq_true hm
        rw [hdm] at hmg
        (repeat' first | refine LOps.done ?_ | (apply LOps.mv; (focus (first | exact Goes.free | exact Goes.on rfl rfl (by with_reducible rfl) true (by decide))); (focus (exact rfl)); (focus (exact rfl))) | (apply LOps.asg; (focus (first | exact Goes.free | exact Goes.on rfl rfl (by with_reducible rfl) true (by decide))); (focus (exact rfl)); (focus (exact rfl))) | (apply LOps.loc; (focus (first | exact Goes.free | exact Goes.on rfl rfl (by with_reducible rfl) true (by decide))); (focus (exact rfl)); (focus (exact rfl)); (focus (simp only [go_sem, ↓reduceIte, Nat.reduceEqDiff, Nat.reduceLT, r1, hmg, hml, hw2]; with_reducible rfl))) | (apply LOps.pass; (focus (first | exact Goes.on rfl rfl (by with_reducible rfl) false (by decide) | exact Goes.undef rfl rfl (by with_reducible rfl))); (focus (exact rfl))) | refine LK.seq ?_ | refine LK.skip ?_ | refine LK.block ?_ | refine LK.blk ?_ | refine LK.fin ?_ | (apply LK.condT2; (focus (exact rfl)); (focus (with_reducible rfl)); (focus (first | with_reducible rfl | decide | (with_reducible exact Bool.true_or _) | (with_reducible exact congrArg (fun b => b || _) (Bool.true_or _))))) | (apply LK.condF2; (focus (exact rfl)); (focus (with_reducible rfl)); (focus (first | with_reducible rfl | decide | (with_reducible exact Bool.false_and _) | (with_reducible exact congrArg (fun b => b && _) (Bool.false_and _))))) | refine LK.regc ?_ | fail)
        apply hJ2
        exact ⟨k + 1, hlt, by omega, (Sub.by rfl rfl (by first | rfl | (simp only [subB, oF_all_under, LV.under, LO.under, List.all_cons, List.all_nil, decide_true, Nat.reduceLT, Bool.and_self, hUa]; done)))⟩
      · have hdm : decide (k ∈ Q0.flatten) = false := decide_eq_false hm
        rw [hdm] at hmg
        obtain rfl := r.out k y hy hm
        have e3 : ((-2 : Int) != -2) = false := rfl
        (repeat' first | refine LOps.done ?_ | (apply LOps.mv; (focus (first | exact Goes.free | exact Goes.on rfl rfl (by with_reducible rfl) true (by decide))); (focus (exact rfl)); (focus (exact rfl))) | (apply LOps.asg; (focus (first | exact Goes.free | exact Goes.on rfl rfl (by with_reducible rfl) true (by decide))); (focus (exact rfl)); (focus (exact rfl))) | (apply LOps.loc; (focus (first | exact Goes.free | exact Goes.on rfl rfl (by with_reducible rfl) true (by decide))); (focus (exact rfl)); (focus (exact rfl)); (focus (simp only [go_sem, ↓reduceIte, Nat.reduceEqDiff, reduceCtorEq, Nat.reduceLT, r1, hmg, hml, hy, e3, hw2]; with_reducible rfl))) | refine LK.seq ?_ | refine LK.skip ?_ | refine LK.block ?_ | refine LK.blk ?_ | refine LK.fin ?_ | (apply LK.condT2; (focus (exact rfl)); (focus (with_reducible rfl)); (focus (first | with_reducible rfl | decide | (with_reducible exact Bool.true_or _) | (with_reducible exact congrArg (fun b => b || _) (Bool.true_or _))))) | (apply LK.condF2; (focus (exact rfl)); (focus (with_reducible rfl)); (focus (first | with_reducible rfl | decide | (with_reducible exact Bool.false_and _) | (with_reducible exact congrArg (fun b => b && _) (Bool.false_and _))))) | refine LK.regc ?_ | fail)
        apply hJ2
        exact ⟨k + 1, hlt, by omega, (Sub.by rfl rfl (by first | rfl | (simp only [subB, oF_all_under, LV.under, LO.under, List.all_cons, List.all_nil, decide_true, Nat.reduceLT, Bool.and_self, hUa]; done)))⟩
    · have r1 : ¬ ((k : Int) < (n.length : Int)) := by omega
      rw [← hlQ]
      (repeat' first | refine LOps.done ?_ | (apply LOps.mv; (focus (first | exact Goes.free | exact Goes.on rfl rfl (by with_reducible rfl) true (by decide))); (focus (exact rfl)); (focus (exact rfl))) | (apply LOps.asg; (focus (first | exact Goes.free | exact Goes.on rfl rfl (by with_reducible rfl) true (by decide))); (focus (exact rfl)); (focus (exact rfl))) | (apply LOps.loc; (focus (first | exact Goes.free | exact Goes.on rfl rfl (by with_reducible rfl) true (by decide))); (focus (exact rfl)); (focus (exact rfl)); (focus (simp only [go_sem, ↓reduceIte, Nat.reduceEqDiff, r1]; with_reducible rfl))) | refine LK.seq ?_ | refine LK.ret' ?_ | refine LK.exit' rfl ?_ | (apply LK.condF2; (focus (exact rfl)); (focus (with_reducible rfl)); (focus (first | with_reducible rfl | decide | (with_reducible exact Bool.false_and _) | (with_reducible exact congrArg (fun b => b && _) (Bool.false_and _))))) | refine LK.regc ?_ | (apply retQ; (focus (first | exact lres_one rfl | exact lres_more rfl | (simp only [lres, lresv, Try.results29, go_sem, ↓reduceIte, Nat.reduceEqDiff, reduceCtorEq, Nat.reduceLT, Nat.reduceAdd, Int.reduceBEq, Int.reduceBNe, Int.reduceEq, Int.reduceLE, Int.reduceLT, Int.reduceToNat, Nat.reduceLeDiff, Nat.reduceMul, Nat.reduceSub, r1]; exact rfl)))) | fail)
      exact Own.end (by first | rfl | (simp only [go_sem, ↓reduceIte, Nat.reduceEqDiff, reduceCtorEq, Nat.reduceLT, Nat.reduceAdd, Int.reduceBEq, Int.reduceBNe, Int.reduceEq, Int.reduceLE, Int.reduceLT, Int.reduceToNat, Nat.reduceLeDiff, Nat.reduceMul, Nat.reduceSub])) rfl rfl (by first | exact rfl | (simp only [go_sem, ↓reduceIte, Nat.reduceEqDiff, reduceCtorEq, Nat.reduceLT, Nat.reduceAdd, Int.reduceBEq, Int.reduceBNe, Int.reduceEq, Int.reduceLE, Int.reduceLT, Int.reduceToNat, Nat.reduceLeDiff, Nat.reduceMul, Nat.reduceSub]; exact rfl))
end Go.Proofs.Ytlikcejcdnkncaa
