/- Chapter 06: the law ChainQueues. -/
import Derived.Test.YtlikcejcdnkncaaQ34
set_option linter.unusedSimpArgs false
set_option linter.unusedVariables false
namespace Go.Proofs.Ytlikcejcdnkncaa
open Go.Lw
attribute [local irreducible] LK LOps LW
theorem where_any {n h t : List Int} {Q : List (List Nat)} (c : Ch n h t Q) {x : Nat} (hx : x < n.length) : (x ∉ Q.flatten ∧ Fun Try.prog 15 [cv n h t, vi x] (.tup [vi (-1), vi 0])) ∨ ∃ i p s, Q[i]? = some (p ++ x :: s) ∧ x ∈ Q.flatten ∧ Fun Try.prog 15 [cv n h t, vi x] (.tup [vi (i : Nat), vi 0]) := by
  by_cases hm : x ∈ Q.flatten
  · obtain ⟨i, p, s, hs⟩ := mem_at hm
    exact .inr ⟨i, p, s, hs, hm, where_gen n h t x i (lastI p) c.ok hx (find_at c.b c.r ⟨s, hs⟩)⟩
  · exact .inl ⟨hm, where_gen n h t x (-1) (-1) c.ok hx (find_no c.b c.r hm)⟩
theorem becomes_look {n nx N : Nat} {m : List (Nat × LV)} {mo mo2 : List (Nat × LO)} (hle : nx ≤ N) (h : ∀ id o, Lw.look id mo2 = some o → Lw.look id mo = some o) : Becomes ⟨n, m⟩ ⟨nx, mo⟩ ⟨n, m⟩ ⟨N, mo2⟩ := by
  intro E w A h1 h2
  have h3 := h1.less (σ' := ⟨nx, mo2⟩) rfl h
  exact ⟨E, .refl _ _, ⟨h3.fresh, h3.sep, h3.low, h3.flow, fun i hi => Nat.lt_of_lt_of_le (h3.nx i hi) hle, h3.obj⟩, h2⟩
theorem qR_snoc (i : Nat) : qR (List.replicate (i + 1) ([], 0)) = qR (List.replicate i ([], 0)) ++ [[.own (i + 2) 0 0 0]] := by
  rw [List.replicate_succ', qR, List.mapIdx_concat]; simp [qR, qv]
theorem new_becomes {n L : Nat} {m : List (Nat × LV)} {b0 : LO} (hL : L ≤ 5) : Becomes ⟨n, m⟩ ⟨2, [(0, b0), (1, .arr 1 (List.replicate L [.pv (.sc (.slice none 0 0))]))]⟩ ⟨n, m⟩ ⟨10, (0, b0) :: (1, .arr 1 (qR (List.replicate L ([], 0)))) :: qS (List.replicate L ([], 0))⟩ := by
  have key : ∀ i, i ≤ L → Becomes ⟨n, m⟩ ⟨2, [(0, b0), (1, .arr 1 (List.replicate L [.pv (.sc (.slice none 0 0))]))]⟩ ⟨n, m⟩ ⟨2 + i, (0, b0) :: (1, .arr 1 (qR (List.replicate i ([], 0)) ++ List.replicate (L - i) [.pv (.sc (.slice none 0 0))])) :: qS (List.replicate i ([], 0))⟩ := by
    intro i
    induction i with
    | zero => intro _; exact becomes_look (Nat.le_refl _) fun id o h => h
    | succ i ih =>
      intro hi
      have hql : (qR (List.replicate i ([], 0))).length = i := by rw [qR_len, List.length_replicate]
      refine (ih (by omega)).trans ((Becomes.ownRow (id := 1) (sz := 1) (i := i) (rows := qR (List.replicate i ([], 0)) ++ List.replicate (L - i) [.pv (.sc (.slice none 0 0))]) (by omega) rfl ?_).trans (becomes_look (by omega) fun id o h => ?_))
      · rw [List.getElem?_append_right (by omega), hql, Nat.sub_self, List.getElem?_replicate, if_pos (by omega)]
      · have hset : (qR (List.replicate i ([], 0)) ++ List.replicate (L - i) [LV.pv (.sc (.slice none 0 0))]).set i [.own (2 + i) 0 0 0] = qR (List.replicate (i + 1) ([], 0)) ++ List.replicate (L - (i + 1)) [LV.pv (.sc (.slice none 0 0))] := by
          rw [List.set_append_right _ _ (by omega), hql, Nat.sub_self, qR_snoc, show L - i = (L - (i + 1)) + 1 by omega, List.replicate_succ, List.set_cons_zero, List.append_assoc, Nat.add_comm 2 i]; rfl
        rw [hset, look_upd, look_upd]
        have hm := look_mem _ _ _ h
        rcases List.mem_cons.1 hm with e | hm
        · obtain ⟨rfl, rfl⟩ := Prod.mk.inj e
          rw [if_neg (by omega), if_neg (by omega)]; rfl
        rcases List.mem_cons.1 hm with e | hm
        · obtain ⟨rfl, rfl⟩ := Prod.mk.inj e
          rw [if_pos rfl]
        · obtain ⟨j, z, hz, e⟩ := qS_mem.1 hm
          obtain ⟨rfl, rfl⟩ := Prod.mk.inj e
          rw [List.getElem?_replicate] at hz
          split at hz
          case isFalse => cases hz
          obtain rfl := Option.some.inj hz
          rw [if_neg (by omega)]
          by_cases e : j = i
          · rw [if_pos (by omega)]; rfl
          · rw [if_neg (by omega)]
            simp only [Lw.look]
            rw [if_neg (by omega), if_neg (by omega)]
            exact qS_look (z := ([], 0)) (by rw [List.getElem?_replicate, if_pos (by omega)])
  have h := key L (Nat.le_refl _)
  rw [Nat.sub_self, List.replicate_zero, List.append_nil] at h
  exact h.trans (becomes_look (by omega) fun id o h => h)
attribute [local irreducible] qR qS
set_option maxHeartbeats 4000000 in
set_option maxRecDepth 20000 in
theorem queues_ok (N L : Nat) (ops : List OpI) (h1 : 1 ≤ N) (h2 : N ≤ 12) (h3 : 1 ≤ L) (h4 : L ≤ 5) (h5 : ops.length ≤ 80) : Fun Try.prog 7 [vi N, vi L, sOp ops] (vb true) := by
  have hc : (decide ((N : Int) < 1) || decide ((N : Int) > 12) || decide ((L : Int) < 1) || decide ((L : Int) > 5) || decide ((ops.length : Int) > 80)) = false := by simp only [Bool.or_eq_false_iff, decide_eq_false_iff_not]; omega
  have hn := new_yes N L (by omega) h3 (by omega)
  have ntt : (!true) = false := rfl
  (refine LCalls.enter Try.func7 rfl (by simp [Try.ntmps7]) (LK.start ?_); simp only [Try.ntmps7, enterA, Nat.zero_add])
  (repeat' first | refine LOps.done ?_ | (apply LOps.mv; (focus (first | exact Goes.free | exact Goes.on rfl rfl (by with_reducible rfl) true (by decide))); (focus (exact rfl)); (focus (exact rfl))) | (apply LOps.asg; (focus (first | exact Goes.free | exact Goes.on rfl rfl (by with_reducible rfl) true (by decide))); (focus (exact rfl)); (focus (exact rfl))) | (apply LOps.loc; (focus (first | exact Goes.free | exact Goes.on rfl rfl (by with_reducible rfl) true (by decide))); (focus (exact rfl)); (focus (exact rfl)); (focus (simp only [go_sem, ↓reduceIte, Nat.reduceEqDiff, reduceCtorEq, ntt]; with_reducible rfl))) | (apply LOps.pass; (focus (first | exact Goes.on rfl rfl (by with_reducible rfl) false (by decide) | exact Goes.undef rfl rfl (by with_reducible rfl))); (focus (exact rfl))) | (apply LOps.scEnd; (focus (exact rfl)); (focus (with_reducible rfl))) | refine LK.seq ?_ | refine LK.skip ?_ | (apply LK.condF2; (focus (exact rfl)); (focus (with_reducible rfl)); (focus (first | with_reducible rfl | decide | (with_reducible exact Bool.false_and _) | (with_reducible exact congrArg (fun b => b && _) (Bool.false_and _))))) | refine LK.regc ?_ | (apply LOps.locFn; (focus (first | exact Goes.free | exact Goes.on rfl rfl (by with_reducible rfl) true (by decide))); (focus (exact rfl)); (focus (exact rfl)); (focus (simp only [go_sem]; exact rfl)); (focus (simp only [go_sem])); (focus (exact live_fun)); (focus (first | rfl | simp [go_sem])); (focus (first | rfl | simp [go_sem]))) | (apply LOps.or2; exact rfl; exact rfl; exact rfl; exact rfl; exact rfl; (focus (with_reducible rfl)); (focus (first | kernel_rfl | rfl))) | refine Under.mk (fun hg => ?_) | fail)
  refine LK.condF2 rfl (by first | with_reducible rfl | rfl) (hc) ?_
  have hm1 : L ≤ maxLen := by simp only [maxLen]; omega
  have hm2 : L * 24 ≤ 281474976710656 := by omega
  have hm3 : 24 * L ≤ 281474976710656 := by omega
  (repeat' first | refine LOps.done ?_ | (apply LOps.mv; (focus (first | exact Goes.free | exact Goes.on rfl rfl (by with_reducible rfl) true (by decide))); (focus (exact rfl)); (focus (exact rfl))) | (apply LOps.asg; (focus (first | exact Goes.free | exact Goes.on rfl rfl (by with_reducible rfl) true (by decide))); (focus (exact rfl)); (focus (exact rfl))) | (apply LOps.ext; (focus (first | exact Goes.free | exact Goes.on rfl rfl (by with_reducible rfl) true (by decide))); (focus (exact rfl)); (focus (exact rfl)); (focus (exact rfl))) | (apply LOps.loc; (focus (first | exact Goes.free | exact Goes.on rfl rfl (by with_reducible rfl) true (by decide))); (focus (exact rfl)); (focus (exact rfl)); (focus (simp only [go_sem, ↓reduceIte, reduceCtorEq, Nat.reduceLT, Nat.reduceAdd, Int.reduceBNe, hm1, hm3]; with_reducible rfl))) | (apply LOps.loc0; (focus (first | exact Goes.free | exact Goes.on rfl rfl (by with_reducible rfl) true (by decide))); (focus (exact rfl)); (focus (simp only [go_sem, ↓reduceIte, Nat.reduceEqDiff, Nat.reduceLT, Nat.reduceAdd]; with_reducible rfl))) | refine LK.seq ?_ | refine LK.skip ?_ | refine LK.block ?_ | (apply LK.condF2; (focus (exact rfl)); (focus (with_reducible rfl)); (focus (first | with_reducible rfl | decide | (with_reducible exact Bool.false_and _) | (with_reducible exact congrArg (fun b => b && _) (Bool.false_and _))))) | refine LK.regc ?_ | (apply LOps.locFn; (focus (first | exact Goes.free | exact Goes.on rfl rfl (by with_reducible rfl) true (by decide))); (focus (exact rfl)); (focus (exact rfl)); (focus (simp only [go_sem, ↓reduceIte, Nat.reduceEqDiff]; exact rfl)); (focus (simp only [go_sem])); (focus (exact hn)); (focus (first | rfl | simp [go_sem])); (focus (first | rfl | simp [go_sem]))) | fail)
  refine LK.less 10 rfl (LV.le_refl _) ?_
  refine LK.loopB (fun s : Nat × (List Int × List Int × List Int) × List (List Nat) × List Zq => ops.length - s.1) (fun s => s.1 ≤ ops.length ∧ Ch s.2.1.1 s.2.1.2.1 s.2.1.2.2 s.2.2.1 ∧ s.2.1.1.length = N ∧ s.2.1.2.1.length = L ∧ Qs s.2.2.1 s.2.2.2) (fun s => ⟨249, [(0, vi N), (1, vi L), (7, vb true), (8, .ptr 0 1 0 0), (10, .own 1 L 0 L), (56, sOp ops), (57, vi ops.length), (58, vi s.1)]⟩) (fun s => ⟨10, (0, .arr 3 [[sI s.2.1.1, sI s.2.1.2.1, sI s.2.1.2.2]]) :: (1, .arr 1 (qR s.2.2.2)) :: qS s.2.2.2⟩) (0, (List.replicate N (-2), List.replicate L (-1), List.replicate L (-1)), List.replicate L [], List.replicate L ([], 0)) ⟨Nat.zero_le _, ch_new (by omega) h3 (by omega), by simp, by simp, Qs.new L⟩ (fun s _ => Nat.le_of_ble_eq_true rfl) ?_ ?_
  · have hrp : ((List.replicate L [LV.pv (PV.sc (Value.slice none 0 0))]).all fun r => r.all fun x => LV.under 2 x) = true := by simp [LV.under]
    refine (Becomes.sub (Sub.by rfl rfl (by first | rfl | (simp only [subB, LV.under, LO.under, List.all_cons, List.all_nil, decide_true, Nat.reduceLT, Bool.and_self, hrp]; done))) (Nat.le_refl _)).trans (new_becomes h4)
  rintro ⟨k, ⟨n, h, t⟩, Q, Z⟩ ⟨hk, c, hnl, hhl, hqs⟩ J hJ
  simp only at hk c hnl hhl hqs
  dsimp only
  have hQL : Q.length = L := by rw [← hhl, c.r.lh]
  have hZL : Z.length = L := by rw [hqs.len, hQL]
  rcases Nat.lt_or_ge k ops.length with hlt | hge
  · obtain ⟨o, ho⟩ := idx_all hlt
    have i1 : ((k : Int) < (ops.length : Int)) := by omega
    obtain ⟨w1, a, ha, e1⟩ := mod_of o.list h3 (show L ≤ 100 by omega)
    obtain ⟨w2, b, hb, e2⟩ := mod_of o.to h3 (show L ≤ 100 by omega)
    obtain ⟨w3, x, hx, e3⟩ := mod_of o.node h1 (show N ≤ 100 by omega)
    have hL0 : (L : Int) ≠ 0 := by omega
    have hN0 : (N : Int) ≠ 0 := by omega
    have z4 : (4 : Int) ≠ 0 := by decide
    have hwk := wrapn (n := k) (by omega)
    have hqRl : (qR Z).length = L := by rw [qR_len, hZL]
    have htkR : (qR Z).take L = qR Z := List.take_of_length_le (by omega)
    obtain ⟨q, hq⟩ := idx_all (show a < Q.length by omega)
    obtain ⟨z, hz, z1, z2, z3⟩ := hqs.get hq
    have hget := qR_get hz
    obtain ⟨i, hid⟩ : ∃ i, i = a + 2 := ⟨_, rfl⟩
    rw [← hid, z3] at hget
    have hli : Lw.look i (qS Z) = some (.arr 1 (oF (cI .i64) z.1)) := by rw [hid]; exact qS_look hz
    have haZ : a < (qR Z).length := by omega
    have f0 : (0 = i) = False := eq_false (by omega)
    have f1 : (1 = i) = False := eq_false (by omega)
    have f10 : (10 = i) = False := eq_false (by omega)
    have f11 : (11 = i) = False := eq_false (by omega)
    have f12 : (12 = i) = False := eq_false (by omega)
    have g0 : (i = 0) = False := eq_false (by omega)
    have g1 : (i = 1) = False := eq_false (by omega)
    have g10 : (i = 10) = False := eq_false (by omega)
    have g11 : (i = 11) = False := eq_false (by omega)
    have g12 : (i = 12) = False := eq_false (by omega)
    have aL : ((a : Int) < (L : Int)) := by omega
    obtain ⟨A, hwh, hA⟩ : ∃ A : Int, Fun Try.prog 15 [cv n h t, vi x] (.tup [vi A, vi 0]) ∧ ((x ∉ Q.flatten ∧ A = -1) ∨ ∃ (ix : Nat) (p s : List Nat), Q[ix]? = some (p ++ x :: s) ∧ x ∈ Q.flatten ∧ A = ix) := by
      rcases where_any c (x := x) (by omega) with ⟨g1, g2⟩ | ⟨ix, p, s, g1, g2, g3⟩
      · exact ⟨-1, g2, .inl ⟨g1, rfl⟩⟩
      · exact ⟨ix, g3, .inr ⟨ix, p, s, g1, g2, rfl⟩⟩
    (repeat' first | refine LOps.done ?_ | (apply LOps.mv; (focus (first | exact Goes.free | exact Goes.on rfl rfl (by with_reducible rfl) true (by decide))); (focus (exact rfl)); (focus (exact rfl))) | (apply LOps.asg; (focus (first | exact Goes.free | exact Goes.on rfl rfl (by with_reducible rfl) true (by decide))); (focus (exact rfl)); (focus (exact rfl))) | (apply LOps.ext; (focus (first | exact Goes.free | exact Goes.on rfl rfl (by with_reducible rfl) true (by decide))); (focus (exact rfl)); (focus (exact rfl)); (focus (exact rfl))) | (apply LOps.loc; (focus (first | exact Goes.free | exact Goes.on rfl rfl (by with_reducible rfl) true (by decide))); (focus (exact rfl)); (focus (exact rfl)); (focus (simp only [go_sem, ↓reduceIte, Nat.reduceEqDiff, reduceCtorEq, Nat.reduceLT, Nat.reduceAdd, Int.reduceBNe, i1, ho, look_upd, w1, w2, w3, e1, e2, e3, hL0, hN0, z4]; with_reducible rfl))) | (apply LOps.loc0; (focus (first | exact Goes.free | exact Goes.on rfl rfl (by with_reducible rfl) true (by decide))); (focus (exact rfl)); (focus (simp only [go_sem, ↓reduceIte, Nat.reduceEqDiff, reduceCtorEq, Nat.reduceLT, Nat.reduceAdd, look_upd, upd_upd]; with_reducible rfl))) | refine LK.seq ?_ | refine LK.skip ?_ | refine LK.block ?_ | (apply LK.condT2; (focus (exact rfl)); (focus (with_reducible rfl)); (focus (first | with_reducible rfl | decide | (with_reducible exact Bool.true_or _) | (with_reducible exact congrArg (fun b => b || _) (Bool.true_or _))))) | (apply LK.condF2; (focus (exact rfl)); (focus (with_reducible rfl)); (focus (first | with_reducible rfl | decide | (with_reducible exact Bool.false_and _) | (with_reducible exact congrArg (fun b => b && _) (Bool.false_and _))))) | refine LK.regc ?_ | (apply LOps.locFn; (focus (first | exact Goes.free | exact Goes.on rfl rfl (by with_reducible rfl) true (by decide))); (focus (exact rfl)); (focus (exact rfl)); (focus (simp only [go_sem, ↓reduceIte, Nat.reduceEqDiff]; exact rfl)); (focus (simp only [go_sem])); (focus (exact hwh)); (focus (first | rfl | simp [go_sem])); (focus (first | rfl | simp [go_sem]))) | fail)
    refine LK.keep [0, 1, 7, 8, 10, 13, 14, 15, 16, 17, 18, 56, 57, 58, 97, 128] rfl ?_
    have hsame : ∀ mo : List (Nat × LO), Lw.look 1 mo = some (.arr 1 (qR Z)) → (∀ j, j < Z.length → Lw.look (j + 2) mo = Lw.look (j + 2) (qS Z)) → ∀ nx, LCalls Try.prog 31 [cv n h t, .own 1 L 0 L] (fun u σ' => u = vb true ∧ σ' = ⟨nx, mo⟩) ⟨nx, mo⟩ := fun mo m1 m2 nx => holds_at c hqs (at1_same m1 m2) hZL.symm
    have hfin : ∀ (n' h' t' : List Int) (Q' : List (List Nat)) (Z' : List Zq) (l : List (Nat × Nat)) (m : List (Nat × LV)) (nx : Nat) (mo : List (Nat × LO)), Ch n' h' t' Q' → n'.length = n.length → h'.length = h.length → Qs Q' Z' → (∀ p ∈ l, 2 ≤ p.1 ∧ 10 ≤ p.2) → (l.map (·.2)).Nodup →
        readB m [0, 1, 7, 8, 10, 56, 57, 58] = some [(0, vi N), (1, vi L), (7, vb true), (8, .ptr 0 1 0 0), (10, .own 1 L 0 L), (56, sOp ops), (57, vi ops.length), (58, vi ((k + 1 : Nat) : Int))] → Lw.look 0 mo = some (.arr 3 [[sI n', sI h', sI t']]) → At1 mo (gOf l) Z' → J ⟨249, m⟩ ⟨nx, mo⟩ := by
      intro n' h' t' Q' Z' l m nx mo c' l1 l2 hq' hl1 hl2 hm h0 hA
      apply hJ
      have hlow := gOf_low fun p hp => (hl1 p hp).1
      refine ⟨(k + 1, (n', h', t'), Q', Z'), gOf l, ⟨hlt, c', l1.trans hnl, l2.trans hhl, hq'⟩, by simp only; omega, hlow, gOf_inj (fun p hp => (hl1 p hp).2) hl2, ?_⟩
      refine subR_at (by rw [hq'.len, ← c'.r.lh]; omega) (hlow 0 (by omega)) (hlow 1 (by omega)) ?_ rfl h0 rfl hA
      simp only [List.map_cons, List.map_nil, LV.ren, hlow 0 (by omega), hlow 1 (by omega)]
      exact hm
    by_cases k0 : Int.tmod o.kind 4 = 0
    · have kt : (Int.tmod o.kind 4 == 0) = true := by simpa using k0
      refine LK.condT2 rfl (by first | with_reducible rfl | rfl) (kt) ?_
      rcases hA with ⟨hxn, rfl⟩ | ⟨ix, px, sx, hix, hxm, rfl⟩
      · obtain ⟨n', h', t', hp, c', l1, l2, _⟩ := push_yes c hq hxn (by omega)
        (repeat' first | refine LOps.done ?_ | (apply LOps.mv; (focus (first | exact Goes.free | exact Goes.on rfl rfl (by with_reducible rfl) true (by decide))); (focus (exact rfl)); (focus (exact rfl))) | (apply LOps.asg; (focus (first | exact Goes.free | exact Goes.on rfl rfl (by with_reducible rfl) true (by decide))); (focus (exact rfl)); (focus (exact rfl))) | (apply LOps.ext; (focus (first | exact Goes.free | exact Goes.on rfl rfl (by with_reducible rfl) true (by decide))); (focus (exact rfl)); (focus (exact rfl)); (focus (exact rfl))) | (apply LOps.loc; (focus (first | exact Goes.free | exact Goes.on rfl rfl (by with_reducible rfl) true (by decide))); (focus (exact rfl)); (focus (exact rfl)); (focus (simp only [go_sem, ↓reduceIte, Nat.reduceEqDiff, reduceCtorEq, Nat.reduceLT, Nat.reduceAdd, Int.reduceBNe, Nat.reduceLeDiff, look_upd, hget, aL, hqRl]; with_reducible rfl))) | (apply LOps.loc0; (focus (first | exact Goes.free | exact Goes.on rfl rfl (by with_reducible rfl) true (by decide))); (focus (exact rfl)); (focus (simp only [go_sem, ↓reduceIte, Nat.reduceEqDiff, reduceCtorEq, Nat.reduceLT, Nat.reduceAdd, look_upd, upd_upd]; with_reducible rfl))) | (apply LOps.pass; (focus (first | exact Goes.on rfl rfl (by with_reducible rfl) false (by decide) | exact Goes.undef rfl rfl (by with_reducible rfl))); (focus (exact rfl))) | refine LK.seq ?_ | refine LK.skip ?_ | (apply LK.condT2; (focus (exact rfl)); (focus (with_reducible rfl)); (focus (first | with_reducible rfl | decide | (with_reducible exact Bool.true_or _) | (with_reducible exact congrArg (fun b => b || _) (Bool.true_or _))))) | (apply LK.condF2; (focus (exact rfl)); (focus (with_reducible rfl)); (focus (first | with_reducible rfl | decide | (with_reducible exact Bool.false_and _) | (with_reducible exact congrArg (fun b => b && _) (Bool.false_and _))))) | refine LK.regc ?_ | (apply LOps.locFn; (focus (first | exact Goes.free | exact Goes.on rfl rfl (by with_reducible rfl) true (by decide))); (focus (exact rfl)); (focus (exact rfl)); (focus (simp only [go_sem, ↓reduceIte, Nat.reduceEqDiff, reduceCtorEq]; exact rfl)); (focus (simp only [go_sem])); (focus (exact hp)); (focus (first | rfl | simp [go_sem])); (focus (first | rfl | simp [go_sem]))) | fail)
        refine LOps.appendOff (t := 22) (e := 3) (sz := 1) (by_ := 8) (zc := [vi 0]) (x := .tmp 157) (y := .tmp 159) (id := i) (n := z.1.length) (off := z.2) (len := q.length) (v := .own 12 1 0 1) (old := oF (cI .i64) z.1) (rows := oF (cI .i64) [(x : Int)]) rfl rfl rfl (by kernel_rfl) rfl rfl (by rw [lookB_eq]; simp only [go_sem, ↓reduceIte, look_upd, f0, f1, f10, f11, f12, hli]) (by simp only [go_sem, ↓reduceIte, Nat.reduceEqDiff, reduceCtorEq, look_upd]; rfl) (oF_len _ _) z1 Nat.zero_lt_one (by have := (c.r.le hq).1; simp only [maxLen, oF_len, List.length_cons, List.length_nil]; omega) ?_
        intro R n2 off2 r1 r2 r3
        rw [show q.length = (castL q).length from (castL_len q).symm] at r2
        obtain ⟨Z2, y1, y2, y3⟩ := app_of (x := [(x : Int)]) z2 r1 r2 r3
        subst y1
        rw [oF_len] at r1
        subst r1
        rw [castL_snoc] at y2
        simp only [LAct.put, List.length_cons, List.length_nil, oF_len, Nat.zero_add, castL_len] at y3 ⊢
        have hqs' := hqs.set (j := a) (q := q ++ [x]) (z := (Z2, off2)) (by simp only; omega) y2
        have hA1 : ∀ mo : List (Nat × LO), Lw.look 1 mo = some (.arr 1 ((qR Z).set a [.own 13 Z2.length off2 (q.length + 1)])) → Lw.look 13 mo = some (.arr 1 (oF (cI .i64) Z2)) → (∀ j, j ≠ a → j < Z.length → Lw.look (j + 2) mo = Lw.look (j + 2) (qS Z)) → At1 mo (gOf [(i, 13)]) (Z.set a (Z2, off2)) := by
          intro mo m1 m2 m3
          refine at1_set (by omega) (by simp [gOf, Lw.look, hid]) (fun j hj _ => ?_) m1 rfl rfl (by simp only; omega) m2 m3
          simp only [gOf, Lw.look]; rw [if_neg (by omega)]
        have hlook : ∀ j, j ≠ a → j < Z.length → (0 = j + 2) = False ∧ (1 = j + 2) = False ∧ (10 = j + 2) = False ∧ (11 = j + 2) = False ∧ (12 = j + 2) = False ∧ (13 = j + 2) = False ∧ (i = j + 2) = False := fun j hj hl => ⟨eq_false (by omega), eq_false (by omega), eq_false (by omega), eq_false (by omega), eq_false (by omega), eq_false (by omega), eq_false (by omega)⟩
        (repeat' first | refine LOps.done ?_ | (apply LOps.mv; (focus (first | exact Goes.free | exact Goes.on rfl rfl (by with_reducible rfl) true (by decide))); (focus (exact rfl)); (focus (exact rfl))) | (apply LOps.loc; (focus (first | exact Goes.free | exact Goes.on rfl rfl (by with_reducible rfl) true (by decide))); (focus (exact rfl)); (focus (exact rfl)); (focus (simp only [go_sem, ↓reduceIte, Nat.reduceEqDiff, reduceCtorEq, Nat.reduceLT, Nat.reduceAdd, look_upd, look_del, aL, hqRl, f0, f1, g11, ntt, hwk]; with_reducible rfl))) | (apply LOps.loc0; (focus (first | exact Goes.free | exact Goes.on rfl rfl (by with_reducible rfl) true (by decide))); (focus (exact rfl)); (focus (simp only [go_sem, ↓reduceIte, Nat.reduceEqDiff, reduceCtorEq, Nat.reduceLT, Nat.reduceAdd, hget, hqRl]; with_reducible rfl))) | refine LK.seq ?_ | refine LK.skip ?_ | refine LK.blk ?_ | refine LK.fin ?_ | (apply LK.condT2; (focus (exact rfl)); (focus (with_reducible rfl)); (focus (first | with_reducible rfl | decide | (with_reducible exact Bool.true_or _) | (with_reducible exact congrArg (fun b => b || _) (Bool.true_or _))))) | (apply LK.condF2; (focus (exact rfl)); (focus (with_reducible rfl)); (focus (first | with_reducible rfl | decide | (with_reducible exact Bool.false_and _) | (with_reducible exact congrArg (fun b => b && _) (Bool.false_and _))))) | refine LK.regc ?_ | ((apply LOps.inline; (focus (first | exact Goes.free | exact Goes.on rfl rfl (by with_reducible rfl) true (by decide))); (focus (exact rfl)); (focus (exact rfl)); (focus (simp only [go_sem, ↓reduceIte, Nat.reduceEqDiff]; exact rfl)); (focus (simp only [go_sem]))); (first | (refine LCalls.mono (by (refine holds_at c' hqs' (hA1 _ (by simp only [go_sem, ↓reduceIte, Nat.reduceEqDiff, reduceCtorEq]) (by simp only [go_sem, ↓reduceIte]) (fun j hj hl => by obtain ⟨j0, j1, j2, j3, j4, j5, j6⟩ := hlook j hj hl; simp only [Lw.look, look_upd, look_del, j0, j1, j2, j3, j4, j5, j6, ↓reduceIte])) (by simp only [List.length_set]; omega))) ?_; (rintro _ _ ⟨rfl, rfl⟩)) | fail)) | fail)
        refine hfin n' h' t' _ _ [(i, 13)] _ _ _ c' l1 l2 hqs' (by simp; omega) (by simp) rfl (by simp only [go_sem, ↓reduceIte, reduceCtorEq]) (hA1 _ (by simp only [go_sem, ↓reduceIte, Nat.reduceEqDiff, reduceCtorEq]) (by simp only [go_sem, ↓reduceIte]) (fun j hj hl => by obtain ⟨j0, j1, j2, j3, j4, j5, j6⟩ := hlook j hj hl; simp only [Lw.look, look_upd, look_del, j0, j1, j2, j3, j4, j5, j6, ↓reduceIte]))
      · have hp := push_no c (i := a) (by omega) hxm (by omega)
        have t1 : ((ix : Int) == -1) = false := by rw [beq_eq_false_iff_ne]; omega
        have t2 : (false != false) = false := rfl
        (repeat' first | refine LOps.done ?_ | (apply LOps.mv; (focus (first | exact Goes.free | exact Goes.on rfl rfl (by with_reducible rfl) true (by decide))); (focus (exact rfl)); (focus (exact rfl))) | (apply LOps.asg; (focus (first | exact Goes.free | exact Goes.on rfl rfl (by with_reducible rfl) true (by decide))); (focus (exact rfl)); (focus (exact rfl))) | (apply LOps.ext; (focus (first | exact Goes.free | exact Goes.on rfl rfl (by with_reducible rfl) true (by decide))); (focus (exact rfl)); (focus (exact rfl)); (focus (exact rfl))) | (apply LOps.loc; (focus (first | exact Goes.free | exact Goes.on rfl rfl (by with_reducible rfl) true (by decide))); (focus (exact rfl)); (focus (exact rfl)); (focus (simp only [go_sem, ↓reduceIte, Nat.reduceEqDiff, reduceCtorEq, Nat.reduceAdd, Int.reduceBEq, Int.reduceBNe, t1, ntt, hwk]; with_reducible rfl))) | (apply LOps.loc0; (focus (first | exact Goes.free | exact Goes.on rfl rfl (by with_reducible rfl) true (by decide))); (focus (exact rfl)); (focus (simp only [go_sem, ↓reduceIte, Nat.reduceEqDiff, reduceCtorEq, Nat.reduceLT, Nat.reduceAdd, look_upd, upd_upd]; with_reducible rfl))) | refine LK.seq ?_ | refine LK.skip ?_ | refine LK.blk ?_ | refine LK.fin ?_ | (apply LK.condF2; (focus (exact rfl)); (focus (with_reducible rfl)); (focus (first | with_reducible rfl | decide | (with_reducible exact Bool.false_and _) | (with_reducible exact congrArg (fun b => b && _) (Bool.false_and _))))) | refine LK.regc ?_ | (apply LOps.locFn; (focus (first | exact Goes.free | exact Goes.on rfl rfl (by with_reducible rfl) true (by decide))); (focus (exact rfl)); (focus (exact rfl)); (focus (simp only [go_sem, ↓reduceIte, Nat.reduceEqDiff]; exact rfl)); (focus (simp only [go_sem])); (focus (first | exact hp | (refine hsame _ (by simp only [go_sem, ↓reduceIte, Nat.reduceEqDiff, reduceCtorEq, Nat.reduceLT, Nat.reduceAdd, Int.reduceBEq, Int.reduceBNe, Int.reduceEq, Int.reduceLE, Int.reduceLT, Int.reduceToNat, Nat.reduceLeDiff, Nat.reduceMul, Nat.reduceSub, look_upd, upd_upd, t1, t2, ntt, hwk]) (fun j hj => ?_) _; simp only [Lw.look, look_upd, show ¬ (0 : Nat) = j + 2 by omega, show ¬ (1 : Nat) = j + 2 by omega, show ¬ (10 : Nat) = j + 2 by omega, show ¬ (11 : Nat) = j + 2 by omega, ↓reduceIte]))); (focus (first | rfl | simp [go_sem])); (focus (first | rfl | simp [go_sem]))) | ((apply LOps.inline; (focus (first | exact Goes.free | exact Goes.on rfl rfl (by with_reducible rfl) true (by decide))); (focus (exact rfl)); (focus (exact rfl)); (focus (simp only [go_sem, ↓reduceIte, Nat.reduceEqDiff]; exact rfl)); (focus (simp only [go_sem]))); (first | (refine LCalls.mono (by first | exact hp | (refine hsame _ (by simp only [go_sem, ↓reduceIte, reduceCtorEq]) (fun j hj => ?_) _; simp only [Lw.look, look_upd, show ¬ (0 : Nat) = j + 2 by omega, show ¬ (1 : Nat) = j + 2 by omega, show ¬ (10 : Nat) = j + 2 by omega, show ¬ (11 : Nat) = j + 2 by omega, ↓reduceIte])) ?_; (rintro _ _ ⟨rfl, rfl⟩)) | fail)) | fail)
        refine hfin n h t _ _ [] _ _ _ c rfl rfl hqs (by simp) (by simp) rfl (by simp only [go_sem, ↓reduceIte]) (at1_same (by simp only [go_sem, ↓reduceIte, reduceCtorEq]) (fun j hj => by simp only [Lw.look, look_upd, show ¬ (0 : Nat) = j + 2 by omega, show ¬ (1 : Nat) = j + 2 by omega, show ¬ (10 : Nat) = j + 2 by omega, show ¬ (11 : Nat) = j + 2 by omega, ↓reduceIte]))
    have kf : (Int.tmod o.kind 4 == 0) = false := by simpa using k0
    refine LK.condF2 rfl (by first | with_reducible rfl | rfl) (kf) ?_
    by_cases k1 : Int.tmod o.kind 4 = 1
    · have kt : (Int.tmod o.kind 4 == 1) = true := by simpa using k1
      rcases q with _ | ⟨y, s⟩
      · have hp := pop_no c hq
        have n0 : ((([] : List Nat).length : Nat) : Int) = 0 := rfl
        have i00 : ¬ ((0 : Int) > 0) := by decide
        have hle : z.2 ≤ z.1.length := by omega
        have tf : (false != false) = false := rfl
        (repeat' first | refine LOps.done ?_ | (apply LOps.mv; (focus (first | exact Goes.free | exact Goes.on rfl rfl (by with_reducible rfl) true (by decide))); (focus (exact rfl)); (focus (exact rfl))) | (apply LOps.asg; (focus (first | exact Goes.free | exact Goes.on rfl rfl (by with_reducible rfl) true (by decide))); (focus (exact rfl)); (focus (exact rfl))) | (apply LOps.ext; (focus (first | exact Goes.free | exact Goes.on rfl rfl (by with_reducible rfl) true (by decide))); (focus (exact rfl)); (focus (exact rfl)); (focus (exact rfl))) | (apply LOps.loc; (focus (first | exact Goes.free | exact Goes.on rfl rfl (by with_reducible rfl) true (by decide))); (focus (exact rfl)); (focus (exact rfl)); (focus (simp only [go_sem, ↓reduceIte, Nat.reduceEqDiff, reduceCtorEq, Nat.reduceLT, Nat.reduceAdd, Int.reduceBEq, kt, look_upd, hget, aL, hqRl, f0, f1, f10, f11, hli, ntt, hwk, i00, hle, Nat.add_zero, Int.ofNat_zero]; with_reducible rfl))) | (apply LOps.loc0; (focus (first | exact Goes.free | exact Goes.on rfl rfl (by with_reducible rfl) true (by decide))); (focus (exact rfl)); (focus (simp only [go_sem, ↓reduceIte, Nat.reduceEqDiff, reduceCtorEq, Nat.reduceLT, Nat.reduceAdd, look_upd, upd_upd]; with_reducible rfl))) | (apply LOps.pass; (focus (first | exact Goes.on rfl rfl (by with_reducible rfl) false (by decide) | exact Goes.undef rfl rfl (by with_reducible rfl))); (focus (exact rfl))) | refine LK.seq ?_ | refine LK.skip ?_ | refine LK.blk ?_ | refine LK.fin ?_ | (apply LK.condT2; (focus (exact rfl)); (focus (with_reducible rfl)); (focus (first | with_reducible rfl | decide | (with_reducible exact Bool.true_or _) | (with_reducible exact congrArg (fun b => b || _) (Bool.true_or _))))) | (apply LK.condF2; (focus (exact rfl)); (focus (with_reducible rfl)); (focus (first | with_reducible rfl | decide | (with_reducible exact Bool.false_and _) | (with_reducible exact congrArg (fun b => b && _) (Bool.false_and _))))) | refine LK.regc ?_ | (apply LOps.locFn; (focus (first | exact Goes.free | exact Goes.on rfl rfl (by with_reducible rfl) true (by decide))); (focus (exact rfl)); (focus (exact rfl)); (focus (simp only [go_sem, ↓reduceIte, Nat.reduceEqDiff]; exact rfl)); (focus (simp only [go_sem])); (focus (first | exact hp | (refine hsame _ (by simp only [go_sem, ↓reduceIte, Nat.reduceEqDiff, reduceCtorEq, Nat.reduceLT, Nat.reduceAdd, Int.reduceBEq, Int.reduceBNe, Int.reduceEq, Int.reduceLE, Int.reduceLT, Int.reduceToNat, Nat.reduceLeDiff, Nat.reduceMul, Nat.reduceSub, kt, look_upd, upd_upd, hget, haZ, ha, htkR, aL, hqRl, f0, f1, f10, f11, f12, hli, ntt, hwk, n0, i00, hle, tf, Nat.add_zero, Int.ofNat_zero, Int.reduceGT]) (fun j hj => ?_) _; simp only [Lw.look, look_upd, show ¬ (0 : Nat) = j + 2 by omega, show ¬ (1 : Nat) = j + 2 by omega, show ¬ (10 : Nat) = j + 2 by omega, show ¬ (11 : Nat) = j + 2 by omega, ↓reduceIte]))); (focus (first | rfl | simp [go_sem])); (focus (first | rfl | simp [go_sem]))) | ((apply LOps.inline; (focus (first | exact Goes.free | exact Goes.on rfl rfl (by with_reducible rfl) true (by decide))); (focus (exact rfl)); (focus (exact rfl)); (focus (simp only [go_sem, ↓reduceIte, Nat.reduceEqDiff]; exact rfl)); (focus (simp only [go_sem]))); (first | (refine LCalls.mono (by first | exact hp | (refine hsame _ (by simp only [go_sem, ↓reduceIte, reduceCtorEq]) (fun j hj => ?_) _; simp only [Lw.look, look_upd, show ¬ (0 : Nat) = j + 2 by omega, show ¬ (1 : Nat) = j + 2 by omega, show ¬ (10 : Nat) = j + 2 by omega, show ¬ (11 : Nat) = j + 2 by omega, ↓reduceIte])) ?_; (rintro _ _ ⟨rfl, rfl⟩)) | fail)) | fail)
        refine hfin n h t _ _ [] _ _ _ c rfl rfl hqs (by simp) (by simp) rfl (by simp only [go_sem, ↓reduceIte]) (at1_same (by simp only [go_sem, ↓reduceIte, reduceCtorEq]) (fun j hj => by simp only [Lw.look, look_upd, show ¬ (0 : Nat) = j + 2 by omega, show ¬ (1 : Nat) = j + 2 by omega, show ¬ (10 : Nat) = j + 2 by omega, show ¬ (11 : Nat) = j + 2 by omega, ↓reduceIte]))
      · obtain ⟨n', h', t', hp, c', l1, l2⟩ := pop_yes c hq
        have hle : z.2 + (s.length + 1) ≤ z.1.length := by rw [← z1]; simp
        have hg : (((s.length + 1 : Nat) : Int) > 0) := by omega
        have hg2 : ((0 : Int) < ((s.length + 1 : Nat) : Int)) := by omega
        have tf : (true != true) = false := rfl
        have hyy : ((y : Int) != (y : Int)) = false := by simp
        have hzy : z.1[z.2]? = some (y : Int) := by
          have : (z.1.drop z.2)[0]? = some (y : Int) := by rw [z2]; rfl
          rwa [List.getElem?_drop, Nat.add_zero] at this
        have hs1 : 1 ≤ s.length + 1 := by omega
        have hlt3 : z.2 < z.1.length := by omega
        have hl3 : (List.take (s.length + 1) (List.drop z.2 z.1)).length = s.length + 1 := by rw [List.length_take, List.length_drop]; omega
        have hd3 : decide (((s.length + 1 : Nat) : Int) > 0) = true := decide_eq_true hg
        have hqs' := hqs.set (j := a) (q := s) (z := (z.1, z.2 + 1)) (by simp only; omega) (by simp only; rw [← List.drop_drop, z2]; rfl)
        have hA1 : ∀ mo : List (Nat × LO), Lw.look 1 mo = some (.arr 1 ((qR Z).set a [.own i z.1.length (z.2 + 1) s.length])) → Lw.look i mo = some (.arr 1 (oF (cI .i64) z.1)) → (∀ j, j ≠ a → j < Z.length → Lw.look (j + 2) mo = Lw.look (j + 2) (qS Z)) → At1 mo (gOf []) (Z.set a (z.1, z.2 + 1)) := by
          intro mo m1 m2 m3
          exact at1_set (by omega) (by rw [hid]; rfl) (fun j hj _ => rfl) m1 rfl rfl (by simp only; simp only [List.length_cons] at z1; omega) m2 m3
        (repeat' first | refine LOps.done ?_ | (apply LOps.mv; (focus (first | exact Goes.free | exact Goes.on rfl rfl (by with_reducible rfl) true (by decide))); (focus (exact rfl)); (focus (exact rfl))) | (apply LOps.asg; (focus (first | exact Goes.free | exact Goes.on rfl rfl (by with_reducible rfl) true (by decide))); (focus (exact rfl)); (focus (exact rfl))) | (apply LOps.ext; (focus (first | exact Goes.free | exact Goes.on rfl rfl (by with_reducible rfl) true (by decide))); (focus (exact rfl)); (focus (exact rfl)); (focus (exact rfl))) | (apply LOps.loc; (focus (first | exact Goes.free | exact Goes.on rfl rfl (by with_reducible rfl) true (by decide))); (focus (exact rfl)); (focus (exact rfl)); (focus (simp only [go_sem, ↓reduceIte, Nat.reduceEqDiff, reduceCtorEq, Nat.reduceLT, Nat.reduceAdd, Int.reduceLE, Int.reduceToNat, kt, look_upd, hget, aL, hqRl, f0, f1, f10, f11, hli, ntt, hwk, hle, hg, hyy, hzy, hs1, hl3, Nat.add_zero, Nat.add_sub_cancel]; with_reducible rfl))) | (apply LOps.loc0; (focus (first | exact Goes.free | exact Goes.on rfl rfl (by with_reducible rfl) true (by decide))); (focus (exact rfl)); (focus (simp only [go_sem, ↓reduceIte, Nat.reduceEqDiff, reduceCtorEq, Nat.reduceLT, Nat.reduceAdd, look_upd, upd_upd, hget, hqRl]; with_reducible rfl))) | refine LK.seq ?_ | refine LK.skip ?_ | refine LK.blk ?_ | refine LK.fin ?_ | (apply LK.condT2; (focus (exact rfl)); (focus (with_reducible rfl)); (focus (first | with_reducible rfl | decide | (with_reducible exact Bool.true_or _) | (with_reducible exact congrArg (fun b => b || _) (Bool.true_or _))))) | (apply LK.condF2; (focus (exact rfl)); (focus (with_reducible rfl)); (focus (first | with_reducible rfl | decide | (with_reducible exact Bool.false_and _) | (with_reducible exact congrArg (fun b => b && _) (Bool.false_and _))))) | refine LK.regc ?_ | (apply LOps.locFn; (focus (first | exact Goes.free | exact Goes.on rfl rfl (by with_reducible rfl) true (by decide))); (focus (exact rfl)); (focus (exact rfl)); (focus (simp only [go_sem, ↓reduceIte, Nat.reduceEqDiff]; exact rfl)); (focus (simp only [go_sem])); (focus (first | exact hp | (refine holds_at c' hqs' (hA1 _ (by simp only [go_sem, ↓reduceIte, Nat.reduceEqDiff, reduceCtorEq, Nat.reduceLT, Nat.reduceAdd, Int.reduceBEq, Int.reduceBNe, Int.reduceEq, Int.reduceLE, Int.reduceLT, Int.reduceToNat, Nat.reduceLeDiff, Nat.reduceMul, Nat.reduceSub, kt, look_upd, upd_upd, hget, haZ, ha, htkR, aL, hqRl, f0, f1, f10, f11, f12, hli, ntt, hwk, hle, hg, hg2, tf, hyy, hzy, hs1, hlt3, hl3, hd3, Nat.add_zero, Nat.add_sub_cancel]) (by simp only [go_sem, ↓reduceIte, Nat.reduceEqDiff, reduceCtorEq, Nat.reduceLT, Nat.reduceAdd, Int.reduceBEq, Int.reduceBNe, Int.reduceEq, Int.reduceLE, Int.reduceLT, Int.reduceToNat, Nat.reduceLeDiff, Nat.reduceMul, Nat.reduceSub, kt, look_upd, upd_upd, hget, haZ, ha, htkR, aL, hqRl, f0, f1, f10, f11, f12, hli, ntt, hwk, hle, hg, hg2, tf, hyy, hzy, hs1, hlt3, hl3, hd3, Nat.add_zero, Nat.add_sub_cancel]) (fun j hj hl => by simp only [Lw.look, look_upd, show ¬ (0 : Nat) = j + 2 by omega, show ¬ (1 : Nat) = j + 2 by omega, show ¬ (10 : Nat) = j + 2 by omega, show ¬ (11 : Nat) = j + 2 by omega, ↓reduceIte])) (by simp only [List.length_set]; omega)))); (focus (first | rfl | simp [go_sem])); (focus (first | rfl | simp [go_sem]))) | ((apply LOps.inline; (focus (first | exact Goes.free | exact Goes.on rfl rfl (by with_reducible rfl) true (by decide))); (focus (exact rfl)); (focus (exact rfl)); (focus (simp only [go_sem, ↓reduceIte, Nat.reduceEqDiff]; exact rfl)); (focus (simp only [go_sem]))); (first | (refine LCalls.mono (by first | exact hp | (refine holds_at c' hqs' (hA1 _ (by simp only [go_sem, ↓reduceIte, reduceCtorEq]) (by simp only [go_sem, ↓reduceIte, look_upd, f0, f1, f10, f11, hli]) (fun j hj hl => by simp only [Lw.look, look_upd, show ¬ (0 : Nat) = j + 2 by omega, show ¬ (1 : Nat) = j + 2 by omega, show ¬ (10 : Nat) = j + 2 by omega, show ¬ (11 : Nat) = j + 2 by omega, ↓reduceIte])) (by simp only [List.length_set]; omega))) ?_; (rintro _ _ ⟨rfl, rfl⟩)) | fail)) | fail)
        refine hfin n' h' t' _ _ [] _ _ _ c' l1 l2 hqs' (by simp) (by simp) rfl (by simp only [go_sem, ↓reduceIte]) (hA1 _ (by simp only [go_sem, ↓reduceIte, reduceCtorEq]) (by simp only [go_sem, ↓reduceIte, look_upd, f0, f1, f10, f11, hli]) (fun j hj hl => by simp only [Lw.look, look_upd, show ¬ (0 : Nat) = j + 2 by omega, show ¬ (1 : Nat) = j + 2 by omega, show ¬ (10 : Nat) = j + 2 by omega, show ¬ (11 : Nat) = j + 2 by omega, ↓reduceIte]))
    have kf1 : (Int.tmod o.kind 4 == 1) = false := by simpa using k1
    by_cases k2 : Int.tmod o.kind 4 = 2
    · have kt : (Int.tmod o.kind 4 == 2) = true := by simpa using k2
      rcases hA with ⟨hxn, rfl⟩ | ⟨ix, px, sx, hix, hxm, rfl⟩
      · have hp := cut_no c hxn (by omega)
        have tf : (false != false) = false := rfl
        (repeat' first | refine LOps.done ?_ | (apply LOps.mv; (focus (first | exact Goes.free | exact Goes.on rfl rfl (by with_reducible rfl) true (by decide))); (focus (exact rfl)); (focus (exact rfl))) | (apply LOps.asg; (focus (first | exact Goes.free | exact Goes.on rfl rfl (by with_reducible rfl) true (by decide))); (focus (exact rfl)); (focus (exact rfl))) | (apply LOps.ext; (focus (first | exact Goes.free | exact Goes.on rfl rfl (by with_reducible rfl) true (by decide))); (focus (exact rfl)); (focus (exact rfl)); (focus (exact rfl))) | (apply LOps.loc; (focus (first | exact Goes.free | exact Goes.on rfl rfl (by with_reducible rfl) true (by decide))); (focus (exact rfl)); (focus (exact rfl)); (focus (simp only [go_sem, ↓reduceIte, Nat.reduceEqDiff, reduceCtorEq, Nat.reduceAdd, Int.reduceBEq, Int.reduceBNe, kf1, kt, ntt, hwk]; with_reducible rfl))) | (apply LOps.loc0; (focus (first | exact Goes.free | exact Goes.on rfl rfl (by with_reducible rfl) true (by decide))); (focus (exact rfl)); (focus (simp only [go_sem, ↓reduceIte, Nat.reduceEqDiff, reduceCtorEq, Nat.reduceLT, Nat.reduceAdd, look_upd, upd_upd]; with_reducible rfl))) | refine LK.seq ?_ | refine LK.skip ?_ | refine LK.blk ?_ | refine LK.fin ?_ | (apply LK.condT2; (focus (exact rfl)); (focus (with_reducible rfl)); (focus (first | with_reducible rfl | decide | (with_reducible exact Bool.true_or _) | (with_reducible exact congrArg (fun b => b || _) (Bool.true_or _))))) | (apply LK.condF2; (focus (exact rfl)); (focus (with_reducible rfl)); (focus (first | with_reducible rfl | decide | (with_reducible exact Bool.false_and _) | (with_reducible exact congrArg (fun b => b && _) (Bool.false_and _))))) | refine LK.regc ?_ | (apply LOps.locFn; (focus (first | exact Goes.free | exact Goes.on rfl rfl (by with_reducible rfl) true (by decide))); (focus (exact rfl)); (focus (exact rfl)); (focus (simp only [go_sem, ↓reduceIte, Nat.reduceEqDiff]; exact rfl)); (focus (simp only [go_sem])); (focus (first | exact hp | (refine hsame _ (by simp only [go_sem, ↓reduceIte, Nat.reduceEqDiff, reduceCtorEq, Nat.reduceLT, Nat.reduceAdd, Int.reduceBEq, Int.reduceBNe, Int.reduceEq, Int.reduceLE, Int.reduceLT, Int.reduceToNat, Nat.reduceLeDiff, Nat.reduceMul, Nat.reduceSub, kf1, kt, look_upd, upd_upd, tf, ntt, hwk]) (fun j hj => ?_) _; simp only [Lw.look, look_upd, show ¬ (0 : Nat) = j + 2 by omega, show ¬ (1 : Nat) = j + 2 by omega, show ¬ (10 : Nat) = j + 2 by omega, show ¬ (11 : Nat) = j + 2 by omega, ↓reduceIte]))); (focus (first | rfl | simp [go_sem])); (focus (first | rfl | simp [go_sem]))) | ((apply LOps.inline; (focus (first | exact Goes.free | exact Goes.on rfl rfl (by with_reducible rfl) true (by decide))); (focus (exact rfl)); (focus (exact rfl)); (focus (simp only [go_sem, ↓reduceIte, Nat.reduceEqDiff]; exact rfl)); (focus (simp only [go_sem]))); (first | (refine LCalls.mono (by first | exact hp | (refine hsame _ (by simp only [go_sem, ↓reduceIte, reduceCtorEq]) (fun j hj => ?_) _; simp only [Lw.look, look_upd, show ¬ (0 : Nat) = j + 2 by omega, show ¬ (1 : Nat) = j + 2 by omega, show ¬ (10 : Nat) = j + 2 by omega, show ¬ (11 : Nat) = j + 2 by omega, ↓reduceIte])) ?_; (rintro _ _ ⟨rfl, rfl⟩)) | fail)) | fail)
        refine hfin n h t _ _ [] _ _ _ c rfl rfl hqs (by simp) (by simp) rfl (by simp only [go_sem, ↓reduceIte]) (at1_same (by simp only [go_sem, ↓reduceIte, reduceCtorEq]) (fun j hj => by simp only [Lw.look, look_upd, show ¬ (0 : Nat) = j + 2 by omega, show ¬ (1 : Nat) = j + 2 by omega, show ¬ (10 : Nat) = j + 2 by omega, show ¬ (11 : Nat) = j + 2 by omega, ↓reduceIte]))
      · clear hq hz z1 z2 z3 hget hid hli haZ f0 f1 f10 f11 f12 g0 g1 g10 g11 g12 aL q z i
        obtain ⟨n', h', t', hp, c', l1, l2, _⟩ := cut_yes c hix
        obtain ⟨q, hqe⟩ : ∃ q, q = px ++ x :: sx := ⟨_, rfl⟩
        rw [← hqe] at hix
        have hixL : ix < L := by have := lt_of_get hix; omega
        obtain ⟨z, hz, z1, z2, z3⟩ := hqs.get hix
        have hget := qR_get hz
        obtain ⟨i, hid⟩ : ∃ i, i = ix + 2 := ⟨_, rfl⟩
        rw [← hid, z3] at hget
        have hli : Lw.look i (qS Z) = some (.arr 1 (oF (cI .i64) z.1)) := by rw [hid]; exact qS_look hz
        have haZ : ix < (qR Z).length := by omega
        have f0 : (0 = i) = False := eq_false (by omega)
        have f1 : (1 = i) = False := eq_false (by omega)
        have f10 : (10 = i) = False := eq_false (by omega)
        have f11 : (11 = i) = False := eq_false (by omega)
        have f12 : (12 = i) = False := eq_false (by omega)
        have aL : ((ix : Int) < (L : Int)) := by omega
        have t1 : ((ix : Int) != -1) = true := by rw [bne_iff_ne]; omega
        have tt : (true != true) = false := rfl
        have hle : z.2 + q.length ≤ z.1.length := by omega
        have hct : List.take q.length (castL q) = castL q := List.take_of_length_le (by rw [castL_len]; exact Nat.le_refl _)
        have hcl := castL_len q
        have hqn := (c.r.le hix).1
        (repeat' first | refine LOps.done ?_ | (apply LOps.mv; (focus (first | exact Goes.free | exact Goes.on rfl rfl (by with_reducible rfl) true (by decide))); (focus (exact rfl)); (focus (exact rfl))) | (apply LOps.asg; (focus (first | exact Goes.free | exact Goes.on rfl rfl (by with_reducible rfl) true (by decide))); (focus (exact rfl)); (focus (exact rfl))) | (apply LOps.ext; (focus (first | exact Goes.free | exact Goes.on rfl rfl (by with_reducible rfl) true (by decide))); (focus (exact rfl)); (focus (exact rfl)); (focus (exact rfl))) | (apply LOps.loc; (focus (first | exact Goes.free | exact Goes.on rfl rfl (by with_reducible rfl) true (by decide))); (focus (exact rfl)); (focus (exact rfl)); (focus (simp only [go_sem, ↓reduceIte, Nat.reduceEqDiff, reduceCtorEq, Nat.reduceLT, Nat.reduceAdd, kf1, kt, look_upd, t1, ntt, hget, aL, hqRl, f0, f1, f10, f11, hli, hle, z2, hct, hcl]; with_reducible rfl))) | (apply LOps.loc0; (focus (first | exact Goes.free | exact Goes.on rfl rfl (by with_reducible rfl) true (by decide))); (focus (exact rfl)); (focus (simp only [go_sem, ↓reduceIte, Nat.reduceEqDiff, reduceCtorEq, Nat.reduceLT, Nat.reduceAdd, look_upd, upd_upd]; with_reducible rfl))) | refine LK.seq ?_ | refine LK.skip ?_ | refine LK.block ?_ | (apply LK.condT2; (focus (exact rfl)); (focus (with_reducible rfl)); (focus (first | with_reducible rfl | decide | (with_reducible exact Bool.true_or _) | (with_reducible exact congrArg (fun b => b || _) (Bool.true_or _))))) | (apply LK.condF2; (focus (exact rfl)); (focus (with_reducible rfl)); (focus (first | with_reducible rfl | decide | (with_reducible exact Bool.false_and _) | (with_reducible exact congrArg (fun b => b && _) (Bool.false_and _))))) | refine LK.regc ?_ | (apply LOps.locFn; (focus (first | exact Goes.free | exact Goes.on rfl rfl (by with_reducible rfl) true (by decide))); (focus (exact rfl)); (focus (exact rfl)); (focus (simp only [go_sem, ↓reduceIte, Nat.reduceEqDiff]; exact rfl)); (focus (simp only [go_sem])); (focus (first | exact hp)); (focus (first | rfl | simp [go_sem])); (focus (first | rfl | simp [go_sem]))) | fail)
        refine LK.own0 20 1 rfl rfl ?_
        have hjn : ∀ j, j < Z.length → (0 = j + 2) = False ∧ (1 = j + 2) = False ∧ (10 = j + 2) = False ∧ (11 = j + 2) = False ∧ (12 = j + 2) = False := fun j hl => ⟨eq_false (by omega), eq_false (by omega), eq_false (by omega), eq_false (by omega), eq_false (by omega)⟩
        have hsub : ∀ (l : List Nat) (j : Nat) (m : List (Nat × LV)) (nx0 : Nat) (mo : List (Nat × LO)), readB m [0, 1, 7, 8, 10, 15, 16, 17, 18, 20, 56, 57, 58, 222, 223, 224] = some [(0, vi N), (1, vi L), (7, vb true), (8, .ptr 0 1 0 0), (10, .own 1 L 0 L), (15, vi x), (16, vi ix), (17, vi 0), (18, .ptr 11 1 0 0), (20, .own 12 l.length 0 l.length), (56, sOp ops), (57, vi ops.length), (58, vi k), (222, .own i z.1.length z.2 q.length), (223, vi q.length), (224, vi j)] →
            Lw.look 12 mo = some (.arr 1 (oF (cI .i64) (castL l))) → Lw.look 0 mo = some (.arr 3 [[sI n, sI h, sI t]]) → Lw.look 1 mo = some (.arr 1 (qR Z)) → Lw.look 11 mo = some (.arr 3 [[sI n', sI h', sI t']]) → (∀ j, j < Z.length → Lw.look (j + 2) mo = Lw.look (j + 2) (qS Z)) →
            Sub ⟨249, m⟩ ⟨nx0, mo⟩ ⟨249, [(0, vi N), (1, vi L), (7, vb true), (8, .ptr 0 1 0 0), (10, .own 1 L 0 L), (15, vi x), (16, vi ix), (17, vi 0), (18, .ptr 11 1 0 0), (20, .own 12 l.length 0 l.length), (56, sOp ops), (57, vi ops.length), (58, vi k), (222, .own i z.1.length z.2 q.length), (223, vi q.length), (224, vi j)]⟩ ⟨13, (12, .arr 1 (oF (cI .i64) (castL l))) :: (0, .arr 3 [[sI n, sI h, sI t]]) :: (1, .arr 1 (qR Z)) :: (11, .arr 3 [[sI n', sI h', sI t']]) :: qS Z⟩ := by
          intro l j m nx0 mo hm m12 m0 m1 m11 mS
          refine subT (P := [(12, .arr 1 (oF (cI .i64) (castL l))), (0, .arr 3 [[sI n, sI h, sI t]]), (1, .arr 1 (qR Z)), (11, .arr 3 [[sI n', sI h', sI t']])]) hm (by simp [LV.under]; omega) (fun p hp => ?_) mS (by omega)
          simp only [List.mem_cons, List.not_mem_nil, or_false] at hp
          rcases hp with rfl | rfl | rfl | rfl
          · exact ⟨m12, by simp, oF_all_under (cI .i64) (castL l) 13⟩
          · exact ⟨m0, by simp, rfl⟩
          · exact ⟨m1, by simp, qR_under (show Z.length + 2 ≤ 13 by omega)⟩
          · exact ⟨m11, by simp, rfl⟩
        refine LK.loop (fun j : Nat => q.length - j) (fun j => j ≤ q.length) (fun j => ⟨249, [(0, vi N), (1, vi L), (7, vb true), (8, .ptr 0 1 0 0), (10, .own 1 L 0 L), (15, vi x), (16, vi ix), (17, vi 0), (18, .ptr 11 1 0 0), (20, .own 12 (lft (q.take j) x).length 0 (lft (q.take j) x).length), (56, sOp ops), (57, vi ops.length), (58, vi k), (222, .own i z.1.length z.2 q.length), (223, vi q.length), (224, vi j)]⟩) (fun j => (12, .arr 1 (oF (cI .i64) (castL (lft (q.take j) x)))) :: (0, .arr 3 [[sI n, sI h, sI t]]) :: (1, .arr 1 (qR Z)) :: (11, .arr 3 [[sI n', sI h', sI t']]) :: qS Z) 0 (Nat.zero_le _) (hsub [] 0 _ _ _ rfl (by simp only [Lw.look, look_upd, upd, go_sem, ↓reduceIte, Nat.reduceEqDiff, reduceCtorEq]; rfl) (by simp only [Lw.look, upd, go_sem, ↓reduceIte, Nat.reduceEqDiff, reduceCtorEq]) (by simp only [Lw.look, upd, go_sem, ↓reduceIte, Nat.reduceEqDiff, reduceCtorEq]) (by simp only [Lw.look, look_upd, upd, go_sem, ↓reduceIte, Nat.reduceEqDiff, reduceCtorEq]) (fun j hl => by obtain ⟨j0, j1, j2, j3, j4⟩ := hjn j hl; simp only [Lw.look, look_upd, upd, Nat.reduceEqDiff, j0, j1, j2, j3, j4, ↓reduceIte])) ?_
        rintro j hj J2 hJ2
        have hfl := lft_len q j x
        rcases Nat.lt_or_ge j q.length with jlt | jge
        · obtain ⟨y, hy⟩ := idx_all jlt
          have j1 : ((j : Int) < (q.length : Int)) := by omega
          have hwj := wrapn (n := j) (by omega)
          have hzy : z.1[z.2 + j]? = some (y : Int) := by
            have : (z.1.drop z.2)[j]? = some (y : Int) := by rw [z2, castL, List.getElem?_map, hy]; rfl
            rwa [List.getElem?_drop] at this
          have hzl : z.2 + j < z.1.length := by omega
          have hst := lft_step (x := x) hy
          by_cases e : y = x
          · have hne : ((y : Int) != (x : Int)) = false := by simp [e]
            rw [if_pos e, List.append_nil] at hst
            (repeat' first | refine LOps.done ?_ | (apply LOps.mv; (focus (first | exact Goes.free | exact Goes.on rfl rfl (by with_reducible rfl) true (by decide))); (focus (exact rfl)); (focus (exact rfl))) | (apply LOps.asg; (focus (first | exact Goes.free | exact Goes.on rfl rfl (by with_reducible rfl) true (by decide))); (focus (exact rfl)); (focus (exact rfl))) | (apply LOps.loc; (focus (first | exact Goes.free | exact Goes.on rfl rfl (by with_reducible rfl) true (by decide))); (focus (exact rfl)); (focus (exact rfl)); (focus (simp only [go_sem, ↓reduceIte, Nat.reduceEqDiff, Nat.reduceLT, Nat.reduceAdd, j1, hwj, hzy, hne, hle, f0, f1, f11, f12, hli]; with_reducible rfl))) | refine LK.seq ?_ | refine LK.skip ?_ | refine LK.block ?_ | refine LK.blk ?_ | refine LK.fin ?_ | (apply LK.condT2; (focus (exact rfl)); (focus (with_reducible rfl)); (focus (first | with_reducible rfl | decide | (with_reducible exact Bool.true_or _) | (with_reducible exact congrArg (fun b => b || _) (Bool.true_or _))))) | (apply LK.condF2; (focus (exact rfl)); (focus (with_reducible rfl)); (focus (first | with_reducible rfl | decide | (with_reducible exact Bool.false_and _) | (with_reducible exact congrArg (fun b => b && _) (Bool.false_and _))))) | refine LK.regc ?_ | fail)
            apply hJ2
            refine ⟨j + 1, jlt, by omega, ?_⟩
            dsimp only
            rw [hst]
            exact hsub _ _ _ _ _ rfl (by simp only [go_sem, ↓reduceIte]) (by simp only [go_sem, ↓reduceIte, reduceCtorEq]) (by simp only [go_sem, ↓reduceIte, Nat.reduceEqDiff, reduceCtorEq]) (by simp only [go_sem, ↓reduceIte, Nat.reduceEqDiff, reduceCtorEq]) (fun j hl => by obtain ⟨j0, j1, j2, j3, j4⟩ := hjn j hl; simp only [Lw.look, j0, j1, j3, j4, ↓reduceIte])
          · have hne : ((y : Int) != (x : Int)) = true := by rw [bne_iff_ne]; omega
            rw [if_neg e] at hst
            have hcs := castL_snoc (lft (q.take j) x) y
            rw [← hst] at hcs
            have hl2 : (lft (q.take (j + 1)) x).length = (lft (q.take j) x).length + 1 := by rw [hst]; simp
            have hcl3 := castL_len (lft (q.take j) x)
            have hmm : (lft (q.take j) x).length + 1 ≤ maxLen ∧ ((lft (q.take j) x).length + 1) * 8 ≤ 140737488355328 := by simp only [maxLen]; omega
            (repeat' first | refine LOps.done ?_ | (apply LOps.mv; (focus (first | exact Goes.free | exact Goes.on rfl rfl (by with_reducible rfl) true (by decide))); (focus (exact rfl)); (focus (exact rfl))) | (apply LOps.asg; (focus (first | exact Goes.free | exact Goes.on rfl rfl (by with_reducible rfl) true (by decide))); (focus (exact rfl)); (focus (exact rfl))) | (apply LOps.loc; (focus (first | exact Goes.free | exact Goes.on rfl rfl (by with_reducible rfl) true (by decide))); (focus (exact rfl)); (focus (exact rfl)); (focus (simp only [go_sem, ↓reduceIte, Nat.reduceEqDiff, reduceCtorEq, Nat.reduceLT, Nat.reduceAdd, Nat.reduceLeDiff, j1, hwj, hzy, hne, hle, look_upd, f0, f1, f11, f12, hli, hcs, hmm, hcl3]; with_reducible rfl))) | refine LK.seq ?_ | refine LK.skip ?_ | refine LK.block ?_ | refine LK.blk ?_ | refine LK.fin ?_ | (apply LK.condT2; (focus (exact rfl)); (focus (with_reducible rfl)); (focus (first | with_reducible rfl | decide | (with_reducible exact Bool.true_or _) | (with_reducible exact congrArg (fun b => b || _) (Bool.true_or _))))) | refine LK.regc ?_ | fail)
            apply hJ2
            refine ⟨j + 1, jlt, by omega, ?_⟩
            dsimp only
            exact hsub _ _ _ _ _ (by rw [hl2]; rfl) (by simp only [go_sem, ↓reduceIte]) (by simp only [go_sem, ↓reduceIte, reduceCtorEq]) (by simp only [go_sem, ↓reduceIte, Nat.reduceEqDiff, reduceCtorEq]) (by simp only [go_sem, ↓reduceIte, Nat.reduceEqDiff, reduceCtorEq]) (fun j hl => by obtain ⟨j0, j1, j2, j3, j4⟩ := hjn j hl; simp only [Lw.look, look_upd, j0, j1, j3, j4, show ¬ (13 : Nat) = j + 2 by omega, ↓reduceIte])
        · have j1 : ¬ ((j : Int) < (q.length : Int)) := by omega
          rw [List.take_of_length_le jge]
          have hlf : lft q x = px ++ sx := lft_all hqe ((nodup_iff.1 c.r.nodup).1 ix q hix)
          rw [hlf]
          have hqs' := hqs.set (j := ix) (q := px ++ sx) (z := (castL (px ++ sx), 0)) (Nat.zero_le _) rfl
          have hA1 : ∀ mo : List (Nat × LO), Lw.look 1 mo = some (.arr 1 ((qR Z).set ix [.own 12 (px ++ sx).length 0 (px ++ sx).length])) → Lw.look 12 mo = some (.arr 1 (oF (cI .i64) (castL (px ++ sx)))) → (∀ j, j ≠ ix → j < Z.length → Lw.look (j + 2) mo = Lw.look (j + 2) (qS Z)) → At1 mo (gOf [(i, 12)]) (Z.set ix (castL (px ++ sx), 0)) := by
            intro mo m1 m2 m3
            refine at1_set (by omega) (by simp [gOf, Lw.look, hid]) (fun j hj _ => ?_) m1 (castL_len _) rfl (by simp only [castL_len, Nat.sub_zero]) m2 m3
            simp only [gOf, Lw.look]; rw [if_neg (by omega)]
          (repeat' first | refine LOps.done ?_ | (apply LOps.mv; (focus (first | exact Goes.free | exact Goes.on rfl rfl (by with_reducible rfl) true (by decide))); (focus (exact rfl)); (focus (exact rfl))) | (apply LOps.loc; (focus (first | exact Goes.free | exact Goes.on rfl rfl (by with_reducible rfl) true (by decide))); (focus (exact rfl)); (focus (exact rfl)); (focus (simp only [go_sem, ↓reduceIte, Nat.reduceEqDiff, reduceCtorEq, Nat.reduceLT, Nat.reduceAdd, j1, aL, hqRl, ntt, hwk]; with_reducible rfl))) | (apply LOps.loc0; (focus (first | exact Goes.free | exact Goes.on rfl rfl (by with_reducible rfl) true (by decide))); (focus (exact rfl)); (focus (simp only [go_sem, ↓reduceIte, Nat.reduceEqDiff, reduceCtorEq, Nat.reduceLT, Nat.reduceAdd, hget, hqRl]; with_reducible rfl))) | refine LK.seq ?_ | refine LK.skip ?_ | refine LK.blk ?_ | refine LK.fin ?_ | refine LK.exit' rfl ?_ | (apply LK.condT2; (focus (exact rfl)); (focus (with_reducible rfl)); (focus (first | with_reducible rfl | decide | (with_reducible exact Bool.true_or _) | (with_reducible exact congrArg (fun b => b || _) (Bool.true_or _))))) | (apply LK.condF2; (focus (exact rfl)); (focus (with_reducible rfl)); (focus (first | with_reducible rfl | decide | (with_reducible exact Bool.false_and _) | (with_reducible exact congrArg (fun b => b && _) (Bool.false_and _))))) | refine LK.regc ?_ | ((apply LOps.inline; (focus (first | exact Goes.free | exact Goes.on rfl rfl (by with_reducible rfl) true (by decide))); (focus (exact rfl)); (focus (exact rfl)); (focus (simp only [go_sem, ↓reduceIte, Nat.reduceEqDiff]; exact rfl)); (focus (simp only [go_sem]))); (first | (refine LCalls.mono (by (refine holds_at c' hqs' (hA1 _ (by simp only [go_sem, ↓reduceIte, Nat.reduceEqDiff, reduceCtorEq]) (by simp only [go_sem, ↓reduceIte]) (fun j _ hl => by obtain ⟨j0, j1, j2, j3, j4⟩ := hjn j hl; simp only [Lw.look, j0, j1, j3, j4, ↓reduceIte])) (by simp only [List.length_set]; omega))) ?_; (rintro _ _ ⟨rfl, rfl⟩)) | fail)) | fail)
          refine hfin n' h' t' _ _ [(i, 12)] _ _ _ c' l1 l2 hqs' (by simp; omega) (by simp) rfl (by simp only [go_sem, ↓reduceIte, reduceCtorEq]) (hA1 _ (by simp only [go_sem, ↓reduceIte, Nat.reduceEqDiff, reduceCtorEq]) (by simp only [go_sem, ↓reduceIte]) (fun j _ hl => by obtain ⟨j0, j1, j2, j3, j4⟩ := hjn j hl; simp only [Lw.look, j0, j1, j3, j4, ↓reduceIte]))
    · have kf2 : (Int.tmod o.kind 4 == 2) = false := by simpa using k2
      by_cases hab : a = b
      · subst hab
        have hp := join_eq n h t a c.ok (by omega)
        have tt : ((a : Int) != (a : Int)) = false := by simp
        have tf : (false != false) = false := rfl
        (repeat' first | refine LOps.done ?_ | (apply LOps.mv; (focus (first | exact Goes.free | exact Goes.on rfl rfl (by with_reducible rfl) true (by decide))); (focus (exact rfl)); (focus (exact rfl))) | (apply LOps.asg; (focus (first | exact Goes.free | exact Goes.on rfl rfl (by with_reducible rfl) true (by decide))); (focus (exact rfl)); (focus (exact rfl))) | (apply LOps.ext; (focus (first | exact Goes.free | exact Goes.on rfl rfl (by with_reducible rfl) true (by decide))); (focus (exact rfl)); (focus (exact rfl)); (focus (exact rfl))) | (apply LOps.loc; (focus (first | exact Goes.free | exact Goes.on rfl rfl (by with_reducible rfl) true (by decide))); (focus (exact rfl)); (focus (exact rfl)); (focus (simp only [go_sem, ↓reduceIte, Nat.reduceEqDiff, reduceCtorEq, Nat.reduceAdd, Int.reduceBEq, kf1, kf2, tt, ntt, hwk]; with_reducible rfl))) | (apply LOps.loc0; (focus (first | exact Goes.free | exact Goes.on rfl rfl (by with_reducible rfl) true (by decide))); (focus (exact rfl)); (focus (simp only [go_sem, ↓reduceIte, Nat.reduceEqDiff, reduceCtorEq, Nat.reduceLT, Nat.reduceAdd, look_upd, upd_upd]; with_reducible rfl))) | refine LK.seq ?_ | refine LK.skip ?_ | refine LK.blk ?_ | refine LK.fin ?_ | (apply LK.condF2; (focus (exact rfl)); (focus (with_reducible rfl)); (focus (first | with_reducible rfl | decide | (with_reducible exact Bool.false_and _) | (with_reducible exact congrArg (fun b => b && _) (Bool.false_and _))))) | refine LK.regc ?_ | (apply LOps.locFn; (focus (first | exact Goes.free | exact Goes.on rfl rfl (by with_reducible rfl) true (by decide))); (focus (exact rfl)); (focus (exact rfl)); (focus (simp only [go_sem, ↓reduceIte, Nat.reduceEqDiff]; exact rfl)); (focus (simp only [go_sem])); (focus (first | exact hp | (refine hsame _ (by simp only [go_sem, ↓reduceIte, Nat.reduceEqDiff, reduceCtorEq, Nat.reduceLT, Nat.reduceAdd, Int.reduceBEq, Int.reduceBNe, Int.reduceEq, Int.reduceLE, Int.reduceLT, Int.reduceToNat, Nat.reduceLeDiff, Nat.reduceMul, Nat.reduceSub, kf1, kf2, look_upd, upd_upd, tt, tf, ntt, hwk]) (fun j hj => ?_) _; simp only [Lw.look, look_upd, show ¬ (0 : Nat) = j + 2 by omega, show ¬ (1 : Nat) = j + 2 by omega, show ¬ (10 : Nat) = j + 2 by omega, show ¬ (11 : Nat) = j + 2 by omega, ↓reduceIte]))); (focus (first | rfl | simp [go_sem])); (focus (first | rfl | simp [go_sem]))) | ((apply LOps.inline; (focus (first | exact Goes.free | exact Goes.on rfl rfl (by with_reducible rfl) true (by decide))); (focus (exact rfl)); (focus (exact rfl)); (focus (simp only [go_sem, ↓reduceIte, Nat.reduceEqDiff]; exact rfl)); (focus (simp only [go_sem]))); (first | (refine LCalls.mono (by first | exact hp | (refine hsame _ (by simp only [go_sem, ↓reduceIte, reduceCtorEq]) (fun j hj => ?_) _; simp only [Lw.look, look_upd, show ¬ (0 : Nat) = j + 2 by omega, show ¬ (1 : Nat) = j + 2 by omega, show ¬ (10 : Nat) = j + 2 by omega, show ¬ (11 : Nat) = j + 2 by omega, ↓reduceIte])) ?_; (rintro _ _ ⟨rfl, rfl⟩)) | fail)) | fail)
        refine hfin n h t _ _ [] _ _ _ c rfl rfl hqs (by simp) (by simp) rfl (by simp only [go_sem, ↓reduceIte]) (at1_same (by simp only [go_sem, ↓reduceIte, reduceCtorEq]) (fun j hj => by simp only [Lw.look, look_upd, show ¬ (0 : Nat) = j + 2 by omega, show ¬ (1 : Nat) = j + 2 by omega, show ¬ (10 : Nat) = j + 2 by omega, show ¬ (11 : Nat) = j + 2 by omega, ↓reduceIte]))
      · obtain ⟨qb, hqb⟩ := idx_all (show b < Q.length by omega)
        obtain ⟨zb, hzb, zb1, zb2, zb3⟩ := hqs.get hqb
        have hgetb := qR_get hzb
        obtain ⟨ib, hidb⟩ : ∃ i, i = b + 2 := ⟨_, rfl⟩
        rw [← hidb, zb3] at hgetb
        have hlib : Lw.look ib (qS Z) = some (.arr 1 (oF (cI .i64) zb.1)) := by rw [hidb]; exact qS_look hzb
        have hbZ : b < (qR Z).length := by omega
        obtain ⟨n', h', t', hp, c', l1, l2⟩ := join_yes c hab hq hqb
        have tt : ((a : Int) != (b : Int)) = true := by rw [bne_iff_ne]; omega
        have tf : (true != true) = false := rfl
        have bL : ((b : Int) < (L : Int)) := by omega
        have e0 : (0 = ib) = False := eq_false (by omega)
        have e1 : (1 = ib) = False := eq_false (by omega)
        have e10 : (10 = ib) = False := eq_false (by omega)
        have e11 : (11 = ib) = False := eq_false (by omega)
        have g0b : (ib = 0) = False := eq_false (by omega)
        have g1b : (ib = 1) = False := eq_false (by omega)
        have g11b : (ib = 11) = False := eq_false (by omega)
        have hle : z.2 + q.length ≤ z.1.length := by omega
        have hct : List.take q.length (castL q) = castL q := List.take_of_length_le (by rw [castL_len]; exact Nat.le_refl _)
        (repeat' first | refine LOps.done ?_ | (apply LOps.mv; (focus (first | exact Goes.free | exact Goes.on rfl rfl (by with_reducible rfl) true (by decide))); (focus (exact rfl)); (focus (exact rfl))) | (apply LOps.asg; (focus (first | exact Goes.free | exact Goes.on rfl rfl (by with_reducible rfl) true (by decide))); (focus (exact rfl)); (focus (exact rfl))) | (apply LOps.ext; (focus (first | exact Goes.free | exact Goes.on rfl rfl (by with_reducible rfl) true (by decide))); (focus (exact rfl)); (focus (exact rfl)); (focus (exact rfl))) | (apply LOps.loc; (focus (first | exact Goes.free | exact Goes.on rfl rfl (by with_reducible rfl) true (by decide))); (focus (exact rfl)); (focus (exact rfl)); (focus (simp only [go_sem, ↓reduceIte, Nat.reduceEqDiff, reduceCtorEq, Nat.reduceAdd, kf1, kf2, tt, ntt]; with_reducible rfl))) | (apply LOps.loc0; (focus (first | exact Goes.free | exact Goes.on rfl rfl (by with_reducible rfl) true (by decide))); (focus (exact rfl)); (focus (simp only [go_sem, ↓reduceIte, Nat.reduceEqDiff, reduceCtorEq, Nat.reduceLT, Nat.reduceAdd, look_upd, upd_upd]; with_reducible rfl))) | refine LK.seq ?_ | refine LK.skip ?_ | (apply LK.condT2; (focus (exact rfl)); (focus (with_reducible rfl)); (focus (first | with_reducible rfl | decide | (with_reducible exact Bool.true_or _) | (with_reducible exact congrArg (fun b => b || _) (Bool.true_or _))))) | (apply LK.condF2; (focus (exact rfl)); (focus (with_reducible rfl)); (focus (first | with_reducible rfl | decide | (with_reducible exact Bool.false_and _) | (with_reducible exact congrArg (fun b => b && _) (Bool.false_and _))))) | refine LK.regc ?_ | (apply LOps.locFn; (focus (first | exact Goes.free | exact Goes.on rfl rfl (by with_reducible rfl) true (by decide))); (focus (exact rfl)); (focus (exact rfl)); (focus (simp only [go_sem, ↓reduceIte, Nat.reduceEqDiff]; exact rfl)); (focus (simp only [go_sem])); (focus (first | exact hp)); (focus (first | rfl | simp [go_sem])); (focus (first | rfl | simp [go_sem]))) | fail)
        refine LK.keep [0, 1, 7, 8, 10, 13, 14, 17, 18, 56, 57, 58] rfl ?_
        have k0 : Lw.look 0 (((0, LO.arr 3 [[sI n, sI h, sI t]]) :: (1, LO.arr 1 (qR Z)) :: upd 11 (LO.arr 3 [[sI n', sI h', sI t']]) (upd 10 (LO.arr 4 [[vi o.kind, vi o.list, vi o.to, vi o.node]]) (qS Z))) : List (Nat × LO)) = some (.arr 3 [[sI n, sI h, sI t]]) := rfl
        obtain ⟨mo, hmo⟩ : ∃ mo : List (Nat × LO), mo = ((0, LO.arr 3 [[sI n, sI h, sI t]]) :: (1, LO.arr 1 (qR Z)) :: upd 11 (LO.arr 3 [[sI n', sI h', sI t']]) (upd 10 (LO.arr 4 [[vi o.kind, vi o.list, vi o.to, vi o.node]]) (qS Z))) := ⟨_, rfl⟩
        rw [← hmo]
        have m0 : Lw.look 0 mo = some (.arr 3 [[sI n, sI h, sI t]]) := by rw [hmo]; rfl
        have m1 : Lw.look 1 mo = some (.arr 1 (qR Z)) := by rw [hmo]; rfl
        have m11 : Lw.look 11 mo = some (.arr 3 [[sI n', sI h', sI t']]) := by rw [hmo]; simp only [Lw.look, look_upd, go_sem, ↓reduceIte, Nat.reduceEqDiff, reduceCtorEq]
        have mi : Lw.look i mo = some (.arr 1 (oF (cI .i64) z.1)) := by rw [hmo]; simp only [Lw.look, look_upd, f0, f1, f10, f11, hli, if_false]
        have mib : Lw.look ib mo = some (.arr 1 (oF (cI .i64) zb.1)) := by rw [hmo]; simp only [Lw.look, look_upd, e0, e1, e10, e11, hlib, if_false]
        have mj : ∀ j, j < Z.length → Lw.look (j + 2) mo = Lw.look (j + 2) (qS Z) := fun j hj => by rw [hmo]; simp only [Lw.look, look_upd, show ¬ (0 : Nat) = j + 2 by omega, show ¬ (1 : Nat) = j + 2 by omega, show ¬ (10 : Nat) = j + 2 by omega, show ¬ (11 : Nat) = j + 2 by omega, if_false]
        clear hmo
        refine LK.drawnG Ty.mixed (fun T' σ' => ∃ (nx : Nat) (mo : List (Nat × LO)) (jb off2 : Nat) (Z2 : List Int), σ' = ⟨nx, mo⟩ ∧ 12 ≤ nx ∧ readB T' [0, 1, 7, 8, 10, 13, 14, 17, 18, 56, 57, 58] = some [(0, vi N), (1, vi L), (7, vb true), (8, .ptr 0 1 0 0), (10, .own 1 L 0 L), (13, vi a), (14, vi b), (17, vi 0), (18, .ptr 11 1 0 0), (56, sOp ops), (57, vi ops.length), (58, vi k)] ∧ Lw.look 0 mo = some (.arr 3 [[sI n, sI h, sI t]]) ∧ Lw.look 11 mo = some (.arr 3 [[sI n', sI h', sI t']]) ∧ off2 ≤ Z2.length ∧ Z2.drop off2 = castL (qb ++ q) ∧ Lw.look 1 mo = some (.arr 1 ((qR Z).set b [.own jb Z2.length off2 (qb.length + q.length)])) ∧ Lw.look jb mo = some (.arr 1 (oF (cI .i64) Z2)) ∧ (jb = ib ∨ 12 ≤ jb ∧ jb < nx) ∧ ∀ j, j ≠ b → j < Z.length → Lw.look (j + 2) mo = Lw.look (j + 2) (qS Z)) (fun E0 w0 hS0 => ?_) ?_
        · rcases List.eq_nil_or_concat q with hqe | ⟨q0, y0, hqe⟩
          · have hr0 : oF (cI .i64) (castL q) = [] := by rw [hqe]; rfl
            apply SRun.all (fun _ => True)
            · exact fun _ _ _ => trivial
            · iterate 4 (apply SRun.move; (focus (exact rfl)); (focus (exact rfl)))
              (apply SRun.read; (focus (exact rfl)); (focus (simp only [go_sem, ↓reduceIte, Nat.reduceEqDiff, Nat.reduceLT, m1, hqRl, bL]; exact rfl)); (focus (exact rfl)))
              (apply SRun.read; (focus (exact rfl)); (focus (simp only [go_sem, ↓reduceIte, m1, hqRl, hgetb]; exact rfl)); (focus (exact rfl)))
              iterate 2 (apply SRun.move; (focus (exact rfl)); (focus (exact rfl)))
              (apply SRun.read; (focus (exact rfl)); (focus (simp only [go_sem, ↓reduceIte, Nat.reduceEqDiff, Nat.reduceLT, m1, hqRl, aL]; exact rfl)); (focus (exact rfl)))
              (apply SRun.read; (focus (exact rfl)); (focus (simp only [go_sem, ↓reduceIte, m1, hqRl, hget]; exact rfl)); (focus (exact rfl)))
              apply SRun.step
              · exact rfl
              · exact (LStep.nothing (t := 22) (e := 3) (sz := 1) (by_ := 8) (zc := [vi 0]) (x := .tmp 118) (y := .tmp 122) (id := ib) (n := zb.1.length) (off := zb.2) (len := qb.length) (v := .own i z.1.length z.2 q.length) (old := oF (cI .i64) zb.1) rfl rfl (by kernel_rfl) rfl rfl (by rw [lookB_eq]; exact mib) (by simp only [go_sem, ↓reduceIte, mi, oF_len, hle, oF_drop, z2, hr0]) (oF_len _ _) zb1).x
              · exact rfl
              (apply SRun.read; (focus (exact rfl)); (focus (simp only [go_sem, ↓reduceIte, Nat.reduceEqDiff, Nat.reduceLT, m1, hqRl, bL]; exact rfl)); (focus (exact rfl)))
              (apply SRun.write; (focus (exact rfl)); (focus (simp only [go_sem, ↓reduceIte, Nat.reduceEqDiff, Nat.reduceLT, m1, hqRl, hgetb]; exact rfl)))
              exact .nil _ _
            · kernel_rfl
            · refine ⟨12, upd 1 (.arr 1 ((qR Z).set b [.own ib zb.1.length zb.2 qb.length])) mo, ib, zb.2, zb.1, rfl, Nat.le_refl _, rfl, by simp only [look_upd, go_sem, ↓reduceIte, reduceCtorEq, m0], by simp only [look_upd, go_sem, ↓reduceIte, Nat.reduceEqDiff, m11], by omega, by rw [zb2, hqe, List.append_nil], by simp only [look_upd, go_sem, ↓reduceIte, hqe, List.length_nil, Nat.add_zero], by simp only [look_upd, e1, mib, if_false], .inl rfl, fun j hj hjl => ?_⟩
              rw [look_upd, if_neg (by omega)]; exact mj j hjl
          · have hkl : (oF (cI .i64) (castL q)).length = q.length := by rw [oF_len, castL_len]
            have hk0 : 0 < (oF (cI .i64) (castL q)).length := by rw [hkl, hqe]; simp
            have hkm : qb.length + (oF (cI .i64) (castL q)).length ≤ maxLen ∧ (qb.length + (oF (cI .i64) (castL q)).length) * 8 ≤ 140737488355328 := by
              have := (c.r.le hq).1; have := (c.r.le hqb).1; rw [hkl]; simp only [maxLen]; omega
            rcases room_or hS0 (id := ib) (n := zb.1.length) (off := zb.2) (k := qb.length + (oF (cI .i64) (castL q)).length) mib (oF_len _ _) with hr | hr
            · apply SRun.all (Room ib zb.1.length zb.2 (qb.length + (oF (cI .i64) (castL q)).length))
              · exact hr
              · iterate 4 (apply SRun.move; (focus (exact rfl)); (focus (exact rfl)))
                (apply SRun.read; (focus (exact rfl)); (focus (simp only [go_sem, ↓reduceIte, Nat.reduceEqDiff, Nat.reduceLT, m1, hqRl, bL]; exact rfl)); (focus (exact rfl)))
                (apply SRun.read; (focus (exact rfl)); (focus (simp only [go_sem, ↓reduceIte, m1, hqRl, hgetb]; exact rfl)); (focus (exact rfl)))
                iterate 2 (apply SRun.move; (focus (exact rfl)); (focus (exact rfl)))
                (apply SRun.read; (focus (exact rfl)); (focus (simp only [go_sem, ↓reduceIte, Nat.reduceEqDiff, Nat.reduceLT, m1, hqRl, aL]; exact rfl)); (focus (exact rfl)))
                (apply SRun.read; (focus (exact rfl)); (focus (simp only [go_sem, ↓reduceIte, m1, hqRl, hget]; exact rfl)); (focus (exact rfl)))
                apply SRun.step
                · exact rfl
                · exact LStepX.room (t := 22) (e := 3) (sz := 1) (by_ := 8) (zc := [vi 0]) (x := .tmp 118) (y := .tmp 122) (id := ib) (n := zb.1.length) (off := zb.2) (len := qb.length) (v := .own i z.1.length z.2 q.length) (old := oF (cI .i64) zb.1) (rows := oF (cI .i64) (castL q)) rfl rfl (by kernel_rfl) rfl rfl (by rw [lookB_eq]; exact mib) (by simp only [go_sem, ↓reduceIte, mi, oF_len, hle, oF_drop, z2, oF_take, hct]) (oF_len _ _) zb1 hk0 hkm
                · exact rfl
                (apply SRun.read; (focus (exact rfl)); (focus (simp only [go_sem, ↓reduceIte, Nat.reduceEqDiff, Nat.reduceLT, look_upd, m1, hqRl, bL, g1b]; exact rfl)); (focus (exact rfl)))
                (apply SRun.write; (focus (exact rfl)); (focus (simp only [go_sem, ↓reduceIte, Nat.reduceEqDiff, Nat.reduceLT, look_upd, m1, hqRl, hgetb, g1b]; exact rfl)))
                exact .nil _ _
              · kernel_rfl
              · refine ⟨12, upd 1 (.arr 1 ((qR Z).set b [.own ib (zb.1.length + (castL q).length) zb.2 (qb.length + (castL q).length)])) (upd ib (.arr 1 (oF (cI .i64) (zb.1 ++ castL q))) mo), ib, zb.2, zb.1 ++ castL q, rfl, Nat.le_refl _, rfl, by simp only [look_upd, go_sem, ↓reduceIte, reduceCtorEq, g0b, m0], by simp only [look_upd, go_sem, ↓reduceIte, Nat.reduceEqDiff, g11b, m11], by simp; omega, ?_, by simp only [look_upd, go_sem, ↓reduceIte, List.length_append, castL_len], by simp only [look_upd, e1, ↓reduceIte], .inl rfl, fun j hj hjl => ?_⟩
                · rw [List.drop_append_of_le_length (by omega), zb2]; simp [castL]
                · rw [look_upd, if_neg (by omega), look_upd, if_neg (by omega)]; exact mj j hjl
            · apply SRun.all (Far ib zb.1.length zb.2 (qb.length + (oF (cI .i64) (castL q)).length))
              · exact hr
              · iterate 4 (apply SRun.move; (focus (exact rfl)); (focus (exact rfl)))
                (apply SRun.read; (focus (exact rfl)); (focus (simp only [go_sem, ↓reduceIte, Nat.reduceEqDiff, Nat.reduceLT, m1, hqRl, bL]; exact rfl)); (focus (exact rfl)))
                (apply SRun.read; (focus (exact rfl)); (focus (simp only [go_sem, ↓reduceIte, m1, hqRl, hgetb]; exact rfl)); (focus (exact rfl)))
                iterate 2 (apply SRun.move; (focus (exact rfl)); (focus (exact rfl)))
                (apply SRun.read; (focus (exact rfl)); (focus (simp only [go_sem, ↓reduceIte, Nat.reduceEqDiff, Nat.reduceLT, m1, hqRl, aL]; exact rfl)); (focus (exact rfl)))
                (apply SRun.read; (focus (exact rfl)); (focus (simp only [go_sem, ↓reduceIte, m1, hqRl, hget]; exact rfl)); (focus (exact rfl)))
                apply SRun.step
                · exact rfl
                · exact LStepX.far (t := 22) (e := 3) (sz := 1) (by_ := 8) (zc := [vi 0]) (x := .tmp 118) (y := .tmp 122) (id := ib) (n := zb.1.length) (off := zb.2) (len := qb.length) (v := .own i z.1.length z.2 q.length) (old := oF (cI .i64) zb.1) (rows := oF (cI .i64) (castL q)) rfl rfl (by kernel_rfl) rfl rfl (by rw [lookB_eq]; exact mib) (by simp only [go_sem, ↓reduceIte, mi, oF_len, hle, oF_drop, z2, oF_take, hct]) (oF_len _ _) zb1 hk0 hkm
                · exact rfl
                (apply SRun.read; (focus (exact rfl)); (focus (simp only [go_sem, ↓reduceIte, Nat.reduceEqDiff, Nat.reduceLT, Nat.reduceAdd, look_upd, m1, hqRl, bL]; exact rfl)); (focus (exact rfl)))
                (apply SRun.write; (focus (exact rfl)); (focus (simp only [go_sem, ↓reduceIte, Nat.reduceEqDiff, Nat.reduceLT, Nat.reduceAdd, look_upd, m1, hqRl, hgetb]; exact rfl)))
                exact .nil _ _
              · kernel_rfl
              · refine ⟨13, upd 1 (.arr 1 ((qR Z).set b [.own 12 (qb.length + (castL q).length) 0 (qb.length + (castL q).length)])) (upd 12 (.arr 1 (oF (cI .i64) (zb.1.drop zb.2 ++ castL q))) mo), 12, 0, castL (qb ++ q), rfl, by omega, rfl, by simp only [look_upd, go_sem, ↓reduceIte, reduceCtorEq, m0], by simp only [look_upd, go_sem, ↓reduceIte, Nat.reduceEqDiff, m11], by omega, rfl, by simp only [look_upd, go_sem, ↓reduceIte, List.length_append, castL_len], ?_, .inr ⟨by omega, by omega⟩, fun j hj hjl => ?_⟩
                · simp only [look_upd, go_sem, ↓reduceIte, Nat.reduceEqDiff]; rw [zb2]; simp [castL]
                · rw [look_upd, if_neg (by omega), look_upd, if_neg (by omega)]; exact mj j hjl
        · clear m0 m1 m11 mi mib mj
          rintro T' σ' ⟨nx, mo, jb, off2, Z2, rfl, hnx, hT, m0, m11, y1, y2, m1, mjb, hjb, mj⟩
          refine LK.keep [0, 1, 7, 8, 10, 13, 14, 17, 18, 56, 57, 58] hT ?_
          have hRl : ((qR Z).set b [LV.own jb Z2.length off2 (qb.length + q.length)]).length = L := by rw [List.length_set]; exact hqRl
          have hRt : ((qR Z).set b [LV.own jb Z2.length off2 (qb.length + q.length)]).take L = (qR Z).set b [LV.own jb Z2.length off2 (qb.length + q.length)] := List.take_of_length_le (by omega)
          have hRg : ((qR Z).set b [LV.own jb Z2.length off2 (qb.length + q.length)])[a]? = some [.own i z.1.length z.2 q.length] := by rw [List.getElem?_set_ne (Ne.symm hab)]; exact hget
          have haR : a < ((qR Z).set b [LV.own jb Z2.length off2 (qb.length + q.length)]).length := by omega
          have hy3 := congrArg List.length y2
          rw [List.length_drop, castL_len, List.length_append] at hy3
          have x0 : (nx = 0) = False := eq_false (by omega)
          have x1 : (nx = 1) = False := eq_false (by omega)
          have x11 : (nx = 11) = False := eq_false (by omega)
          have hqs' : Qs (joinQ Q a b q qb) ((Z.set b (Z2, off2)).set a ([], 0)) := by
            unfold joinQ
            exact (hqs.set (j := b) (q := qb ++ q) (z := (Z2, off2)) y1 y2).set (Nat.le_refl _) rfl
          generalize hR2 : (qR Z).set b [LV.own jb Z2.length off2 (qb.length + q.length)] = R2 at m1 hRl hRt hRg haR
          have n0 : 0 < nx := by omega
          have n1 : 1 < nx := by omega
          (repeat' first | refine LOps.done ?_ | (apply LOps.mv; (focus (first | exact Goes.free | exact Goes.on rfl rfl (by with_reducible rfl) true (by decide))); (focus (exact rfl)); (focus (exact rfl))) | (apply LOps.loc; (focus (first | exact Goes.free | exact Goes.on rfl rfl (by with_reducible rfl) true (by decide))); (focus (exact rfl)); (focus (exact rfl)); (focus (simp only [go_sem, ↓reduceIte, Nat.reduceEqDiff, reduceCtorEq, Nat.reduceLT, Nat.reduceAdd, look_upd, m1, m11, hRl, aL]; with_reducible rfl))) | (apply LOps.loc0; (focus (first | exact Goes.free | exact Goes.on rfl rfl (by with_reducible rfl) true (by decide))); (focus (exact rfl)); (focus (simp only [go_sem, ↓reduceIte, Nat.reduceEqDiff, reduceCtorEq, Nat.reduceAdd, look_upd, m0, m1, hRl, hRg, n0, n1]; with_reducible rfl))) | refine LK.seq ?_ | refine LK.blk ?_ | (apply LK.condT2; (focus (exact rfl)); (focus (with_reducible rfl)); (focus (first | with_reducible rfl | decide | (with_reducible exact Bool.true_or _) | (with_reducible exact congrArg (fun b => b || _) (Bool.true_or _))))) | refine LK.regc ?_ | fail)
          have hjbn : (nx = jb) = False := eq_false (by omega)
          have hjb0 : (0 = jb) = False := eq_false (by omega)
          have hjb1 : (1 = jb) = False := eq_false (by omega)
          refine LOps.ownRow 1 1 a n1 (by simp only [look_upd, go_sem, ↓reduceIte, reduceCtorEq]) (List.getElem?_set_self haR) rfl ?_
          rw [List.set_set]
          obtain ⟨l, hl1, hl2, ga, gb, go⟩ : ∃ l : List (Nat × Nat), (∀ p ∈ l, 2 ≤ p.1 ∧ 10 ≤ p.2) ∧ (l.map (·.2)).Nodup ∧ gOf l (a + 2) = nx ∧ gOf l (b + 2) = jb ∧ ∀ j, j ≠ a → j ≠ b → gOf l (j + 2) = j + 2 := by
            have hne : i ≠ ib := by omega
            rcases hjb with hjb | hjb
            · refine ⟨[(i, nx)], by simp; omega, by simp, by simp [gOf, Lw.look, hid], ?_, fun j g1 g2 => ?_⟩
              · rw [hjb, ← hidb]; simp [gOf, Lw.look, hne]
              · simp only [gOf, Lw.look]; rw [if_neg (by omega)]
            · refine ⟨[(i, nx), (ib, jb)], by simp; omega, by simp; omega, by simp [gOf, Lw.look, hid], ?_, fun j g1 g2 => ?_⟩
              · rw [← hidb]; simp [gOf, Lw.look, hne]
              · simp only [gOf, Lw.look]; rw [if_neg (by omega), if_neg (by omega)]
          have hA1 : ∀ mo2 : List (Nat × LO), (∀ u, u ≠ 0 → u ≠ 1 → u ≠ nx → Lw.look u mo2 = Lw.look u mo) → Lw.look 1 mo2 = some (.arr 1 (R2.set a [.own nx 0 0 0])) → Lw.look nx mo2 = some (.arr 1 []) → At1 mo2 (gOf l) ((Z.set b (Z2, off2)).set a ([], 0)) := by
            intro mo2 q1 q2 q3
            rw [← hR2] at q2
            refine at1_set2 (ia := nx) (ib := jb) (by omega) (by omega) hab ga gb (fun j g1 g2 _ => go j g1 g2) q2 rfl rfl (by omega) q3 (by rw [q1 jb (by omega) (by omega) (by omega)]; exact mjb) (fun j g1 g2 hj => ?_)
            rw [q1 (j + 2) (by omega) (by omega) (by omega)]; exact mj j g2 hj
          (repeat' first | refine LOps.done ?_ | (apply LOps.mv; (focus (first | exact Goes.free | exact Goes.on rfl rfl (by with_reducible rfl) true (by decide))); (focus (exact rfl)); (focus (exact rfl))) | (apply LOps.loc; (focus (first | exact Goes.free | exact Goes.on rfl rfl (by with_reducible rfl) true (by decide))); (focus (exact rfl)); (focus (exact rfl)); (focus (simp only [go_sem, ↓reduceIte, reduceCtorEq, ntt, hwk]; with_reducible rfl))) | refine LK.skip ?_ | refine LK.blk ?_ | refine LK.fin ?_ | (apply LK.condF2; (focus (exact rfl)); (focus (with_reducible rfl)); (focus (first | with_reducible rfl | decide | (with_reducible exact Bool.false_and _) | (with_reducible exact congrArg (fun b => b && _) (Bool.false_and _))))) | refine LK.regc ?_ | ((apply LOps.inline; (focus (first | exact Goes.free | exact Goes.on rfl rfl (by with_reducible rfl) true (by decide))); (focus (exact rfl)); (focus (exact rfl)); (focus (simp only [go_sem, ↓reduceIte, Nat.reduceEqDiff]; exact rfl)); (focus (simp only [go_sem]))); (first | (refine LCalls.mono (by (refine holds_at c' hqs' (hA1 _ (fun u g1 g2 g3 => by rw [look_upd, if_neg (Ne.symm g2), look_upd, if_neg (Ne.symm g3), look_upd, if_neg (Ne.symm g1), look_upd, if_neg (Ne.symm g2)]) (by simp only [look_upd, go_sem, ↓reduceIte, look_upd]) (by simp only [look_upd, go_sem, ↓reduceIte, look_upd, show ¬ 1 = nx by omega])) (by simp only [List.length_set]; omega))) ?_; (rintro _ _ ⟨rfl, rfl⟩)) | fail)) | fail)
          refine hfin n' h' t' _ _ l _ _ _ c' l1 l2 hqs' hl1 hl2 rfl (by simp only [look_upd, go_sem, ↓reduceIte, reduceCtorEq, x0]) (hA1 _ (fun u g1 g2 g3 => by rw [look_upd, if_neg (Ne.symm g2), look_upd, if_neg (Ne.symm g3), look_upd, if_neg (Ne.symm g1), look_upd, if_neg (Ne.symm g2)]) (by simp only [look_upd, go_sem, ↓reduceIte]) (by simp only [look_upd, go_sem, ↓reduceIte, show ¬ 1 = nx by omega]))
  · have i1 : ¬ ((k : Int) < (ops.length : Int)) := by omega
    (repeat' first | refine LOps.done ?_ | (apply LOps.mv; (focus (first | exact Goes.free | exact Goes.on rfl rfl (by with_reducible rfl) true (by decide))); (focus (exact rfl)); (focus (exact rfl))) | (apply LOps.asg; (focus (first | exact Goes.free | exact Goes.on rfl rfl (by with_reducible rfl) true (by decide))); (focus (exact rfl)); (focus (exact rfl))) | (apply LOps.loc; (focus (first | exact Goes.free | exact Goes.on rfl rfl (by with_reducible rfl) true (by decide))); (focus (exact rfl)); (focus (exact rfl)); (focus (simp only [go_sem, ↓reduceIte, Nat.reduceEqDiff, i1]; with_reducible rfl))) | refine LK.seq ?_ | refine LK.ret' ?_ | refine LK.exit' rfl ?_ | (apply LK.condF2; (focus (exact rfl)); (focus (with_reducible rfl)); (focus (first | with_reducible rfl | decide | (with_reducible exact Bool.false_and _) | (with_reducible exact congrArg (fun b => b && _) (Bool.false_and _))))) | refine LK.regc ?_ | (apply retQ; (focus (first | exact lres_one rfl | exact lres_more rfl | (simp only [lres, lresv, Try.results7, go_sem, ↓reduceIte, Nat.reduceEqDiff, reduceCtorEq, Nat.reduceLT, Nat.reduceAdd, Int.reduceBEq, Int.reduceBNe, Int.reduceEq, Int.reduceLE, Int.reduceLT, Int.reduceToNat, Nat.reduceLeDiff, Nat.reduceMul, Nat.reduceSub, i1]; exact rfl)))) | fail)
    all_goals rfl
set_option maxHeartbeats 4000000 in
set_option maxRecDepth 20000 in
theorem queues_skip (N L : Int) (ops : List OpI) (h : N < 1 ∨ 12 < N ∨ L < 1 ∨ 5 < L ∨ 80 < ops.length) : Fun Try.prog 7 [vi N, vi L, sOp ops] (vb true) := by
  have hc : (decide (N < 1) || decide (N > 12) || decide (L < 1) || decide (L > 5) || decide ((ops.length : Int) > 80)) = true := by simp only [Bool.or_eq_true, decide_eq_true_eq]; omega
  have ntt : (!true) = false := rfl
  (refine LCalls.enter Try.func7 rfl (by simp [Try.ntmps7]) (LK.start ?_); simp only [Try.ntmps7, enterA, Nat.zero_add])
  (repeat' first | refine LOps.done ?_ | (apply LOps.mv; (focus (first | exact Goes.free | exact Goes.on rfl rfl (by with_reducible rfl) true (by decide))); (focus (exact rfl)); (focus (exact rfl))) | (apply LOps.asg; (focus (first | exact Goes.free | exact Goes.on rfl rfl (by with_reducible rfl) true (by decide))); (focus (exact rfl)); (focus (exact rfl))) | (apply LOps.loc; (focus (first | exact Goes.free | exact Goes.on rfl rfl (by with_reducible rfl) true (by decide))); (focus (exact rfl)); (focus (exact rfl)); (focus (simp only [go_sem, ↓reduceIte, Nat.reduceEqDiff, reduceCtorEq, ntt]; with_reducible rfl))) | (apply LOps.pass; (focus (first | exact Goes.on rfl rfl (by with_reducible rfl) false (by decide) | exact Goes.undef rfl rfl (by with_reducible rfl))); (focus (exact rfl))) | (apply LOps.scEnd; (focus (exact rfl)); (focus (with_reducible rfl))) | refine LK.seq ?_ | refine LK.skip ?_ | (apply LK.condF2; (focus (exact rfl)); (focus (with_reducible rfl)); (focus (first | with_reducible rfl | decide | (with_reducible exact Bool.false_and _) | (with_reducible exact congrArg (fun b => b && _) (Bool.false_and _))))) | refine LK.regc ?_ | (apply LOps.locFn; (focus (first | exact Goes.free | exact Goes.on rfl rfl (by with_reducible rfl) true (by decide))); (focus (exact rfl)); (focus (exact rfl)); (focus (simp only [go_sem]; exact rfl)); (focus (simp only [go_sem])); (focus (exact live_fun)); (focus (first | rfl | simp [go_sem])); (focus (first | rfl | simp [go_sem]))) | (apply LOps.or2; exact rfl; exact rfl; exact rfl; exact rfl; exact rfl; (focus (with_reducible rfl)); (focus (first | kernel_rfl | rfl))) | refine Under.mk (fun hg => ?_) | fail)
  refine LK.condT2 rfl (by first | with_reducible rfl | rfl) (hc) ?_
  (repeat' first | refine LOps.done ?_ | (apply LOps.mv; (focus (first | exact Goes.free | exact Goes.on rfl rfl (by with_reducible rfl) true (by decide))); (focus (exact rfl)); (focus (exact rfl))) | (apply LOps.asg; (focus (first | exact Goes.free | exact Goes.on rfl rfl (by with_reducible rfl) true (by decide))); (focus (exact rfl)); (focus (exact rfl))) | refine LK.seq ?_ | refine LK.ret' ?_ | refine LK.regc ?_ | (apply retQ; (focus (first | exact lres_one rfl | exact lres_more rfl | (simp only [lres, lresv, Try.results7, go_sem, ↓reduceIte, Nat.reduceEqDiff, reduceCtorEq, Nat.reduceLT, Nat.reduceAdd, Int.reduceBEq, Int.reduceBNe, Int.reduceEq, Int.reduceLE, Int.reduceLT, Int.reduceToNat, Nat.reduceLeDiff, Nat.reduceMul, Nat.reduceSub]; exact rfl)))) | fail)
  all_goals rfl
theorem queues_fun (N L : Int) (ops : List OpI) : Fun Try.prog 7 [vi N, vi L, sOp ops] (vb true) := by
  by_cases h : N < 1 ∨ 12 < N ∨ L < 1 ∨ 5 < L ∨ 80 < ops.length
  · exact queues_skip N L ops h
  · obtain ⟨a, rfl⟩ := Int.eq_ofNat_of_zero_le (show 0 ≤ N by omega)
    obtain ⟨b, rfl⟩ := Int.eq_ofNat_of_zero_le (show 0 ≤ L by omega)
    exact queues_ok a b ops (by omega) (by omega) (by omega) (by omega) (by omega)
end Go.Proofs.Ytlikcejcdnkncaa
