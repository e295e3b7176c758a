/- The walks of chapter 16: the law PickLucky, on the way. -/
import Derived.Test.YtflfhgpcmocilaaK18
set_option linter.unusedSimpArgs false
set_option linter.unusedVariables false
namespace Go.Proofs.Ytflfhgpcmocilaa
open Go.Lw
attribute [local irreducible] LK LOps LW
theorem hE_of {l M : List Int} (hl : chk l 0 = 0) (hM : ∀ x ∈ M, 0 ≤ x ∧ x ≤ 16) (h8 : M.length ≤ 8) : hE l M 0 = if sumTo M M.length = 0 then 5 else 0 := by
  have hodd : ∀ x ∈ M, odd x = false := fun x hx => by
    have := hM x hx
    simp only [odd, Bool.or_eq_false_iff, decide_eq_false_iff_not]; omega
  have hany : M.any odd = false := by rw [List.any_eq_false]; exact fun x hx => by rw [hodd x hx]; simp
  have hsb := small_sum hM M.length
  have hbad : hBad l M 0 = false := by
    simp only [hBad, hl, hany, Bool.or_eq_false_iff, decide_eq_false_iff_not, bne_self_eq_false, and_true, true_and]; omega
  rw [hE, hbad, if_neg (by simp), if_neg (by omega)]
theorem lu_ok {l w : List Int} {b : List Bool} (hl : chk l 0 = 0) (hw : lim w) (h : ¬ (w.length < 1 ∨ 8 < w.length ∨ b.length < w.length)) : luBad l 0 (tens w) (b.take w.length) = false := by
  have : (b.take w.length).length = w.length := by rw [List.length_take]; omega
  simp [luBad, hl, chk_tens hw (by omega) (by omega), this, tens_len]
set_option maxHeartbeats 4000000 in
set_option maxRecDepth 10000 in
theorem lk_ok (w : List Int) (b : List Bool) (h : ¬ (w.length < 1 ∨ 8 < w.length ∨ b.length < w.length)) (hlo : lim w) : Fun Try.prog 6 [sI w, sB b] (vb true) := by
  have hc : (decide ((w.length : Int) < 1) || decide ((w.length : Int) > 8) || decide ((b.length : Int) < (w.length : Int))) = false := by simp only [Bool.or_eq_false_iff, decide_eq_false_iff_not]; omega
  have hsm := msk_small hlo b
  have hml := msk_len w b (by omega)
  have hwm := wts_msk w b (by omega)
  have hss := small_sum hsm
  have hodd : ∀ x ∈ msk w b, odd x = false := fun x hx => by
    have := hsm x hx
    simp only [odd, Bool.or_eq_false_iff, decide_eq_false_iff_not]; omega
  obtain ⟨s, hs⟩ := sum_nat hodd
  have hm1 : w.length ≤ maxLen := by simp only [maxLen]; omega
  have hm2 : 8 * w.length ≤ 281474976710656 := by omega
  (refine LCalls.enter Try.func6 rfl (by simp [Try.ntmps6]) (LK.start ?_); simp only [Try.ntmps6, enterA, Nat.zero_add])
  (repeat' first | refine LOps.done ?_ | (apply LOps.mv; (focus (first | exact Goes.free | exact Goes.on rfl rfl (by with_reducible rfl) true (by decide))); (focus (exact rfl)); (focus (exact rfl))) | (apply LOps.asg; (focus (first | exact Goes.free | exact Goes.on rfl rfl (by with_reducible rfl) true (by decide))); (focus (exact rfl)); (focus (exact rfl))) | (apply LOps.loc; (focus (first | exact Goes.free | exact Goes.on rfl rfl (by with_reducible rfl) true (by decide))); (focus (exact rfl)); (focus (exact rfl)); (focus (simp only [go_sem, ↓reduceIte, Nat.reduceEqDiff, reduceCtorEq]; with_reducible rfl))) | (apply LOps.pass; (focus (first | exact Goes.on rfl rfl (by with_reducible rfl) false (by decide) | exact Goes.undef rfl rfl (by with_reducible rfl))); (focus (exact rfl))) | (apply LOps.scEnd; (focus (exact rfl)); (focus (with_reducible rfl))) | refine LK.seq ?_ | refine LK.skip ?_ | (apply LK.condF2; (focus (exact rfl)); (focus (with_reducible rfl)); (focus (first | with_reducible rfl | decide | (with_reducible exact Bool.false_and _) | (with_reducible exact congrArg (fun b => b && _) (Bool.false_and _))))) | refine LK.regc ?_ | (apply LOps.locFn; (focus (first | exact Goes.free | exact Goes.on rfl rfl (by with_reducible rfl) true (by decide))); (focus (exact rfl)); (focus (exact rfl)); (focus (simp only [go_sem]; exact rfl)); (focus (simp only [go_sem])); (focus (exact live_fun)); (focus (first | rfl | simp [go_sem])); (focus (first | rfl | simp [go_sem]))) | (apply LOps.or2; exact rfl; exact rfl; exact rfl; exact rfl; exact rfl; (focus (with_reducible rfl)); (focus (first | kernel_rfl | rfl))) | refine Under.mk (fun hg => ?_) | fail)
  refine LK.condF2 rfl (by first | with_reducible rfl | rfl) (hc) ?_
  (repeat' first | refine LOps.done ?_ | (apply LOps.mv; (focus (first | exact Goes.free | exact Goes.on rfl rfl (by with_reducible rfl) true (by decide))); (focus (exact rfl)); (focus (exact rfl))) | (apply LOps.loc; (focus (first | exact Goes.free | exact Goes.on rfl rfl (by with_reducible rfl) true (by decide))); (focus (exact rfl)); (focus (exact rfl)); (focus (simp only [go_sem, ↓reduceIte]; with_reducible rfl))) | refine LK.seq ?_ | refine LK.skip ?_ | refine LK.block ?_ | refine LK.regc ?_ | fail)
  refine LK.own0 6 5 (by simp only [upd, go_sem]; rfl) rfl ?_
  refine LK.loop (fun k : Nat => w.length - k) (fun k => k ≤ w.length ∧ 0 ≤ sumTo (msk w b) k ∧ sumTo (msk w b) k ≤ 16 * k) (fun k => ⟨166, [(0, sI w), (1, sB b), (5, vb true), (6, .own 0 k 0 k), (7, vi (sumTo (msk w b) k)), (39, sI w), (40, vi w.length), (41, vi k)]⟩) (fun k => [(0, .arr 5 (oF Lo.cT (tens (w.take k))))]) 0 (by simp [sumTo]) (by dsimp only [tens]; exact (Sub.by rfl rfl (by first | rfl | (simp only [subB, MB_all_under, MI_all_under, MB_all_idp, MI_all_idp, oF_under, oF_idp, oF_all_under, oF_all_idp, MB_under, MI_under, MB_idp, MI_idp, evOk, ovOk, nvOk, keepOf, vis, LV.under, LV.unders, LV.idp, LV.idps, LO.under, LO.idp, under_pv, idp_pv, List.all_cons, List.all_nil, List.any_cons, List.any_nil, Nat.reduceBEq, beq_self_eq_true, Bool.and_true, Bool.true_and, Bool.or_true, Bool.true_or, Bool.or_false, Bool.false_or, decide_true, decide_false, Nat.reduceLT, Nat.reduceLeDiff, Nat.le_refl, Nat.reduceAdd, Bool.and_self, Bool.or_self]; done)))) ?_
  rintro k ⟨hk, hs1, hs2⟩ J hJ
  rcases Nat.lt_or_ge k w.length with hlt | hge
  · have i1 : ((k : Int) < (w.length : Int)) := by omega
    obtain ⟨x, hx⟩ := idx_all (show k < w.length by omega)
    obtain ⟨z, hz⟩ := idx_all (show k < b.length by omega)
    have hxb := hlo x (List.mem_of_getElem? hx)
    have i3 : ((k : Int) < (b.length : Int)) := by omega
    have hm := msk_get w b k x z hx hz
    have hsx := sumTo_succ hm
    have hc2 : (decide (x < 1) || decide (x > 16)) = false := by simp only [Bool.or_eq_false_iff, decide_eq_false_iff_not]; omega
    have hwk := wrapn (n := k) (by omega)
    have hp := tens_push hx
    have htl : (tens (w.take k)).length = k := by rw [tens_len, List.length_take]; omega
    have hr : k + 1 ≤ maxLen ∧ (k + 1) * 40 ≤ 140737488355328 := by simp only [maxLen]; omega
    cases z with
    | true =>
      rw [if_pos rfl] at hsx
      have hw2 : IntKind.i64.wrap (sumTo (msk w b) k + x) = sumTo (msk w b) (k + 1) := by rw [← hsx, IntKind.wrap_i64]; omega
      (repeat' first | refine LOps.done ?_ | (apply LOps.mv; (focus (first | exact Goes.free | exact Goes.on rfl rfl (by with_reducible rfl) true (by decide))); (focus (exact rfl)); (focus (exact rfl))) | (apply LOps.asg; (focus (first | exact Goes.free | exact Goes.on rfl rfl (by with_reducible rfl) true (by decide))); (focus (exact rfl)); (focus (exact rfl))) | (apply LOps.loc; (focus (first | exact Goes.free | exact Goes.on rfl rfl (by with_reducible rfl) true (by decide))); (focus (exact rfl)); (focus (exact rfl)); (focus (simp only [go_sem, ↓reduceIte, Nat.reduceEqDiff, Nat.reduceLT, i1, hx]; with_reducible rfl))) | (apply LOps.pass; (focus (first | exact Goes.on rfl rfl (by with_reducible rfl) false (by decide) | exact Goes.undef rfl rfl (by with_reducible rfl))); (focus (exact rfl))) | (apply LOps.scEnd; (focus (exact rfl)); (focus (with_reducible rfl))) | refine LK.seq ?_ | refine LK.skip ?_ | refine LK.block ?_ | (apply LK.condT2; (focus (exact rfl)); (focus (with_reducible rfl)); (focus (first | with_reducible rfl | decide | (with_reducible exact Bool.true_or _) | (with_reducible exact congrArg (fun b => b || _) (Bool.true_or _))))) | refine LK.regc ?_ | (apply LOps.or2; exact rfl; exact rfl; exact rfl; exact rfl; exact rfl; (focus (with_reducible rfl)); (focus (first | kernel_rfl | rfl))) | refine Under.mk (fun hg => ?_) | fail)
      refine LK.condF2 rfl (by first | with_reducible rfl | rfl) (hc2) ?_
      (repeat' first | refine LOps.done ?_ | (apply LOps.mv; (focus (first | exact Goes.free | exact Goes.on rfl rfl (by with_reducible rfl) true (by decide))); (focus (exact rfl)); (focus (exact rfl))) | (apply LOps.asg; (focus (first | exact Goes.free | exact Goes.on rfl rfl (by with_reducible rfl) true (by decide))); (focus (exact rfl)); (focus (exact rfl))) | (apply LOps.loc; (focus (first | exact Goes.free | exact Goes.on rfl rfl (by with_reducible rfl) true (by decide))); (focus (exact rfl)); (focus (exact rfl)); (focus (simp only [go_sem, ↓reduceIte, Nat.reduceEqDiff, reduceCtorEq, Nat.reduceLT, Nat.reduceAdd, Nat.reduceLeDiff, i3, hz, hp, hwk, hw2, hr, htl]; with_reducible rfl))) | refine LK.seq ?_ | refine LK.skip ?_ | refine LK.blk ?_ | refine LK.fin ?_ | (apply LK.condT2; (focus (exact rfl)); (focus (with_reducible rfl)); (focus (first | with_reducible rfl | decide | (with_reducible exact Bool.true_or _) | (with_reducible exact congrArg (fun b => b || _) (Bool.true_or _))))) | refine LK.regc ?_ | fail)
      apply hJ
      exact ⟨k + 1, ⟨hlt, by omega, by omega⟩, by omega, (Sub.by rfl rfl (by first | rfl | (simp only [subB, oF_all_under, LV.under, LO.under, List.all_cons, List.all_nil, decide_true, Nat.reduceLT, Nat.reduceAdd, Bool.and_self]; done)))⟩
    | false =>
      rw [if_neg (by simp)] at hsx
      (repeat' first | refine LOps.done ?_ | (apply LOps.mv; (focus (first | exact Goes.free | exact Goes.on rfl rfl (by with_reducible rfl) true (by decide))); (focus (exact rfl)); (focus (exact rfl))) | (apply LOps.asg; (focus (first | exact Goes.free | exact Goes.on rfl rfl (by with_reducible rfl) true (by decide))); (focus (exact rfl)); (focus (exact rfl))) | (apply LOps.loc; (focus (first | exact Goes.free | exact Goes.on rfl rfl (by with_reducible rfl) true (by decide))); (focus (exact rfl)); (focus (exact rfl)); (focus (simp only [go_sem, ↓reduceIte, Nat.reduceEqDiff, Nat.reduceLT, i1, hx]; with_reducible rfl))) | (apply LOps.pass; (focus (first | exact Goes.on rfl rfl (by with_reducible rfl) false (by decide) | exact Goes.undef rfl rfl (by with_reducible rfl))); (focus (exact rfl))) | (apply LOps.scEnd; (focus (exact rfl)); (focus (with_reducible rfl))) | refine LK.seq ?_ | refine LK.skip ?_ | refine LK.block ?_ | (apply LK.condT2; (focus (exact rfl)); (focus (with_reducible rfl)); (focus (first | with_reducible rfl | decide | (with_reducible exact Bool.true_or _) | (with_reducible exact congrArg (fun b => b || _) (Bool.true_or _))))) | refine LK.regc ?_ | (apply LOps.or2; exact rfl; exact rfl; exact rfl; exact rfl; exact rfl; (focus (with_reducible rfl)); (focus (first | kernel_rfl | rfl))) | refine Under.mk (fun hg => ?_) | fail)
      refine LK.condF2 rfl (by first | with_reducible rfl | rfl) (hc2) ?_
      (repeat' first | refine LOps.done ?_ | (apply LOps.mv; (focus (first | exact Goes.free | exact Goes.on rfl rfl (by with_reducible rfl) true (by decide))); (focus (exact rfl)); (focus (exact rfl))) | (apply LOps.asg; (focus (first | exact Goes.free | exact Goes.on rfl rfl (by with_reducible rfl) true (by decide))); (focus (exact rfl)); (focus (exact rfl))) | (apply LOps.loc; (focus (first | exact Goes.free | exact Goes.on rfl rfl (by with_reducible rfl) true (by decide))); (focus (exact rfl)); (focus (exact rfl)); (focus (simp only [go_sem, ↓reduceIte, Nat.reduceEqDiff, reduceCtorEq, Nat.reduceLT, Nat.reduceAdd, Nat.reduceLeDiff, i3, hz, hp, hwk, hr, htl]; with_reducible rfl))) | refine LK.seq ?_ | refine LK.skip ?_ | refine LK.blk ?_ | refine LK.fin ?_ | (apply LK.condF2; (focus (exact rfl)); (focus (with_reducible rfl)); (focus (first | with_reducible rfl | decide | (with_reducible exact Bool.false_and _) | (with_reducible exact congrArg (fun b => b && _) (Bool.false_and _))))) | refine LK.regc ?_ | fail)
      apply hJ
      refine ⟨k + 1, ⟨hlt, by omega, by omega⟩, by omega, ?_⟩
      dsimp only
      rw [show sumTo (msk w b) (k + 1) = sumTo (msk w b) k by omega]
      exact (Sub.by rfl rfl (by first | rfl | (simp only [subB, oF_all_under, LV.under, LO.under, List.all_cons, List.all_nil, decide_true, Nat.reduceLT, Nat.reduceAdd, Bool.and_self]; done)))
  · obtain rfl : k = w.length := by omega
    have i1 : ¬ ((w.length : Int) < (w.length : Int)) := by omega
    have i4 : ((w.length : Int) ≤ (b.length : Int)) := by omega
    have hs' := hs
    rw [hml] at hs'
    rw [hs', List.take_length]
    have htt : (tens w).take w.length = tens w := List.take_of_length_le (Nat.le_of_eq (tens_len w))
    refine LK.freeze 0 [6] rfl (by simp only [go_sem, ↓reduceIte, htt, tens_len]; exact rfl) (by simp only [go_sem, ↓reduceIte]; exact rfl) ?_
    obtain ⟨b', hb'⟩ : ∃ b', b.take w.length = b' := ⟨_, rfl⟩
    have i5 : w.length ≤ b.length := by omega
    have i6 : ¬ ((w.length : Int) < 0) := by omega
    have i7 : 0 ≤ w.length := Nat.zero_le _
    (repeat' first | refine LOps.done ?_ | (apply LOps.mv; (focus (first | exact Goes.free | exact Goes.on rfl rfl (by with_reducible rfl) true (by decide))); (focus (exact rfl)); (focus (exact rfl))) | (apply LOps.asg; (focus (first | exact Goes.free | exact Goes.on rfl rfl (by with_reducible rfl) true (by decide))); (focus (exact rfl)); (focus (exact rfl))) | (apply LOps.loc; (focus (first | exact Goes.free | exact Goes.on rfl rfl (by with_reducible rfl) true (by decide))); (focus (exact rfl)); (focus (exact rfl)); (focus (simp only [go_sem, ↓reduceIte, Nat.reduceEqDiff, Nat.reduceLT, Nat.reduceAdd, i1, i5, i7, hb', hm1, hm2, List.drop_zero, Nat.sub_zero, tens_len]; with_reducible rfl))) | refine LK.seq ?_ | refine LK.block ?_ | refine LK.exit' rfl ?_ | (apply LK.condF2; (focus (exact rfl)); (focus (with_reducible rfl)); (focus (first | with_reducible rfl | decide | (with_reducible exact Bool.false_and _) | (with_reducible exact congrArg (fun b => b && _) (Bool.false_and _))))) | refine LK.regc ?_ | fail)
    refine LK.loop (fun n : Nat => s - n) (fun n => n ≤ s) (fun n => ⟨166, [(0, sI w), (1, sB b'), (5, vb true), (6, sT (tens w)), (7, vi s), (10, .own 1 w.length 0 w.length), (73, vi s), (74, vi n)]⟩) (fun n => [(1, .arr 1 (oF (cI .i64) (cnt (msk w b) n)))]) 0 (Nat.zero_le _) (by dsimp only [cnt]; rw [hml]; exact (Sub.by rfl rfl (by first | rfl | (simp only [subB, oF_all_under, LV.under, LO.under, List.all_cons, List.all_nil, decide_true, Nat.reduceLT, Bool.and_self]; done)))) ?_
    intro n hn J' hJ'
    have hcl := cnt_len (msk w b) n
    rw [hml] at hcl
    have hbl : b'.length = w.length := by rw [← hb', List.length_take]; omega
    have hwb : wts (tens w) b' (tens w).length = msk w b := by rw [← hb']; exact hwm
    rcases Nat.lt_or_ge n s with hlt | hge
    · have h2 : ((n : Int) < (s : Int)) := by omega
      have hsb := hss (msk w b).length
      have hw := wrapn (n := n) (by omega)
      have r2 : IntKind.u8.wrap (n : Int) = (n : Int) := by rw [IntKind.wrap_u8]; omega
      have hb2 : octB [0, (n : Int)] := by
        intro x hx
        simp only [List.mem_cons, List.not_mem_nil, or_false] at hx
        rcases hx with rfl | rfl <;> omega
      have hck : chk [0, (n : Int)] 0 = 0 := chk_of (k := 0) (Nat.zero_le _)
      have hlu := lu_ok hck hlo h
      rw [hb'] at hlu
      have hh := lucky_ok [0, (n : Int)] 0 (tens w) b' (by rw [tens_len]; omega) hb2 (by simp) hlu (msk w b) hwb
      have hE0 : hE [0, (n : Int)] (msk w b) 0 = 0 := by rw [hE_of hck hsm (by omega), hs, if_neg (by omega)]
      have hN0 : hN [0, (n : Int)] (msk w b) 0 = (pick (msk w b) n : Nat) := by
        rw [hN, if_pos hE0, hs, Int.toNat_zero, draw_one h2]
      have hA0 : hA [0, (n : Int)] (msk w b) 0 = 2 := by rw [hA, if_pos hE0, Int.toNat_zero, drawN_one]; rfl
      have hL0 : hL [0, (n : Int)] (msk w b) 0 = [0, (n : Int)] := by rw [hL, if_pos hE0]
      rw [hE0, hN0, hA0, hL0] at hh
      have hsl : (n : Int) < sumTo (msk w b) (msk w b).length := by omega
      obtain ⟨y, p1, p2, p3⟩ := pick_spec (msk w b) n (by omega) hsl
      have hpl := lt_of_get p1
      obtain ⟨z, hz⟩ := idx_all (show pick (msk w b) n < (cnt (msk w b) n).length by omega)
      obtain ⟨x, hx⟩ := idx_all (show pick (msk w b) n < w.length by omega)
      obtain ⟨u, hu⟩ := idx_all (show pick (msk w b) n < b.length by omega)
      have hu' : b'[pick (msk w b) n]? = some u := by rw [← hb', List.getElem?_take, if_pos (by omega), hu]
      have hm := msk_get w b _ x u hx hu
      have hsp := sumTo_succ hm
      have hut : u = true := by
        cases u with
        | true => rfl
        | false => rw [if_neg (by simp)] at hsp; omega
      subst hut
      have c1 : ¬ (((pick (msk w b) n : Nat) : Int) < 0) := by omega
      have c2 : ¬ (((pick (msk w b) n : Nat) : Int) ≥ (w.length : Int)) := by omega
      have c3 : (((pick (msk w b) n : Nat) : Int) < (w.length : Int)) := by omega
      have hzb : 0 ≤ z ∧ z ≤ 40 := by
        have := cnt_get hodd n (by omega) _ y p1
        rw [hz] at this
        have := Option.some.inj this
        have hyb := hsm y (List.mem_of_getElem? p1)
        omega
      have hw2 : IntKind.i64.wrap (z + 1) = z + 1 := by rw [IntKind.wrap_i64]; omega
      have hset : (cnt (msk w b) n).set (pick (msk w b) n) (z + 1) = cnt (msk w b) (n + 1) := by rw [cnt, hz, Option.getD_some]
      (repeat' first | refine LOps.done ?_ | (apply LOps.mv; (focus (first | exact Goes.free | exact Goes.on rfl rfl (by with_reducible rfl) true (by decide))); (focus (exact rfl)); (focus (exact rfl))) | (apply LOps.asg; (focus (first | exact Goes.free | exact Goes.on rfl rfl (by with_reducible rfl) true (by decide))); (focus (exact rfl)); (focus (exact rfl))) | (apply LOps.ext; (focus (first | exact Goes.free | exact Goes.on rfl rfl (by with_reducible rfl) true (by decide))); (focus (exact rfl)); (focus (exact rfl)); (focus (exact rfl))) | (apply LOps.loc; (focus (first | exact Goes.free | exact Goes.on rfl rfl (by with_reducible rfl) true (by decide))); (focus (exact rfl)); (focus (exact rfl)); (focus (simp only [go_sem, ↓reduceIte, Nat.reduceEqDiff, reduceCtorEq, Nat.reduceLT, Nat.reduceAdd, Int.reduceBNe, Nat.reduceLeDiff, h2, hw, r2, hcl, hz, hu', hbl, tens_len, c1, c2, c3, hw2]; with_reducible rfl))) | (apply LOps.loc0; (focus (first | exact Goes.free | exact Goes.on rfl rfl (by with_reducible rfl) true (by decide))); (focus (exact rfl)); (focus (simp only [go_sem, ↓reduceIte, Nat.reduceEqDiff, Nat.reduceLT, Nat.reduceAdd, hcl, hz, hset]; with_reducible rfl))) | refine LK.seq ?_ | refine LK.skip ?_ | refine LK.block ?_ | refine LK.blk ?_ | refine LK.fin ?_ | (apply LK.condT2; (focus (exact rfl)); (focus (with_reducible rfl)); (focus (first | with_reducible rfl | decide | (with_reducible exact Bool.true_or _) | (with_reducible exact congrArg (fun b => b || _) (Bool.true_or _))))) | (apply LK.condF2; (focus (exact rfl)); (focus (with_reducible rfl)); (focus (first | with_reducible rfl | decide | (with_reducible exact Bool.false_and _) | (with_reducible exact congrArg (fun b => b && _) (Bool.false_and _))))) | refine LK.regc ?_ | ((apply LOps.thaw; (focus (exact rfl)); (focus (exact rfl)); (focus (exact rfl)); (focus (exact rfl)); (focus (simp only [go_sem, ↓reduceIte, Nat.reduceEqDiff, Nat.reduceAdd]; exact rfl)); (focus (simp only [go_sem, ↓reduceIte, Nat.reduceEqDiff]; exact rfl))); (apply LOps.locFn; (focus (first | exact Goes.free | exact Goes.on rfl rfl (by with_reducible rfl) true (by decide))); (focus (exact rfl)); (focus (exact rfl)); (focus (simp only [go_sem, ↓reduceIte, Nat.reduceEqDiff]; exact rfl)); (focus (simp only [go_sem])); (focus (exact hh)); (focus (first | rfl | simp [go_sem])); (focus (first | rfl | simp [go_sem])))) | fail)
      apply hJ'
      exact ⟨n + 1, hlt, by omega, (Sub.by rfl rfl (by first | rfl | (simp only [subB, oF_all_under, LV.under, LO.under, List.all_cons, List.all_nil, decide_true, Nat.reduceLT, Bool.and_self]; done)))⟩
    · obtain rfl : n = s := by omega
      have h2 : ¬ ((n : Int) < (n : Int)) := by omega
      rw [cnt_all hodd hs.symm]
      have hmlen : (msk w b).length = w.length := hml
      have htm : (msk w b).take w.length = msk w b := List.take_of_length_le (by omega)
      (repeat' first | refine LOps.done ?_ | (apply LOps.mv; (focus (first | exact Goes.free | exact Goes.on rfl rfl (by with_reducible rfl) true (by decide))); (focus (exact rfl)); (focus (exact rfl))) | (apply LOps.loc; (focus (first | exact Goes.free | exact Goes.on rfl rfl (by with_reducible rfl) true (by decide))); (focus (exact rfl)); (focus (exact rfl)); (focus (simp only [go_sem, ↓reduceIte, Nat.reduceEqDiff, h2, hmlen, htm]; with_reducible rfl))) | refine LK.seq ?_ | refine LK.block ?_ | refine LK.exit' rfl ?_ | (apply LK.condF2; (focus (exact rfl)); (focus (with_reducible rfl)); (focus (first | with_reducible rfl | decide | (with_reducible exact Bool.false_and _) | (with_reducible exact congrArg (fun b => b && _) (Bool.false_and _))))) | refine LK.regc ?_ | fail)
      refine LK.loop (fun k : Nat => w.length - k) (fun k => k ≤ w.length) (fun k => ⟨166, [(0, sI w), (1, sB b'), (5, vb true), (6, sT (tens w)), (7, vi n), (119, .own 1 w.length 0 w.length), (120, vi w.length), (121, vi k)]⟩) (fun _ => [(1, .arr 1 (oF (cI .i64) (msk w b)))]) 0 (Nat.zero_le _) (Sub.by rfl rfl (by first | rfl | (simp only [subB, oF_all_under, LV.under, LO.under, List.all_cons, List.all_nil, decide_true, Nat.reduceLT, Bool.and_self]; done))) ?_
      intro k hk J2 hJ2
      rcases Nat.lt_or_ge k w.length with hlt | hge
      · obtain ⟨x, hx⟩ := idx_all hlt
        obtain ⟨z, hz⟩ := idx_all (show k < b.length by omega)
        have hz' : b'[k]? = some z := by rw [← hb', List.getElem?_take, if_pos hlt, hz]
        have hm := msk_get w b k x z hx hz
        have i1 : ((k : Int) < (w.length : Int)) := by omega
        have i2 : ((k : Int) < (b'.length : Int)) := by omega
        have hw := wrapn (n := k) (by omega)
        cases z with
        | true =>
          rw [if_pos rfl] at hm
          have e : (x != x) = false := by simp
          (repeat' first | refine LOps.done ?_ | (apply LOps.mv; (focus (first | exact Goes.free | exact Goes.on rfl rfl (by with_reducible rfl) true (by decide))); (focus (exact rfl)); (focus (exact rfl))) | (apply LOps.asg; (focus (first | exact Goes.free | exact Goes.on rfl rfl (by with_reducible rfl) true (by decide))); (focus (exact rfl)); (focus (exact rfl))) | (apply LOps.loc; (focus (first | exact Goes.free | exact Goes.on rfl rfl (by with_reducible rfl) true (by decide))); (focus (exact rfl)); (focus (exact rfl)); (focus (simp only [go_sem, ↓reduceIte, Nat.reduceEqDiff, Nat.reduceLT, i1, i2, hx, hz', hm, hmlen, hw, e]; with_reducible rfl))) | (apply LOps.pass; (focus (first | exact Goes.on rfl rfl (by with_reducible rfl) false (by decide) | exact Goes.undef rfl rfl (by with_reducible rfl))); (focus (exact rfl))) | refine LK.seq ?_ | refine LK.skip ?_ | refine LK.block ?_ | refine LK.blk ?_ | refine LK.fin ?_ | (apply LK.condT2; (focus (exact rfl)); (focus (with_reducible rfl)); (focus (first | with_reducible rfl | decide | (with_reducible exact Bool.true_or _) | (with_reducible exact congrArg (fun b => b || _) (Bool.true_or _))))) | (apply LK.condF2; (focus (exact rfl)); (focus (with_reducible rfl)); (focus (first | with_reducible rfl | decide | (with_reducible exact Bool.false_and _) | (with_reducible exact congrArg (fun b => b && _) (Bool.false_and _))))) | refine LK.regc ?_ | fail)
          apply hJ2
          exact ⟨k + 1, hlt, by omega, (Sub.by rfl rfl (by first | rfl | (simp only [subB, oF_all_under, LV.under, LO.under, List.all_cons, List.all_nil, decide_true, Nat.reduceLT, Bool.and_self]; done)))⟩
        | false =>
          rw [if_neg (by simp)] at hm
          (repeat' first | refine LOps.done ?_ | (apply LOps.mv; (focus (first | exact Goes.free | exact Goes.on rfl rfl (by with_reducible rfl) true (by decide))); (focus (exact rfl)); (focus (exact rfl))) | (apply LOps.asg; (focus (first | exact Goes.free | exact Goes.on rfl rfl (by with_reducible rfl) true (by decide))); (focus (exact rfl)); (focus (exact rfl))) | (apply LOps.loc; (focus (first | exact Goes.free | exact Goes.on rfl rfl (by with_reducible rfl) true (by decide))); (focus (exact rfl)); (focus (exact rfl)); (focus (simp only [go_sem, ↓reduceIte, Nat.reduceEqDiff, Nat.reduceLT, Int.reduceBNe, i1, i2, hz', hm, hmlen, hw]; with_reducible rfl))) | (apply LOps.pass; (focus (first | exact Goes.on rfl rfl (by with_reducible rfl) false (by decide) | exact Goes.undef rfl rfl (by with_reducible rfl))); (focus (exact rfl))) | refine LK.seq ?_ | refine LK.skip ?_ | refine LK.block ?_ | refine LK.blk ?_ | refine LK.fin ?_ | (apply LK.condT2; (focus (exact rfl)); (focus (with_reducible rfl)); (focus (first | with_reducible rfl | decide | (with_reducible exact Bool.true_or _) | (with_reducible exact congrArg (fun b => b || _) (Bool.true_or _))))) | (apply LK.condF2; (focus (exact rfl)); (focus (with_reducible rfl)); (focus (first | with_reducible rfl | decide | (with_reducible exact Bool.false_and _) | (with_reducible exact congrArg (fun b => b && _) (Bool.false_and _))))) | refine LK.regc ?_ | fail)
          apply hJ2
          exact ⟨k + 1, hlt, by omega, (Sub.by rfl rfl (by first | rfl | (simp only [subB, oF_all_under, LV.under, LO.under, List.all_cons, List.all_nil, decide_true, Nat.reduceLT, Bool.and_self]; done)))⟩
      · have i1 : ¬ ((k : Int) < (w.length : Int)) := by omega
        have hck : chk [] 0 = 0 := chk_of (k := 0) (Nat.zero_le _)
        have hlu := lu_ok hck hlo h
        rw [hb'] at hlu
        have hh := lucky_ok [] 0 (tens w) b' (by rw [tens_len]; omega) (by intro x hx; simp at hx) (by simp) hlu (msk w b) hwb
        rw [hE_of hck hsm (by omega), hs] at hh
        by_cases h0 : n = 0
        · rw [if_pos (show (n : Int) = 0 by omega)] at hh
          subst h0
          have c0 : ¬ (((0 : Nat) : Int) > 0) := by decide
          (repeat' first | refine LOps.done ?_ | (apply LOps.mv; (focus (first | exact Goes.free | exact Goes.on rfl rfl (by with_reducible rfl) true (by decide))); (focus (exact rfl)); (focus (exact rfl))) | (apply LOps.asg; (focus (first | exact Goes.free | exact Goes.on rfl rfl (by with_reducible rfl) true (by decide))); (focus (exact rfl)); (focus (exact rfl))) | (apply LOps.ext; (focus (first | exact Goes.free | exact Goes.on rfl rfl (by with_reducible rfl) true (by decide))); (focus (exact rfl)); (focus (exact rfl)); (focus (exact rfl))) | (apply LOps.loc; (focus (first | exact Goes.free | exact Goes.on rfl rfl (by with_reducible rfl) true (by decide))); (focus (exact rfl)); (focus (exact rfl)); (focus (simp only [go_sem, ↓reduceIte, Nat.reduceEqDiff, reduceCtorEq, Nat.reduceLT, Nat.reduceAdd, Int.reduceBEq, i1, Int.ofNat_zero, Int.reduceGT]; with_reducible rfl))) | (apply LOps.loc0; (focus (first | exact Goes.free | exact Goes.on rfl rfl (by with_reducible rfl) true (by decide))); (focus (exact rfl)); (focus (simp only [go_sem, ↓reduceIte, Nat.reduceEqDiff, Nat.reduceLT, Nat.reduceAdd]; with_reducible rfl))) | refine LK.seq ?_ | refine LK.ret' ?_ | refine LK.exit' rfl ?_ | (apply LK.condF2; (focus (exact rfl)); (focus (with_reducible rfl)); (focus (first | with_reducible rfl | decide | (with_reducible exact Bool.false_and _) | (with_reducible exact congrArg (fun b => b && _) (Bool.false_and _))))) | refine LK.regc ?_ | (apply retQ; (focus (first | exact lres_one rfl | exact lres_more rfl | (simp only [lres, lresv, Try.results6, go_sem, ↓reduceIte, Nat.reduceEqDiff, reduceCtorEq, Nat.reduceLT, Nat.reduceAdd, Int.reduceBEq, Int.reduceBNe, Int.reduceEq, Int.reduceLE, Int.reduceLT, Int.reduceToNat, Nat.reduceLeDiff, Nat.reduceMul, Nat.reduceSub, i1, c0, Int.ofNat_zero, Int.reduceGT]; exact rfl)))) | (apply LOps.locFn; (focus (first | exact Goes.free | exact Goes.on rfl rfl (by with_reducible rfl) true (by decide))); (focus (exact rfl)); (focus (exact rfl)); (focus (simp only [go_sem, ↓reduceIte, Nat.reduceEqDiff]; exact rfl)); (focus (simp only [go_sem])); (focus ((refine Fun.argsLe ?_ (hh); (repeat' first | exact LV.le_refl _ | exact LV.le_nil _ | exact le_nilF _ _ | exact LV.le_any _ _ _ | refine LV.le_tup ?_ | refine LV.le_agg ?_ | exact LV.les_nil | refine LV.les_cons ?_ ?_); done))); (focus (first | rfl | simp [go_sem])); (focus (first | rfl | simp [go_sem]))) | fail)
          all_goals rfl
        · rw [if_neg (by omega)] at hh
          have c0 : ((n : Int) > 0) := by omega
          (repeat' first | refine LOps.done ?_ | (apply LOps.mv; (focus (first | exact Goes.free | exact Goes.on rfl rfl (by with_reducible rfl) true (by decide))); (focus (exact rfl)); (focus (exact rfl))) | (apply LOps.asg; (focus (first | exact Goes.free | exact Goes.on rfl rfl (by with_reducible rfl) true (by decide))); (focus (exact rfl)); (focus (exact rfl))) | (apply LOps.ext; (focus (first | exact Goes.free | exact Goes.on rfl rfl (by with_reducible rfl) true (by decide))); (focus (exact rfl)); (focus (exact rfl)); (focus (exact rfl))) | (apply LOps.loc; (focus (first | exact Goes.free | exact Goes.on rfl rfl (by with_reducible rfl) true (by decide))); (focus (exact rfl)); (focus (exact rfl)); (focus (simp only [go_sem, ↓reduceIte, Nat.reduceEqDiff, reduceCtorEq, Nat.reduceLT, Nat.reduceAdd, i1, c0]; with_reducible rfl))) | (apply LOps.loc0; (focus (first | exact Goes.free | exact Goes.on rfl rfl (by with_reducible rfl) true (by decide))); (focus (exact rfl)); (focus (simp only [go_sem, ↓reduceIte, Nat.reduceEqDiff, Nat.reduceLT, Nat.reduceAdd]; with_reducible rfl))) | refine LK.seq ?_ | refine LK.ret' ?_ | refine LK.exit' rfl ?_ | (apply LK.condF2; (focus (exact rfl)); (focus (with_reducible rfl)); (focus (first | with_reducible rfl | decide | (with_reducible exact Bool.false_and _) | (with_reducible exact congrArg (fun b => b && _) (Bool.false_and _))))) | refine LK.regc ?_ | (apply retQ; (focus (first | exact lres_one rfl | exact lres_more rfl | (simp only [lres, lresv, Try.results6, go_sem, ↓reduceIte, Nat.reduceEqDiff, reduceCtorEq, Nat.reduceLT, Nat.reduceAdd, Int.reduceBEq, Int.reduceBNe, Int.reduceEq, Int.reduceLE, Int.reduceLT, Int.reduceToNat, Nat.reduceLeDiff, Nat.reduceMul, Nat.reduceSub, i1, c0]; exact rfl)))) | (apply LOps.locFn; (focus (first | exact Goes.free | exact Goes.on rfl rfl (by with_reducible rfl) true (by decide))); (focus (exact rfl)); (focus (exact rfl)); (focus (simp only [go_sem, ↓reduceIte, Nat.reduceEqDiff]; exact rfl)); (focus (simp only [go_sem])); (focus ((refine Fun.argsLe ?_ (hh); (repeat' first | exact LV.le_refl _ | exact LV.le_nil _ | exact le_nilF _ _ | exact LV.le_any _ _ _ | refine LV.le_tup ?_ | refine LV.le_agg ?_ | exact LV.les_nil | refine LV.les_cons ?_ ?_); done))); (focus (first | rfl | simp [go_sem])); (focus (first | rfl | simp [go_sem]))) | fail)
          all_goals rfl
theorem lucky_fun (w : List Int) (b : List Bool) : Fun Try.prog 6 [sI w, sB b] (vb true) := by
  by_cases h : w.length < 1 ∨ 8 < w.length ∨ b.length < w.length
  · exact lk_skip w b h
  · rcases first_of (w := w) (p := fun x => decide (x < 1 ∨ 16 < x)) with hlo | ⟨i, y, h1, h2, h3⟩
    · refine lk_ok w b h fun x hx => ?_
      have := hlo x hx
      simp only [decide_eq_false_iff_not] at this
      omega
    · refine lk_bad w b h i y h1 (by simpa using h2) fun j x hj hx => ?_
      have := h3 j x hj hx
      simp only [decide_eq_false_iff_not] at this
      omega
end Go.Proofs.Ytflfhgpcmocilaa
