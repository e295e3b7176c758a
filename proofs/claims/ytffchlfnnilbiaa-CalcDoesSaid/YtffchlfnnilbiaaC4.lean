/- Chapter 02: the document's numbers: Mul. -/
import Derived.Test.YtffchlfnnilbiaaC3
set_option linter.unusedSimpArgs false
set_option linter.unusedVariables false
namespace Go.Proofs.Ytffchlfnnilbiaa
open Go.Lw
attribute [local irreducible] LK LOps LW
theorem bc_get (m : Bool) (o : Nat → Int) {k : Nat} (h : k < 16) : (bc m o)[1 + k]? = some (vu (o k)) := by
  rw [Nat.add_comm]; exact cell_get o h
def put (o : Nat → Int) (p : Nat) (y : Int) : Nat → Int := fun j => if j = p then y else o j
theorem bc_set (m : Bool) (o : Nat → Int) (k : Nat) (y : Int) : (bc m o).set (1 + k) (vu y) = bc m (put o k y) := by
  rw [Nat.add_comm]
  show vb m :: ((Lf o).map vu).set k (vu y) = _
  rw [← List.map_set, Lf_set]; rfl
theorem bc_put (m : Bool) (o : Nat → Int) {k : Nat} (h : k < 16) (y : Int) : List.take (1 + k) (bc m o) ++ [vu y] ++ List.drop (1 + k) ((Lf o).map vu) = bc m (put o k y) := by
  rw [← bc_set, List.set_eq_take_append_cons_drop, if_pos (by show 1 + k < ((Lf o).map vu).length + 1; rw [Lf_mlen]; omega), List.append_assoc]
  rfl
theorem Lf_le (o : Nat → Int) {k : Nat} (h : k < 16) : 1 + k ≤ (Lf o).length := by rw [Lf_len]; omega
theorem bc_all (m : Bool) (o : Nat → Int) : (bc m o).all (·.leaf) = true := by
  show (((vb m).leaf && ((Lf o).map vu).all (·.leaf))) = true
  rw [Lf_all_leaf]; rfl
/-- One product put to its place. -/
def okI (A B : Int) (i k : Nat) (o : Nat → Int) : Prop := (∀ j, 0 ≤ o j ∧ o j ≤ i * 4294967296 + (if i ≤ j ∧ j < i + k then 4294967296 else 0)) ∧ pre o 16 = A % 65536 ^ i * B + dg A i * 65536 ^ i * (B % 65536 ^ k)
theorem okI_start (A B : Int) : okI A B 0 0 fun _ => 0 := by
  refine ⟨fun j => ⟨Int.le_refl _, ?_⟩, ?_⟩
  · show (0 : Int) ≤ _
    split <;> omega
  · have : ∀ i, pre (fun _ => 0) i = 0 := by
      intro i
      induction i with
      | zero => rfl
      | succ i ih => rw [pre, ih]; simp
    rw [this]; simp [Int.emod_one]
theorem mul_bd {a b : Int} (a0 : 0 ≤ a) (a1 : a < 65536) (b0 : 0 ≤ b) (b1 : b < 65536) : 0 ≤ a * b ∧ a * b < 4294967296 := by
  have h1 : a * b ≤ 65535 * b := Int.mul_le_mul_of_nonneg_right (by omega) b0
  exact ⟨Int.mul_nonneg a0 b0, by omega⟩
theorem okI_step {A B : Int} {i k : Nat} {o : Nat → Int} (hi : i < 8) (hk : k < 8) (h : okI A B i k o) : 0 ≤ o (i + k) ∧ o (i + k) ≤ i * 4294967296 ∧ okI A B i (k + 1) (put o (i + k) (o (i + k) + dg A i * dg B k)) := by
  obtain ⟨h1, h2⟩ := h
  have b1 := h1 (i + k)
  rw [if_neg (by omega)] at b1
  obtain ⟨m0, m1⟩ := mul_bd (dg_bd A i).1 (dg_bd A i).2 (dg_bd B k).1 (dg_bd B k).2
  refine ⟨b1.1, by omega, fun j => ?_, ?_⟩
  · have := h1 j
    unfold put
    by_cases e : j = i + k
    · subst e
      rw [if_pos rfl, if_pos (by omega)]; omega
    · rw [if_neg e]
      by_cases c : i ≤ j ∧ j < i + k
      · rw [if_pos c] at this; rw [if_pos (by omega)]; exact this
      · rw [if_neg c] at this; rw [if_neg (by omega)]; exact this
  · have e : put o (i + k) (o (i + k) + dg A i * dg B k) = fun j => if j = i + k then o j + dg A i * dg B k else o j := by
      funext j; unfold put; by_cases e : j = i + k
      · subst e; rfl
      · rw [if_neg e, if_neg e]
    rw [e, pre_put _ _ _ _ (by omega), h2, rem_step B k, Int.pow_add]
    generalize (65536 : Int) ^ i = p
    generalize (65536 : Int) ^ k = q
    generalize B % q = r
    rw [Int.mul_add, Int.add_assoc]
    congr 2
    rw [Int.mul_assoc, Int.mul_assoc]
    congr 1
    rw [Int.mul_left_comm]
theorem okI_next {A B : Int} {i : Nat} {o : Nat → Int} (b0 : 0 ≤ B) (b1 : B < 65536 ^ 8) (h : okI A B i 8 o) : okI A B (i + 1) 0 o := by
  obtain ⟨h1, h2⟩ := h
  refine ⟨fun j => ?_, ?_⟩
  · have := h1 j
    rw [if_neg (by omega)]
    split at this <;> omega
  · rw [h2, Int.emod_eq_of_lt b0 b1, rem_step A i, Int.add_mul]
    simp [Int.emod_one]
theorem okI_end {A B : Int} {o : Nat → Int} (a0 : 0 ≤ A) (a1 : A < 65536 ^ 8) (h : okI A B 8 0 o) : (∀ j, 0 ≤ o j ∧ o j ≤ 34359738368) ∧ pre o 16 = A * B := by
  obtain ⟨h1, h2⟩ := h
  refine ⟨fun j => ?_, ?_⟩
  · have := h1 j
    rw [if_neg (by omega)] at this; omega
  · rw [h2, Int.emod_eq_of_lt a0 a1]; simp [Int.emod_one]
theorem over_bd {o : Nat → Int} (h : ∀ j, 0 ≤ o j ∧ o j ≤ 34359738368) : ∀ i, 0 ≤ pre o i / 65536 ^ i ∧ pre o i / 65536 ^ i ≤ 34359738368
  | 0 => by simp [pre]
  | i + 1 => by
    have := over_bd h i
    have := h i
    rw [← carry_next]; omega
theorem zeros : Lf (fun _ => 0) = [0, 0, 0, 0, 0, 0, 0, 0, 0, 0, 0, 0, 0, 0, 0, 0] := rfl
theorem bc_mix (m : Bool) (s : Int) (o : Nat → Int) {k : Nat} (h : k < 16) : List.take (1 + k) (bc m (mix s o k)) ++ [vu (dg s k)] ++ List.drop (1 + k) ((Lf (mix s o k)).map vu) = bc m (mix s o (k + 1)) := by
  rw [bc_put m _ h, ← bc_set, Nat.add_comm]
  show vb m :: ((Lf (mix s o k)).map vu).set k (vu (dg s k)) = _
  rw [← List.map_set, mix_set]
theorem bc_mix0 (m : Bool) (s : Int) (o : Nat → Int) : bc m (mix s o 0) = bc m o := by rw [bc, mix_zero]
theorem bc_mix16 (m : Bool) (s : Int) (o : Nat → Int) : bc m (mix s o 16) = bc m (dg s) := by rw [bc, mix_all]
abbrev z17 : List LV := [vb false, vu 0, vu 0, vu 0, vu 0, vu 0, vu 0, vu 0, vu 0, vu 0, vu 0, vu 0, vu 0, vu 0, vu 0, vu 0, vu 0]
/-- What a round of carrying reckons. -/
theorem carry_facts {o : Nat → Int} {S : Int} (hS : pre o 16 = S) (hb : ∀ j, 0 ≤ o j ∧ o j ≤ 34359738368) {k : Nat} (hk : k < 16) :
    IntKind.u64.wrap (pre o k / 65536 ^ k + o k) = pre o k / 65536 ^ k + o k ∧ (pre o k / 65536 ^ k + o k).tmod 65536 = dg S k ∧ IntKind.u64.wrap ((pre o k / 65536 ^ k + o k).tdiv 65536) = pre o (k + 1) / 65536 ^ (k + 1) := by
  have h1 := over_bd hb k
  have h2 := hb k
  have h3 := carry_dg o k 16 hk
  have h4 := carry_next o k
  rw [hS] at h3
  refine ⟨by rw [IntKind.wrap_u64]; omega, ?_, ?_⟩
  · rw [Int.tmod_eq_emod_of_nonneg (by omega)]; exact h3
  · rw [Int.tdiv_eq_ediv_of_nonneg (by omega), h4, IntKind.wrap_u64]
    have := over_bd hb (k + 1)
    omega
theorem prod_lt {A B : Int} (a0 : 0 ≤ A) (a1 : A < 65536 ^ 8) (b0 : 0 ≤ B) (b1 : B < 65536 ^ 8) : 0 ≤ A * B ∧ A * B < 65536 ^ 16 := by
  refine ⟨Int.mul_nonneg a0 b0, ?_⟩
  have h1 : A * B ≤ 65536 ^ 8 * B := Int.mul_le_mul_of_nonneg_right (by omega) b0
  omega
set_option maxHeartbeats 4000000 in
set_option maxRecDepth 20000 in
theorem rmul_fun (ma mb : Bool) (A B : Int) (a0 : 0 ≤ A) (a1 : A < 65536 ^ 8) (b0 : 0 ≤ B) (b1 : B < 65536 ^ 8) : Fun Try.prog 30 [bg ma (dg A), bg mb (dg B)] (bg (!(ma == mb) && A * B != 0) (dg (A * B))) := by
  have hl := Lf_all_leaf (dg A)
  have hl2 := Lf_all_leaf (dg B)
  simp only [go_sem] at hl hl2
  have hn := Lf_mlen (dg A)
  have hn2 := Lf_mlen (dg B)
  (refine LCalls.enter Try.func30 rfl (by simp [Try.ntmps30]) (LK.start ?_); simp only [Try.ntmps30, enterA, Nat.zero_add])
  (repeat' first | refine LOps.done ?_ | (apply LOps.loc; (focus (first | exact Goes.free | exact Goes.on rfl rfl (by with_reducible rfl) true (by decide))); (focus (exact rfl)); (focus (exact rfl)); (focus (simp only [go_sem, ↓reduceIte, Nat.reduceEqDiff, reduceCtorEq, Nat.reduceLT, Nat.reduceAdd, Nat.reduceLeDiff, hl, hl2, hn, hn2]; with_reducible rfl))) | (apply LOps.loc0; (focus (first | exact Goes.free | exact Goes.on rfl rfl (by with_reducible rfl) true (by decide))); (focus (exact rfl)); (focus (simp only [go_sem, ↓reduceIte, Nat.reduceEqDiff, reduceCtorEq, Nat.reduceLT, Nat.reduceAdd]; with_reducible rfl))) | refine LK.seq ?_ | refine LK.block ?_ | refine LK.regc ?_ | fail)
  refine LK.loop (fun s : Nat × (Nat → Int) => 8 - s.1) (fun s => s.1 ≤ 8 ∧ okI A B s.1 0 s.2) (fun s => ⟨63, [(2, .ptr 0 1 0 0), (3, .ptr 1 1 0 0), (4, .ptr 2 1 0 0), (5, .ptr 3 1 0 0), (16, vi s.1)]⟩) (fun s => [(0, .arr 17 [bc ma (dg A)]), (1, .arr 17 [bc mb (dg B)]), (2, .arr 17 [z17]), (3, .arr 17 [bc (!(ma == mb)) s.2])]) (0, fun _ => 0) ⟨by omega, okI_start A B⟩ (Sub.by rfl rfl (by first | rfl | (simp only [subB, MB_all_under, MI_all_under, MB_all_idp, MI_all_idp, oF_under, oF_idp, oF_all_under, oF_all_idp, MB_under, MI_under, MB_idp, MI_idp, evOk, ovOk, nvOk, keepOf, vis, LV.under, LV.unders, LV.idp, LV.idps, LO.under, LO.idp, under_pv, idp_pv, List.all_cons, List.all_nil, List.any_cons, List.any_nil, Nat.reduceBEq, beq_self_eq_true, Bool.and_true, Bool.true_and, Bool.or_true, Bool.true_or, Bool.or_false, Bool.false_or, decide_true, decide_false, Nat.reduceLT, Nat.reduceLeDiff, Nat.le_refl, Nat.reduceAdd, Bool.and_self, Bool.or_self]; done))) ?_
  rintro ⟨i, o⟩ ⟨hi, ho⟩ J hJ
  simp only at hi ho
  rcases Nat.lt_or_ge i 8 with hlt | hge
  · have h1 : ((i : Int) < 8) := by omega
    (repeat' first | refine LOps.done ?_ | (apply LOps.mv; (focus (first | exact Goes.free | exact Goes.on rfl rfl (by with_reducible rfl) true (by decide))); (focus (exact rfl)); (focus (exact rfl))) | (apply LOps.asg; (focus (first | exact Goes.free | exact Goes.on rfl rfl (by with_reducible rfl) true (by decide))); (focus (exact rfl)); (focus (exact rfl))) | (apply LOps.loc; (focus (first | exact Goes.free | exact Goes.on rfl rfl (by with_reducible rfl) true (by decide))); (focus (exact rfl)); (focus (exact rfl)); (focus (simp only [go_sem, ↓reduceIte, h1]; with_reducible rfl))) | refine LK.seq ?_ | refine LK.skip ?_ | refine LK.block ?_ | (apply LK.condT2; (focus (exact rfl)); (focus (with_reducible rfl)); (focus (first | with_reducible rfl | decide | (with_reducible exact Bool.true_or _) | (with_reducible exact congrArg (fun b => b || _) (Bool.true_or _))))) | refine LK.regc ?_ | fail)
    refine LK.loop (fun s : Nat × (Nat → Int) => 8 - s.1) (fun s => s.1 ≤ 8 ∧ okI A B i s.1 s.2) (fun s => ⟨63, [(2, .ptr 0 1 0 0), (3, .ptr 1 1 0 0), (4, .ptr 2 1 0 0), (5, .ptr 3 1 0 0), (6, vi i), (16, vi i), (19, vi s.1)]⟩) (fun s => [(0, .arr 17 [bc ma (dg A)]), (1, .arr 17 [bc mb (dg B)]), (2, .arr 17 [z17]), (3, .arr 17 [bc (!(ma == mb)) s.2])]) (0, o) ⟨by omega, ho⟩ (Sub.by rfl rfl (by first | rfl | (simp only [subB, MB_all_under, MI_all_under, MB_all_idp, MI_all_idp, oF_under, oF_idp, oF_all_under, oF_all_idp, MB_under, MI_under, MB_idp, MI_idp, evOk, ovOk, nvOk, keepOf, vis, LV.under, LV.unders, LV.idp, LV.idps, LO.under, LO.idp, under_pv, idp_pv, List.all_cons, List.all_nil, List.any_cons, List.any_nil, Nat.reduceBEq, beq_self_eq_true, Bool.and_true, Bool.true_and, Bool.or_true, Bool.true_or, Bool.or_false, Bool.false_or, decide_true, decide_false, Nat.reduceLT, Nat.reduceLeDiff, Nat.le_refl, Nat.reduceAdd, Bool.and_self, Bool.or_self]; done))) ?_
    rintro ⟨k, p⟩ ⟨hk, hp⟩ J2 hJ2
    simp only at hk hp
    rcases Nat.lt_or_ge k 8 with klt | kge
    · have g1 : ((k : Int) < 8) := by omega
      have g2 : ((i : Int) < 16) := by omega
      have g3 : ((k : Int) < 16) := by omega
      have g4 : ((i + k : Nat) : Int) < 16 := by omega
      have w1 : IntKind.i64.wrap ((i : Int) + (k : Int)) = ((i + k : Nat) : Int) := by rw [IntKind.wrap_i64]; omega
      have w2 : IntKind.i64.wrap ((k : Int) + 1) = ((k + 1 : Nat) : Int) := by rw [IntKind.wrap_i64]; omega
      obtain ⟨q1, q2, q3⟩ := okI_step hlt klt hp
      obtain ⟨m0, m1⟩ := mul_bd (dg_bd A i).1 (dg_bd A i).2 (dg_bd B k).1 (dg_bd B k).2
      have w3 : IntKind.u64.wrap (dg A i * dg B k) = dg A i * dg B k := by rw [IntKind.wrap_u64]; omega
      have w4 : IntKind.u64.wrap (p (i + k) + dg A i * dg B k) = p (i + k) + dg A i * dg B k := by rw [IntKind.wrap_u64]; omega
      have c1 := bc_get ma (dg A) (k := i) (by omega)
      have c2 := bc_get mb (dg B) (k := k) (by omega)
      have c3 := bc_get (!(ma == mb)) p (k := i + k) (by omega)
      have c4 := bc_put (!(ma == mb)) p (k := i + k) (by omega) (p (i + k) + dg A i * dg B k)
      have c5 := Lf_le p (k := i + k) (by omega)
      (repeat' first | refine LOps.done ?_ | (apply LOps.mv; (focus (first | exact Goes.free | exact Goes.on rfl rfl (by with_reducible rfl) true (by decide))); (focus (exact rfl)); (focus (exact rfl))) | (apply LOps.asg; (focus (first | exact Goes.free | exact Goes.on rfl rfl (by with_reducible rfl) true (by decide))); (focus (exact rfl)); (focus (exact rfl))) | (apply LOps.loc; (focus (first | exact Goes.free | exact Goes.on rfl rfl (by with_reducible rfl) true (by decide))); (focus (exact rfl)); (focus (exact rfl)); (focus (simp only [go_sem, ↓reduceIte, g1, w2]; with_reducible rfl))) | refine LK.seq ?_ | refine LK.skip ?_ | refine LK.block ?_ | refine LK.blk ?_ | refine LK.fin ?_ | (apply LK.condT2; (focus (exact rfl)); (focus (with_reducible rfl)); (focus (first | with_reducible rfl | decide | (with_reducible exact Bool.true_or _) | (with_reducible exact congrArg (fun b => b || _) (Bool.true_or _))))) | refine LK.regc ?_ | (apply LK.drawn3; (focus (exact Ty.mixed)); (focus ((repeat' first | exact DRun.nil _ _ _ | (apply DRun.aopS; (focus (exact rfl)); (focus (first | exact rfl | (simp only [oF_idss, oF_ids, idss_MB, idss_MI, objsOf, idsOf, LV.ids, LV.idss, LO.ids, idss_pv, lookB_eq, List.any_nil, List.any_cons, cond_true, cond_false, List.flatten_cons, List.flatten_nil, Nat.reduceBEq, Bool.or_false, Bool.false_or, Bool.or_true, go_sem, ↓reduceIte, Nat.reduceEqDiff, reduceCtorEq, Nat.reduceLT, Nat.reduceAdd, Int.reduceBEq, Int.reduceBNe, Int.reduceEq, Int.reduceLE, Int.reduceLT, Int.reduceToNat, Nat.reduceLeDiff, Nat.reduceMul, Nat.reduceSub, g1, g2, g3, g4, w1, w2, w3, w4, n16, c1, c2, c3, c4, c5]; exact rfl))); (focus (first | exact Goes.free | exact Goes.on rfl rfl (by with_reducible rfl) true (by decide))); (focus (simp only [go_sem, ↓reduceIte, Nat.reduceEqDiff, Nat.reduceLT, g2, g3, g4, w1, w3, w4, n16, c1, c2, c3]; exact rfl)); (focus (exact rfl)); (focus (first | decide +kernel | (simp only [evOk, ovOk, nvOk, keepOf, vis, LV.under, LV.idp, LO.under, LO.idp, List.all_cons, List.all_nil, List.any_cons, List.any_nil, beq_self_eq_true, Bool.and_true, Bool.true_and, Bool.or_false, Bool.false_or, decide_true, decide_false, Nat.reduceLT, Nat.reduceLeDiff, Bool.and_self]; done) | (simp [evOk, ovOk, nvOk, keepOf, vis, LV.under, LV.idp, LO.under, LO.idp]; done) | exact rfl))) | (apply DRun.awr0; (focus (exact rfl)); (focus (first | exact rfl | (simp only [oF_idss, oF_ids, idss_MB, idss_MI, objsOf, idsOf, LV.ids, LV.idss, LO.ids, idss_pv, lookB_eq, List.any_nil, List.any_cons, cond_true, cond_false, List.flatten_cons, List.flatten_nil, Nat.reduceBEq, Bool.or_false, Bool.false_or, Bool.or_true, go_sem, ↓reduceIte, Nat.reduceEqDiff, reduceCtorEq, Nat.reduceLT, Nat.reduceAdd, Int.reduceBEq, Int.reduceBNe, Int.reduceEq, Int.reduceLE, Int.reduceLT, Int.reduceToNat, Nat.reduceLeDiff, Nat.reduceMul, Nat.reduceSub, g1, g2, g3, g4, w1, w2, w3, w4, n16, c1, c2, c3, c4, c5]; exact rfl))); (focus (first | exact Goes.free | exact Goes.on rfl rfl (by with_reducible rfl) true (by decide))); (focus (simp only [go_sem, ↓reduceIte, Nat.reduceEqDiff, Nat.reduceLT, Nat.reduceLeDiff, c4, c5]; exact rfl)); (focus (first | (simp only [go_sem, ↓reduceIte]; exact rfl) | exact rfl)); (focus (first | decide +kernel | (simp only [evOk, ovOk, nvOk, keepOf, vis, LV.under, LV.idp, LO.under, LO.idp, List.all_cons, List.all_nil, List.any_cons, List.any_nil, beq_self_eq_true, Bool.and_true, Bool.true_and, Bool.or_false, decide_true, decide_false, Nat.reduceLT, Nat.reduceLeDiff, Bool.and_self]; done) | (simp [evOk, ovOk, nvOk, keepOf, vis, LV.under, LV.idp, LO.under, LO.idp]; done) | exact rfl)); (focus (first | (simp only [go_sem, ↓reduceIte, Nat.reduceEqDiff, reduceCtorEq]; exact rfl) | exact rfl))) | fail); done)); (focus kernel_rfl); (focus (first | exact puOk_none rfl | (simp [puOk, evShape, nvShape, look, oF_len, go_sem, ↓reduceIte, Nat.reduceEqDiff, reduceCtorEq, Nat.reduceLT, Nat.reduceAdd, Int.reduceBEq, Int.reduceBNe, Int.reduceEq, Int.reduceLE, Int.reduceLT, Int.reduceToNat, Nat.reduceLeDiff, Nat.reduceMul, Nat.reduceSub, g1, g2, g3, g4, w1, w2, w3, w4, n16, c1, c2, c3, c4, c5]; done))); (focus (first | (simp only [go_sem]; exact rfl) | exact rfl)); (focus (first | (simp only [go_sem, ↓reduceIte, Nat.reduceEqDiff, reduceCtorEq, Nat.reduceLT, Nat.reduceAdd, Int.reduceBEq, Int.reduceBNe, Int.reduceEq, Int.reduceLE, Int.reduceLT, Int.reduceToNat, Nat.reduceLeDiff, Nat.reduceMul, Nat.reduceSub, g1, g2, g3, g4, w1, w2, w3, w4, n16, c1, c2, c3, c4, c5]; exact rfl) | exact rfl)); (focus (first | (simp only [go_sem, ↓reduceIte, Nat.reduceEqDiff, reduceCtorEq, Nat.reduceLT, Nat.reduceAdd, Int.reduceBEq, Int.reduceBNe, Int.reduceEq, Int.reduceLE, Int.reduceLT, Int.reduceToNat, Nat.reduceLeDiff, Nat.reduceMul, Nat.reduceSub, g1, g2, g3, g4, w1, w2, w3, w4, n16, c1, c2, c3, c4, c5]; exact rfl) | exact rfl))) | fail)
      apply hJ2
      exact ⟨(k + 1, _), ⟨by omega, q3⟩, by omega, (Sub.by rfl rfl (by first | rfl | (simp only [subB, MB_all_under, MI_all_under, MB_all_idp, MI_all_idp, oF_under, oF_idp, oF_all_under, oF_all_idp, MB_under, MI_under, MB_idp, MI_idp, evOk, ovOk, nvOk, keepOf, vis, LV.under, LV.unders, LV.idp, LV.idps, LO.under, LO.idp, under_pv, idp_pv, List.all_cons, List.all_nil, List.any_cons, List.any_nil, Nat.reduceBEq, beq_self_eq_true, Bool.and_true, Bool.true_and, Bool.or_true, Bool.true_or, Bool.or_false, Bool.false_or, decide_true, decide_false, Nat.reduceLT, Nat.reduceLeDiff, Nat.le_refl, Nat.reduceAdd, Bool.and_self, Bool.or_self]; done)))⟩
    · obtain rfl : k = 8 := by omega
      have g1 : ¬ (((8 : Nat) : Int) < 8) := by omega
      have w2 : IntKind.i64.wrap ((i : Int) + 1) = ((i + 1 : Nat) : Int) := by rw [IntKind.wrap_i64]; omega
      (repeat' first | refine LOps.done ?_ | (apply LOps.mv; (focus (first | exact Goes.free | exact Goes.on rfl rfl (by with_reducible rfl) true (by decide))); (focus (exact rfl)); (focus (exact rfl))) | (apply LOps.loc; (focus (first | exact Goes.free | exact Goes.on rfl rfl (by with_reducible rfl) true (by decide))); (focus (exact rfl)); (focus (exact rfl)); (focus (simp only [go_sem, ↓reduceIte, g1, w2]; with_reducible rfl))) | refine LK.seq ?_ | refine LK.blk ?_ | refine LK.fin ?_ | refine LK.exit' rfl ?_ | (apply LK.condF2; (focus (exact rfl)); (focus (with_reducible rfl)); (focus (first | with_reducible rfl | decide | (with_reducible exact Bool.false_and _) | (with_reducible exact congrArg (fun b => b && _) (Bool.false_and _))))) | refine LK.regc ?_ | fail)
      apply hJ
      exact ⟨(i + 1, p), ⟨by omega, okI_next b0 b1 hp⟩, by omega, (Sub.by rfl rfl (by first | rfl | (simp only [subB, MB_all_under, MI_all_under, MB_all_idp, MI_all_idp, oF_under, oF_idp, oF_all_under, oF_all_idp, MB_under, MI_under, MB_idp, MI_idp, evOk, ovOk, nvOk, keepOf, vis, LV.under, LV.unders, LV.idp, LV.idps, LO.under, LO.idp, under_pv, idp_pv, List.all_cons, List.all_nil, List.any_cons, List.any_nil, Nat.reduceBEq, beq_self_eq_true, Bool.and_true, Bool.true_and, Bool.or_true, Bool.true_or, Bool.or_false, Bool.false_or, decide_true, decide_false, Nat.reduceLT, Nat.reduceLeDiff, Nat.le_refl, Nat.reduceAdd, Bool.and_self, Bool.or_self]; done)))⟩
  · obtain rfl : i = 8 := by omega
    have g1 : ¬ (((8 : Nat) : Int) < 8) := by omega
    obtain ⟨hb, hS⟩ := okI_end a0 a1 ho
    obtain ⟨s0, s1⟩ := prod_lt a0 a1 b0 b1
    have e0 := bc_mix0 (!(ma == mb)) (A * B) o
    have z0 : pre o 0 / 65536 ^ 0 = 0 := by simp [pre]
    (repeat' first | refine LOps.done ?_ | (apply LOps.loc; (focus (first | exact Goes.free | exact Goes.on rfl rfl (by with_reducible rfl) true (by decide))); (focus (exact rfl)); (focus (exact rfl)); (focus (simp only [go_sem, ↓reduceIte, g1]; with_reducible rfl))) | refine LK.seq ?_ | refine LK.block ?_ | refine LK.exit' rfl ?_ | (apply LK.condF2; (focus (exact rfl)); (focus (with_reducible rfl)); (focus (first | with_reducible rfl | decide | (with_reducible exact Bool.false_and _) | (with_reducible exact congrArg (fun b => b && _) (Bool.false_and _))))) | refine LK.regc ?_ | fail)
    refine LK.loop (fun k : Nat => 16 - k) (fun k => k ≤ 16) (fun k => ⟨63, [(2, .ptr 0 1 0 0), (3, .ptr 1 1 0 0), (4, .ptr 2 1 0 0), (5, .ptr 3 1 0 0), (8, vu (pre o k / 65536 ^ k)), (42, vi k)]⟩) (fun k => [(0, .arr 17 [bc ma (dg A)]), (1, .arr 17 [bc mb (dg B)]), (2, .arr 17 [z17]), (3, .arr 17 [bc (!(ma == mb)) (mix (A * B) o k)])]) 0 (by omega) (Sub.by rfl rfl (by first | rfl | (simp only [subB, MB_all_under, MI_all_under, MB_all_idp, MI_all_idp, oF_under, oF_idp, oF_all_under, oF_all_idp, MB_under, MI_under, MB_idp, MI_idp, evOk, ovOk, nvOk, keepOf, vis, LV.under, LV.unders, LV.idp, LV.idps, LO.under, LO.idp, under_pv, idp_pv, List.all_cons, List.all_nil, List.any_cons, List.any_nil, Nat.reduceBEq, beq_self_eq_true, Bool.and_true, Bool.true_and, Bool.or_true, Bool.true_or, Bool.or_false, Bool.false_or, decide_true, decide_false, Nat.reduceLT, Nat.reduceLeDiff, Nat.le_refl, Nat.reduceAdd, Bool.and_self, Bool.or_self, e0, z0]; done))) ?_
    rintro k hk J3 hJ3
    rcases Nat.lt_or_ge k 16 with klt | kge
    · have q1 : ((k : Int) < 16) := by omega
      obtain ⟨f1, f2, f3⟩ := carry_facts hS hb klt
      have c1 := bc_get (!(ma == mb)) (mix (A * B) o k) klt
      rw [mix_at] at c1
      have c4 := bc_mix (!(ma == mb)) (A * B) o klt
      have c5 := Lf_le (mix (A * B) o k) klt
      have w2 : IntKind.i64.wrap ((k : Int) + 1) = ((k + 1 : Nat) : Int) := by rw [IntKind.wrap_i64]; omega
      (repeat' first | refine LOps.done ?_ | (apply LOps.mv; (focus (first | exact Goes.free | exact Goes.on rfl rfl (by with_reducible rfl) true (by decide))); (focus (exact rfl)); (focus (exact rfl))) | (apply LOps.asg; (focus (first | exact Goes.free | exact Goes.on rfl rfl (by with_reducible rfl) true (by decide))); (focus (exact rfl)); (focus (exact rfl))) | (apply LOps.loc; (focus (first | exact Goes.free | exact Goes.on rfl rfl (by with_reducible rfl) true (by decide))); (focus (exact rfl)); (focus (exact rfl)); (focus (simp only [go_sem, ↓reduceIte, Nat.reduceEqDiff, reduceCtorEq, Nat.reduceLT, Int.reduceEq, q1, f1, f2, f3, c1, w2, n16]; with_reducible rfl))) | (apply LOps.loc0; (focus (first | exact Goes.free | exact Goes.on rfl rfl (by with_reducible rfl) true (by decide))); (focus (exact rfl)); (focus (simp only [go_sem, ↓reduceIte, Nat.reduceEqDiff, reduceCtorEq, Nat.reduceLT, Nat.reduceLeDiff, c4, c5]; with_reducible rfl))) | refine LK.seq ?_ | refine LK.skip ?_ | refine LK.block ?_ | refine LK.blk ?_ | refine LK.fin ?_ | (apply LK.condT2; (focus (exact rfl)); (focus (with_reducible rfl)); (focus (first | with_reducible rfl | decide | (with_reducible exact Bool.true_or _) | (with_reducible exact congrArg (fun b => b || _) (Bool.true_or _))))) | refine LK.regc ?_ | fail)
      apply hJ3
      exact ⟨k + 1, by omega, by omega, (Sub.by rfl rfl (by first | rfl | (simp only [subB, MB_all_under, MI_all_under, MB_all_idp, MI_all_idp, oF_under, oF_idp, oF_all_under, oF_all_idp, MB_under, MI_under, MB_idp, MI_idp, evOk, ovOk, nvOk, keepOf, vis, LV.under, LV.unders, LV.idp, LV.idps, LO.under, LO.idp, under_pv, idp_pv, List.all_cons, List.all_nil, List.any_cons, List.any_nil, Nat.reduceBEq, beq_self_eq_true, Bool.and_true, Bool.true_and, Bool.or_true, Bool.true_or, Bool.or_false, Bool.false_or, decide_true, decide_false, Nat.reduceLT, Nat.reduceLeDiff, Nat.le_refl, Nat.reduceAdd, Bool.and_self, Bool.or_self]; done)))⟩
    · obtain rfl : k = 16 := by omega
      have q1 : ¬ (((16 : Nat) : Int) < 16) := by omega
      have hl3 := Lf_all_leaf (dg (A * B))
      simp only [go_sem] at hl3
      have ht3 := Lf_take (dg (A * B))
      have hn3 := Lf_mlen (dg (A * B))
      have hz := zero_fun (!(ma == mb)) (A * B) s0 s1
      simp only [bc_mix16]
      by_cases z : A * B = 0
      · have z1 : (A * B == 0) = true := by simpa using z
        have z2 : (!(ma == mb) && A * B != 0) = false := by simp [z]
        rw [z1] at hz
        rw [z2]
        (repeat' first | refine LOps.done ?_ | (apply LOps.loc; (focus (first | exact Goes.free | exact Goes.on rfl rfl (by with_reducible rfl) true (by decide))); (focus (exact rfl)); (focus (exact rfl)); (focus (simp only [go_sem, ↓reduceIte, Nat.reduceEqDiff, reduceCtorEq, Nat.reduceLT, Nat.reduceAdd, q1, ht3, hn3]; with_reducible rfl))) | (apply LOps.loc0; (focus (first | exact Goes.free | exact Goes.on rfl rfl (by with_reducible rfl) true (by decide))); (focus (exact rfl)); (focus (simp only [go_sem, ↓reduceIte, Nat.reduceEqDiff, reduceCtorEq, Nat.reduceLT, Nat.reduceAdd, Nat.reduceLeDiff, hl3, hn3]; with_reducible rfl))) | refine LK.seq ?_ | refine LK.ret' ?_ | refine LK.exit' rfl ?_ | (apply LK.condT2; (focus (exact rfl)); (focus (with_reducible rfl)); (focus (first | with_reducible rfl | decide | (with_reducible exact Bool.true_or _) | (with_reducible exact congrArg (fun b => b || _) (Bool.true_or _))))) | (apply LK.condF2; (focus (exact rfl)); (focus (with_reducible rfl)); (focus (first | with_reducible rfl | decide | (with_reducible exact Bool.false_and _) | (with_reducible exact congrArg (fun b => b && _) (Bool.false_and _))))) | refine LK.regc ?_ | (apply retQ; (focus (first | exact lres_one rfl | exact lres_more rfl | (simp only [lres, lresv, Try.results30, go_sem, ↓reduceIte, Nat.reduceEqDiff, reduceCtorEq, Nat.reduceAdd, ht3, hn3]; exact rfl)))) | (apply LOps.locFn; (focus (first | exact Goes.free | exact Goes.on rfl rfl (by with_reducible rfl) true (by decide))); (focus (exact rfl)); (focus (exact rfl)); (focus (simp only [go_sem, ↓reduceIte]; exact rfl)); (focus (simp only [go_sem])); (focus (exact hz)); (focus (first | rfl | simp [go_sem])); (focus (first | rfl | simp [go_sem]))) | fail)
        all_goals rfl
      · have z1 : (A * B == 0) = false := by simpa using z
        have z2 : (!(ma == mb) && A * B != 0) = !(ma == mb) := by simp [z]
        rw [z1] at hz
        rw [z2]
        (repeat' first | refine LOps.done ?_ | (apply LOps.loc; (focus (first | exact Goes.free | exact Goes.on rfl rfl (by with_reducible rfl) true (by decide))); (focus (exact rfl)); (focus (exact rfl)); (focus (simp only [go_sem, ↓reduceIte, Nat.reduceEqDiff, reduceCtorEq, Nat.reduceAdd, q1, ht3, hn3]; with_reducible rfl))) | (apply LOps.loc0; (focus (first | exact Goes.free | exact Goes.on rfl rfl (by with_reducible rfl) true (by decide))); (focus (exact rfl)); (focus (simp only [go_sem, ↓reduceIte, Nat.reduceEqDiff, reduceCtorEq, Nat.reduceLT, Nat.reduceAdd, hl3, hn3]; with_reducible rfl))) | refine LK.seq ?_ | refine LK.skip ?_ | refine LK.ret' ?_ | refine LK.exit' rfl ?_ | (apply LK.condF2; (focus (exact rfl)); (focus (with_reducible rfl)); (focus (first | with_reducible rfl | decide | (with_reducible exact Bool.false_and _) | (with_reducible exact congrArg (fun b => b && _) (Bool.false_and _))))) | refine LK.regc ?_ | (apply retQ; (focus (first | exact lres_one rfl | exact lres_more rfl | (simp only [lres, lresv, Try.results30, go_sem, ↓reduceIte, Nat.reduceEqDiff, reduceCtorEq, Nat.reduceAdd, ht3, hn3]; exact rfl)))) | (apply LOps.locFn; (focus (first | exact Goes.free | exact Goes.on rfl rfl (by with_reducible rfl) true (by decide))); (focus (exact rfl)); (focus (exact rfl)); (focus (simp only [go_sem, ↓reduceIte]; exact rfl)); (focus (simp only [go_sem])); (focus (exact hz)); (focus (first | rfl | simp [go_sem])); (focus (first | rfl | simp [go_sem]))) | fail)
        all_goals rfl
end Go.Proofs.Ytffchlfnnilbiaa
