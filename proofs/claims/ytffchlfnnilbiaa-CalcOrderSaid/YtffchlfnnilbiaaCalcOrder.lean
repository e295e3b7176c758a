/- ravel/ravellaw02.CalcOrder hands back true for every input, and each argument reads as it did; no condition beyond the row's own. -/
import Derived.Test.YtffchlfnnilbiaaB
import Derived.Test.YtffchlfnnilbiaaRows
import Derived.WalkKit
import Derived.ProofKit
import Derived.OpenShut
import Derived.Below
set_option linter.unusedSimpArgs false
set_option linter.unusedVariables false
namespace Go.Proofs.Ytffchlfnnilbiaa
open Go.Lw
attribute [local irreducible] LK LOps LW
set_option maxHeartbeats 4000000 in
set_option maxRecDepth 10000 in
theorem order_fun (a b c d m n : Int) (ia : I64 a) (ib : I64 b) (ic : I64 c) (id' : I64 d) (im : I64 m) (in' : I64 n) : Fun Try.prog 3 [vi a, vi b, vi c, vi d, vi m, vi n] (vb true) := by
  refine LCalls.enter Try.func3 rfl (by simp [Try.ntmps3]) (LK.start ?_)
  simp only [Try.ntmps3, enterA, Nat.zero_add]
  (repeat' first | refine LOps.done ?_ | refine LOps.scEnd rfl (by with_reducible rfl) | refine LOps.mv (by first | exact Goes.free | exact Goes.on rfl rfl (by with_reducible rfl) true (by decide)) rfl rfl ?_ | refine LOps.asg (by first | exact Goes.free | exact Goes.on rfl rfl (by with_reducible rfl) true (by decide)) rfl rfl ?_ | refine LOps.ext (by first | exact Goes.free | exact Goes.on rfl rfl (by with_reducible rfl) true (by decide)) rfl rfl rfl ?_ | refine LOps.loc (by first | exact Goes.free | exact Goes.on rfl rfl (by with_reducible rfl) true (by decide)) rfl rfl (by simp only [tmpsOf, go_sem, ↓reduceIte, decide_true, decide_false, if_true, if_false, Bool.false_eq_true, Option.map_some, Option.bind_some, Option.map_none, Nat.reduceEqDiff, reduceCtorEq, Nat.reduceLT, Nat.reduceAdd, decide_eq_true_eq, List.append_nil, List.nil_append, List.cons_append, List.map_cons, List.map_nil, List.length_cons, List.length_nil, List.take_succ_cons, List.take_zero, List.drop_succ_cons, List.drop_zero, List.drop_nil, List.take_nil, List.set_cons_zero, List.set_cons_succ, List.getElem?_cons_zero, List.getElem?_cons_succ, Nat.zero_add]; exact rfl) ?_ | refine LOps.loc0 (by first | exact Goes.free | exact Goes.on rfl rfl (by with_reducible rfl) true (by decide)) rfl (by simp only [go_sem, ↓reduceIte, decide_true, decide_false, if_true, if_false, Bool.false_eq_true, Option.map_some, Option.bind_some, Option.map_none, Nat.reduceEqDiff, reduceCtorEq, Nat.reduceLT, Nat.reduceAdd, decide_eq_true_eq, List.append_nil, List.nil_append, List.cons_append, List.map_cons, List.map_nil, List.length_cons, List.length_nil, List.take_succ_cons, List.take_zero, List.drop_succ_cons, List.drop_zero, List.drop_nil, List.take_nil, List.set_cons_zero, List.set_cons_succ, List.getElem?_cons_zero, List.getElem?_cons_succ, Nat.zero_add]; exact rfl) ?_ | refine LOps.pass (by first | exact Goes.on rfl rfl (by with_reducible rfl) false (by decide) | exact Goes.undef rfl rfl (by with_reducible rfl)) rfl ?_ | refine LOps.pass0 (by first | exact Goes.on rfl rfl (by with_reducible rfl) false (by decide) | exact Goes.undef rfl rfl (by with_reducible rfl)) ?_ | refine LK.seq ?_ | refine LK.skip ?_ | refine LK.block ?_ | refine LK.blk ?_ | refine LK.fin ?_ | refine LR.step ?_ | refine LK.ret' ?_ | refine LK.exit' rfl ?_ | refine LK.condT2 rfl (by with_reducible rfl) (by first | with_reducible rfl | decide) ?_ | refine LK.condF2 rfl (by with_reducible rfl) (by first | with_reducible rfl | decide) ?_ | refine LK.cond2 rfl (by with_reducible rfl) ⟨fun hb => ?_⟩ ⟨fun hb => ?_⟩ | refine LK.regc ?_ | refine LOps.locFn (by first | exact Goes.free | exact Goes.on rfl rfl (by with_reducible rfl) true (by decide)) rfl rfl (by simp only [go_sem, ↓reduceIte, decide_true, decide_false, if_true, if_false, Bool.false_eq_true, Option.map_some, Option.bind_some, Option.map_none, Nat.reduceEqDiff, reduceCtorEq, Nat.reduceLT, Nat.reduceAdd, decide_eq_true_eq, List.append_nil, List.nil_append, List.cons_append, List.map_cons, List.map_nil, List.length_cons, List.length_nil, List.take_succ_cons, List.take_zero, List.drop_succ_cons, List.drop_zero, List.drop_nil, List.take_nil, List.set_cons_zero, List.set_cons_succ, List.getElem?_cons_zero, List.getElem?_cons_succ, Nat.zero_add]; exact rfl) (by simp only [go_sem]) (by first | exact live_fun | exact add_fun _ _ (by first | assumption | exact addR_in _ _ | exact subR_in _ _ | exact mulR_in _ _ | (simp only [IntKind.wrap_i64]; omega)) (by first | assumption | exact addR_in _ _ | exact subR_in _ _ | exact mulR_in _ _ | (simp only [IntKind.wrap_i64]; omega)) | exact sub_fun _ _ (by first | assumption | exact addR_in _ _ | exact subR_in _ _ | exact mulR_in _ _ | (simp only [IntKind.wrap_i64]; omega)) (by first | assumption | exact addR_in _ _ | exact subR_in _ _ | exact mulR_in _ _ | (simp only [IntKind.wrap_i64]; omega)) | exact mul_fun _ _ (by first | assumption | exact addR_in _ _ | exact subR_in _ _ | exact mulR_in _ _ | (simp only [IntKind.wrap_i64]; omega)) (by first | assumption | exact addR_in _ _ | exact subR_in _ _ | exact mulR_in _ _ | (simp only [IntKind.wrap_i64]; omega)) | exact cmp_fun _ _ _ _ (by first | assumption | exact addR_in _ _ | exact subR_in _ _ | exact mulR_in _ _ | (simp only [IntKind.wrap_i64]; omega)) (by first | assumption | exact addR_in _ _ | exact subR_in _ _ | exact mulR_in _ _ | (simp only [IntKind.wrap_i64]; omega)) (by first | assumption | exact addR_in _ _ | exact subR_in _ _ | exact mulR_in _ _ | (simp only [IntKind.wrap_i64]; omega)) (by first | assumption | exact addR_in _ _ | exact subR_in _ _ | exact mulR_in _ _ | (simp only [IntKind.wrap_i64]; omega)) | exact gap_fun _ _ _ _ (by first | assumption | exact addR_in _ _ | exact subR_in _ _ | exact mulR_in _ _ | (simp only [IntKind.wrap_i64]; omega)) (by first | assumption | exact addR_in _ _ | exact subR_in _ _ | exact mulR_in _ _ | (simp only [IntKind.wrap_i64]; omega)) (by first | assumption | exact addR_in _ _ | exact subR_in _ _ | exact mulR_in _ _ | (simp only [IntKind.wrap_i64]; omega)) (by first | assumption | exact addR_in _ _ | exact subR_in _ _ | exact mulR_in _ _ | (simp only [IntKind.wrap_i64]; omega))) (by first | rfl | simp [go_sem]) (by first | rfl | simp [go_sem]) ?_ | (apply LOps.and2; exact rfl; exact rfl; exact rfl; exact rfl; exact rfl; (focus (with_reducible rfl)); (focus (first | kernel_rfl | rfl))) | (apply LOps.or2; exact rfl; exact rfl; exact rfl; exact rfl; exact rfl; (focus (with_reducible rfl)); (focus (first | kernel_rfl | rfl))) | refine Under.mk (fun hg => ?_) | refine LOps.guard2 rfl rfl rfl (by with_reducible rfl) ?_ ?_ | fail)
  all_goals refine ⟨.inr rfl, _, (by first | exact lres_one rfl | exact lres_more rfl | (simp only [lres, lresv, Try.results3, go_sem, ↓reduceIte, decide_true, decide_false, if_true, if_false, Bool.false_eq_true, Option.map_some, Option.bind_some, Option.map_none, Nat.reduceEqDiff, reduceCtorEq, Nat.reduceLT, Nat.reduceAdd, decide_eq_true_eq, List.append_nil, List.nil_append, List.cons_append, List.map_cons, List.map_nil, List.length_cons, List.length_nil, List.take_succ_cons, List.take_zero, List.drop_succ_cons, List.drop_zero, List.drop_nil, List.take_nil, List.set_cons_zero, List.set_cons_succ, List.getElem?_cons_zero, List.getElem?_cons_succ, Nat.zero_add]; exact rfl)), ?_⟩
  all_goals congr 3
  · exact order_one a b c d (by assumption)
  · exact order_two a b c d (by assumption) (by assumption)
  · exact order_three a b c d (by assumption) (by assumption)
  · exact order_four a b c d m n (by assumption) (by assumption)
  · exact order_five a b c d m n (by assumption) (by assumption)
end Go.Proofs.Ytffchlfnnilbiaa
namespace Go.Proofs.Ytffchlfnnilbiaa.calcOrder
open Go.ChangeShapes Go.WideShapes Go.ChangeAt Go.RowKit
set_option linter.unusedVariables false      -- a walk need not use every 'w<i>' (that an integer argument fits its kind)

theorem own : ownKnob Try.prog.godebug = none := by kernel_rfl

/-! ### The walk -/
theorem walk (a0 : Int) (a1 : Int) (a2 : Int) (a3 : Int) (a4 : Int) (a5 : Int) (w0 : (Lit.int .i64 a0).wf = true) (w1 : (Lit.int .i64 a1).wf = true) (w2 : (Lit.int .i64 a2).wf = true) (w3 : (Lit.int .i64 a3).wf = true) (w4 : (Lit.int .i64 a4).wf = true) (w5 : (Lit.int .i64 a5).wf = true) (w : World) :
    Calls Try.prog 3 #[.int .i64 a0, .int .i64 a1, .int .i64 a2, .int .i64 a3, .int .i64 a4, .int .i64 a5] w fun e w' => e = .returned (.bool true) ∧ Below w.heap.size w w' :=
  (Go.Lw.LCalls.row (order_fun a0 a1 a2 a3 a4 a5 (by have := w0; simp [Lit.wf, IntKind.min, IntKind.max, IntKind.bits, IntKind.signed] at this; first | exact this | omega) (by have := w1; simp [Lit.wf, IntKind.min, IntKind.max, IntKind.bits, IntKind.signed] at this; first | exact this | omega) (by have := w2; simp [Lit.wf, IntKind.min, IntKind.max, IntKind.bits, IntKind.signed] at this; first | exact this | omega) (by have := w3; simp [Lit.wf, IntKind.min, IntKind.max, IntKind.bits, IntKind.signed] at this; first | exact this | omega) (by have := w4; simp [Lit.wf, IntKind.min, IntKind.max, IntKind.bits, IntKind.signed] at this; first | exact this | omega) (by have := w5; simp [Lit.wf, IntKind.min, IntKind.max, IntKind.bits, IntKind.signed] at this; first | exact this | omega)) w (Go.Lw.ArgsR.cons (Go.Lw.VRel.scalar _) (Go.Lw.ArgsR.cons (Go.Lw.VRel.scalar _) (Go.Lw.ArgsR.cons (Go.Lw.VRel.scalar _) (Go.Lw.ArgsR.cons (Go.Lw.VRel.scalar _) (Go.Lw.ArgsR.cons (Go.Lw.VRel.scalar _) (Go.Lw.ArgsR.cons (Go.Lw.VRel.scalar _) Go.Lw.ArgsR.nil)))))))

/-! ### THE ROW's STEP: WRITTEN OUT: LEAVE IT -/
set_option maxRecDepth 100000 in
theorem lifted (os : Os) (started : os.Started) (H : Type) (enc : TypeId × Value → H) :
    ReturnsInHanded {} Try.checked os 3 .any (Rows.calcOrderSpec.pre6 enc Try.prog Try.f3 Rows.calcOrderRow.domain false) (Rows.calcOrderSpec.post enc Try.prog Try.f3 false true false false) := by
  refine returnsInHanded_of_change (C := Try.checked) own started (by kernel_rfl) Try.func3
    (ChangeSpec.witness6 (enc := enc) (C := Try.checked) false ⟨#[], #[.int .i64 0, .int .i64 0, .int .i64 0, .int .i64 0, .int .i64 0, .int .i64 0], []⟩ 8 (by kernel_rfl) (by kernel_rfl) (by kernel_rfl) (by kernel_rfl)) ?_
  intro W base args ds gs before hval0 hW hcnd _
  have hval : ∀ (j : Nat) t v, Try.f3.params[j]? = some t → args[j]? = some v → Value.okWide Try.prog W .any base t v := hval0
  have hW' := hW
  obtain ⟨p, q, hA0, hV, rfl, hfz, hnd⟩ := hW
  have hA : DataW.TrodAll enc Try.prog W 0 (fun _ => true) true Try.f3.params.toList args.toList ds p := hA0
  rw [Try.params3] at hA hval
  obtain ⟨v0, vs0, d0, ds0, p0, q0, hargs, rfl, rfl, h0, r0⟩ := trodAll_cons hA
  obtain ⟨v1, vs1, d1, ds1, p1, q1, rfl, rfl, rfl, h1, r1⟩ := trodAll_cons r0
  obtain ⟨v2, vs2, d2, ds2, p2, q2, rfl, rfl, rfl, h2, r2⟩ := trodAll_cons r1
  obtain ⟨v3, vs3, d3, ds3, p3, q3, rfl, rfl, rfl, h3, r3⟩ := trodAll_cons r2
  obtain ⟨v4, vs4, d4, ds4, p4, q4, rfl, rfl, rfl, h4, r4⟩ := trodAll_cons r3
  obtain ⟨v5, vs5, d5, ds5, p5, q5, rfl, rfl, rfl, h5, r5⟩ := trodAll_cons r4
  obtain ⟨rfl, rfl, rfl⟩ := trodAll_nil r5
  obtain rfl : args = #[v0, v1, v2, v3, v4, v5] := by cases args; simp_all
  obtain ⟨rfl, rfl⟩ := trodVars_none hV
  obtain ⟨a0, rfl, rfl, rfl, w0⟩ := open_int Try.underlying2 (hval 0 2 v0 rfl rfl) h0
  obtain ⟨a1, rfl, rfl, rfl, w1⟩ := open_int Try.underlying2 (hval 1 2 v1 rfl rfl) h1
  obtain ⟨a2, rfl, rfl, rfl, w2⟩ := open_int Try.underlying2 (hval 2 2 v2 rfl rfl) h2
  obtain ⟨a3, rfl, rfl, rfl, w3⟩ := open_int Try.underlying2 (hval 3 2 v3 rfl rfl) h3
  obtain ⟨a4, rfl, rfl, rfl, w4⟩ := open_int Try.underlying2 (hval 4 2 v4 rfl rfl) h4
  obtain ⟨a5, rfl, rfl, rfl, w5⟩ := open_int Try.underlying2 (hval 5 2 v5 rfl rfl) h5
  clear hA0 hval0
  simp only [List.append_nil] at hW'
  refine (walk a0 a1 a2 a3 a4 a5 w0 w1 w2 w3 w4 w5 W).mono fun e W' ⟨he, hg⟩ => ?_
  subst he
  exact ⟨_, rfl, Go.Lw.post_law (tb := 4) hW' hg (by kernel_rfl) (by kernel_rfl) rfl rfl rfl Try.underlying4⟩

theorem over : Rows.calcOrderRow.holds Try.pinned (OpenSpec.ofChange Rows.calcOrderSpec) :=
  OpenClaim.holds_of_wide 3 Try.f3 rfl rfl rfl rfl rfl rfl rfl ⟨rfl, rfl, rfl, rfl, rfl⟩ rfl rfl rfl rfl rfl (by kernel_rfl) Try.func3 (by kernel_rfl)
    (of_decide_eq_true (by kernel_rfl)) (by unfold Func.isWrapper; first | (rw [if_pos (by decide +kernel)]; kernel_rfl) | (rw [if_neg (by decide +kernel)]; exact ⟨rfl, rfl⟩))
    (fun os started H enc _ => lifted os started H enc)

/-- ████ THE STATEMENT ████ -/
theorem proved : Rows.CalcOrderSaid :=
  over
end Go.Proofs.Ytffchlfnnilbiaa.calcOrder
