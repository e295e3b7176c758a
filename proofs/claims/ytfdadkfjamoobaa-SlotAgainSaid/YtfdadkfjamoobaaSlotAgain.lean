/- ravel/ravellaw05.SlotAgain hands back true for every input, and each argument reads as it did; no condition beyond the row's own. -/
import Derived.Test.YtfdadkfjamoobaaB
import Derived.Test.YtfdadkfjamoobaaRows
import Derived.WalkKit
import Derived.ProofKit
import Derived.OpenShut
import Derived.Below
import Derived.ChangeSlices
set_option linter.unusedVariables false
set_option linter.unusedSimpArgs false
namespace Go.Lw
open Go.ChangeShapes Go.RowKit

theorem Sim.nilObj {E : Env} {w : World} {nx : Nat} {mo : List (Nat × LO)} (sz : Nat) (e : TypeId) (h : Sim E w ⟨nx, mo⟩) : Ext E w (E.put nx ⟨none, 0, 0, sz, e⟩) w ∧ Sim (E.put nx ⟨none, 0, 0, sz, e⟩) w ⟨nx + 1, upd nx (.arr sz []) mo⟩ := by
  have hn : ¬ E.U nx := fun hu => Nat.lt_irrefl _ (h.nx nx hu)
  have := h.put (w' := w) (id := nx) (L' := ⟨none, 0, 0, sz, e⟩) (o := .arr sz []) (.inr hn) (fun _ _ _ => rfl) (fun b hb => by cases hb) (Nat.le_refl _) rfl rfl rfl (fun _ => ⟨rfl, rfl, by simp, .inl ⟨rfl, rfl, rfl⟩⟩)
  simpa [LSt.put] using this

/-- From here on a nil slice in a temporary is an array of our own without rows. -/
theorem LK.own0 {P : Program} {Q : Exit → LAct → LSt → Prop} {n nx : Nat} {m : List (Nat × LV)} {mo : List (Nat × LO)} {c : Code} {k : List KI} {mo2 : List (Nat × LO)} (t sz : Nat) (hu : upd nx (.arr sz []) mo = mo2) (ht : lookB t m = some (.pv (.sc (.slice none 0 0)))) (h : LK P (.code c :: k) Q ⟨n, (t, .own nx 0 0 0) :: m⟩ ⟨nx + 1, mo2⟩) : LK P (.code c :: k) Q ⟨n, m⟩ ⟨nx, mo⟩ := by
  subst hu
  refine LK.lw ?_
  intro E w A h1 h2 h3
  obtain ⟨g1, g2⟩ := h1.nilObj sz 0
  have hA : AR (E.put nx ⟨none, 0, 0, sz, 0⟩) w ⟨n, (t, .own nx 0 0 0) :: m⟩ A := by
    refine ⟨h2.1, fun u v hv => ?_⟩
    simp only [look] at hv
    split at hv
    · rename_i e
      subst e
      obtain rfl := Option.some.inj hv
      rw [lookB_eq] at ht
      have := h2.2 t _ ht
      generalize A.tmps.getD t undef = V at this
      obtain rfl := this.sc_inv
      refine .own _ _ _ _ _ (.inl rfl) ⟨none, 0, 0, rfl⟩ (fun L hL => ?_)
      simp only [Env.put, if_true, Option.some.injEq] at hL
      subst hL
      exact ⟨Nat.le_refl _, fun _ => ⟨⟨none, rfl⟩, rfl, rfl⟩⟩
    · exact (h2.2 u v hv).mono g1
  have h' : LW P c (post P k Q) ⟨n, (t, .own nx 0 0 0) :: m⟩ ⟨nx + 1, upd nx (.arr sz []) mo⟩ := h
  refine wp_mono (h' _ w A g2 hA h3) ?_
  rintro x A' w' ⟨hc, a', σ', E2, k1, k2, k3, k4, k5⟩
  exact ⟨hc, a', σ', E2, g1.trans k1, k2, k3, k4, k5⟩

section
variable {H : Type} {enc : TypeId × Value → H} {P : Program} {W : World} {t e : TypeId} {fuel : Nat} {cs : List Value} {x : DataW H × List MemPlace}
/-- A cell that holds a slice of integers. -/
theorem ints_cell {k : IntKind} (ht : P.underlying t = some (.slice e)) (he : P.underlying e = some (.int k)) (hc : P.cellsOf e = 1)
    (h : DataW.trod enc P W 0 (fun _ => true) true fuel t cs = some x) : ∃ (V : Value) (k1 : Kd) (g : List Int), cs = [V] ∧ (k1 = .loose ∨ g = []) ∧ (∀ n ∈ g, (Lit.int k n).wf = true) ∧ VRel Env.none W (.pv (.ro k1 1 (g.map fun x => [.sc (.int k x)]))) V := by
  have h0 := h
  rcases open_ints ht he hc h with ⟨rfl, _⟩ | ⟨a, l, c, zs, rfl, _⟩
  · obtain ⟨k1, g, h1, h2, h3⟩ := open_ints_in (a := none) (len := 0) (cap := 0) (d := x.1) (p := x.2) ht he hc ⟨fuel, by simpa [Value.cells] using h0⟩
    exact ⟨_, k1, g, rfl, h1, h2, h3⟩
  · obtain ⟨k1, g, h1, h2, h3⟩ := open_ints_in (a := some a) (len := l) (cap := c) (d := x.1) (p := x.2) ht he hc ⟨fuel, by simpa [Value.cells] using h0⟩
    exact ⟨_, k1, g, rfl, h1, h2, h3⟩
/-- A cell that holds a slice of bools. -/
theorem bools_cell (ht : P.underlying t = some (.slice e)) (he : P.underlying e = some .bool) (hc : P.cellsOf e = 1)
    (h : DataW.trod enc P W 0 (fun _ => true) true fuel t cs = some x) : ∃ (V : Value) (k1 : Kd) (g : List Bool), cs = [V] ∧ (k1 = .loose ∨ g = []) ∧ VRel Env.none W (.pv (.ro k1 1 (g.map fun x => [.sc (.bool x)]))) V := by
  have h0 := h
  rcases Deep.open_bools ht he hc h with ⟨rfl, _⟩ | ⟨a, l, c, B, rfl, _⟩
  · obtain ⟨k1, g, h1, h3⟩ := open_bools_in (a := none) (len := 0) (cap := 0) (d := x.1) (p := x.2) ht he hc ⟨fuel, by simpa [Value.cells] using h0⟩
    exact ⟨_, k1, g, rfl, h1, h3⟩
  · obtain ⟨k1, g, h1, h3⟩ := open_bools_in (a := some a) (len := l) (cap := c) (d := x.1) (p := x.2) ht he hc ⟨fuel, by simpa [Value.cells] using h0⟩
    exact ⟨_, k1, g, rfl, h1, h3⟩
/-- A cell that holds an integer. -/
theorem int_cell {k : IntKind} (ht : P.underlying t = some (.int k)) (h : DataW.trod enc P W 0 (fun _ => true) true fuel t cs = some x) : ∃ n : Int, cs = [.int k n] ∧ (Lit.int k n).wf = true ∧ VRel Env.none W (.pv (.sc (.int k n))) (.int k n) := by
  obtain ⟨m, rfl, _, hw⟩ := DataW.trod_int ht h
  exact ⟨m, rfl, hw, .pv _ _ (.sc _)⟩
end
/-- Two cells of a struct. -/
theorem agg_two {E : Env} {w : World} {u v : LV} {U V : Value} (h1 : VRel E w u U) (h2 : VRel E w v V) : VRel E w (.agg [u, v]) (.agg #[U, V]) := by
  refine .agg [u, v] [U, V] rfl fun i i1 i2 => ?_
  match i, i1, i2 with
  | 0, _, _ => exact h1
  | 1, _, _ => exact h2
/-- A struct of two cells that comes in. -/
theorem struct_two {H : Type} {enc : TypeId × Value → H} {P : Program} {W : World} {t : TypeId} {f0 f1 : Field} {V : Value} {d : DataW H} {p : List MemPlace} (ht : P.underlying t = some (.struct #[f0, f1])) (h0 : f0.offset = 0) (h1 : f1.offset = 1) (c0 : P.cellsOf f0.type = 1) (c1 : P.cellsOf f1.type = 1) (cs : P.cellsOf t = 2)
    {cells : Array Value} (hV : V = .agg cells) (h : DataW.Trod enc P W 0 (fun _ => true) true t V d p) :
    ∃ (A B : Value) (n : Nat) (y0 y1 : DataW H × List MemPlace), V = .agg #[A, B] ∧ DataW.trod enc P W 0 (fun _ => true) true n f0.type [A] = some y0 ∧ DataW.trod enc P W 0 (fun _ => true) true n f1.type [B] = some y1 := by
  obtain ⟨fuel, hf⟩ := h
  subst hV
  obtain ⟨y0, y1, n, _, hl, k0, k1⟩ := trod_struct2 ht hf
  rw [cs] at hl
  simp only [Value.cells] at hl k0 k1
  obtain ⟨l⟩ := cells
  match l, hl with
  | [A, B], _ =>
    refine ⟨A, B, n, y0, y1, rfl, ?_, ?_⟩
    · simpa [h0, c0] using k0
    · simpa [h1, c1] using k1
end Go.Lw
set_option linter.unusedSimpArgs false
set_option linter.unusedVariables false
namespace Go.Proofs.Ytfdadkfjamoobaa
open Go.Lw
attribute [local irreducible] LK LOps LW
set_option maxHeartbeats 4000000 in
set_option maxRecDepth 10000 in
theorem again_long (k1 k2 : Kd) (g : List Int) (l : List Bool) (id : Int) (h : g.length > 400 ∨ l.length > 400) : Fun Try.prog 4 [pl k1 k2 g l, vi id] (vb true) := by
  refine LCalls.enter Try.func4 rfl (by simp [Try.ntmps4]) (LK.start ?_)
  simp only [Try.ntmps4, enterA, Nat.zero_add]
  (repeat' first | refine LOps.done ?_ | refine LOps.scEnd rfl (by with_reducible rfl) | refine LOps.mv (by first | exact Goes.free | exact Goes.on rfl rfl (by with_reducible rfl) true (by decide)) rfl rfl ?_ | refine LOps.asg (by first | exact Goes.free | exact Goes.on rfl rfl (by with_reducible rfl) true (by decide)) rfl rfl ?_ | refine LOps.ext (by first | exact Goes.free | exact Goes.on rfl rfl (by with_reducible rfl) true (by decide)) rfl rfl rfl ?_ | refine LOps.loc (by first | exact Goes.free | exact Goes.on rfl rfl (by with_reducible rfl) true (by decide)) rfl rfl (by simp only [go_sem, ↓reduceIte, Nat.reduceEqDiff, reduceCtorEq, Nat.reduceLT, Nat.reduceAdd, Int.reduceBEq, Int.reduceBNe, Int.reduceEq, Int.reduceLE, Int.reduceLT, Int.reduceToNat, Nat.reduceLeDiff, Nat.reduceMul, Nat.reduceSub]; with_reducible rfl) ?_ | refine LOps.loc0 (by first | exact Goes.free | exact Goes.on rfl rfl (by with_reducible rfl) true (by decide)) rfl (by simp only [go_sem, ↓reduceIte, Nat.reduceEqDiff, reduceCtorEq, Nat.reduceLT, Nat.reduceAdd, Int.reduceBEq, Int.reduceBNe, Int.reduceEq, Int.reduceLE, Int.reduceLT, Int.reduceToNat, Nat.reduceLeDiff, Nat.reduceMul, Nat.reduceSub]; with_reducible rfl) ?_ | refine LOps.pass (by first | exact Goes.on rfl rfl (by with_reducible rfl) false (by decide) | exact Goes.undef rfl rfl (by with_reducible rfl)) rfl ?_ | refine LOps.pass0 (by first | exact Goes.on rfl rfl (by with_reducible rfl) false (by decide) | exact Goes.undef rfl rfl (by with_reducible rfl)) ?_ | refine LK.seq ?_ | refine LK.skip ?_ | refine LK.block ?_ | refine LK.blk ?_ | refine LK.fin ?_ | refine LR.step ?_ | refine LK.ret' ?_ | refine LK.exit' rfl ?_ | refine LK.condT2 rfl (by with_reducible rfl) (by first | with_reducible rfl | decide) ?_ | refine LK.condF2 rfl (by with_reducible rfl) (by first | with_reducible rfl | decide) ?_ | refine LK.regc ?_ | refine LK.done ?_ | refine retQ (by first | exact lres_one rfl | exact lres_more rfl | (simp only [lres, lresv, Try.results4, go_sem, ↓reduceIte, Nat.reduceEqDiff, reduceCtorEq, Nat.reduceLT, Nat.reduceAdd, Int.reduceBEq, Int.reduceBNe, Int.reduceEq, Int.reduceLE, Int.reduceLT, Int.reduceToNat, Nat.reduceLeDiff, Nat.reduceMul, Nat.reduceSub]; exact rfl)) ?_ | refine endQ (by first | exact lres_one rfl | exact lres_more rfl | (simp only [lres, lresv, Try.results4, go_sem, ↓reduceIte, Nat.reduceEqDiff, reduceCtorEq, Nat.reduceLT, Nat.reduceAdd, Int.reduceBEq, Int.reduceBNe, Int.reduceEq, Int.reduceLE, Int.reduceLT, Int.reduceToNat, Nat.reduceLeDiff, Nat.reduceMul, Nat.reduceSub]; exact rfl)) ?_ | refine LOps.locFn (by first | exact Goes.free | exact Goes.on rfl rfl (by with_reducible rfl) true (by decide)) rfl rfl (by simp only [go_sem, ↓reduceIte, Nat.reduceEqDiff, reduceCtorEq, Nat.reduceLT, Nat.reduceAdd, Int.reduceBEq, Int.reduceBNe, Int.reduceEq, Int.reduceLE, Int.reduceLT, Int.reduceToNat, Nat.reduceLeDiff, Nat.reduceMul, Nat.reduceSub]; exact rfl) (by simp only [go_sem]) (by exact live_fun) (by first | rfl | simp [go_sem]) (by first | rfl | simp [go_sem]) ?_ | (refine LOps.inline (by first | exact Goes.free | exact Goes.on rfl rfl (by with_reducible rfl) true (by decide)) rfl rfl (by simp only [go_sem, ↓reduceIte, Nat.reduceEqDiff, reduceCtorEq, Nat.reduceLT, Nat.reduceAdd, Int.reduceBEq, Int.reduceBNe, Int.reduceEq, Int.reduceLE, Int.reduceLT, Int.reduceToNat, Nat.reduceLeDiff, Nat.reduceMul, Nat.reduceSub]; exact rfl) (by simp only [go_sem]) ?_; (first | (refine LCalls.mono (by exact live_fun) ?_; (rintro _ _ ⟨rfl, rfl⟩)) | (refine LCalls.enter Try.func4 rfl (by simp [Try.ntmps4]) (LK.start ?_); simp only [Try.ntmps4, enterA, Nat.zero_add]))) | (refine LOps.inline0 (by first | exact Goes.free | exact Goes.on rfl rfl (by with_reducible rfl) true (by decide)) rfl (by simp only [go_sem, ↓reduceIte, Nat.reduceEqDiff, reduceCtorEq, Nat.reduceLT, Nat.reduceAdd, Int.reduceBEq, Int.reduceBNe, Int.reduceEq, Int.reduceLE, Int.reduceLT, Int.reduceToNat, Nat.reduceLeDiff, Nat.reduceMul, Nat.reduceSub]; exact rfl) (by simp only [go_sem]) ?_; (first | (refine LCalls.enter Try.func4 rfl (by simp [Try.ntmps4]) (LK.start ?_); simp only [Try.ntmps4, enterA, Nat.zero_add]))) | (apply LOps.and2; exact rfl; exact rfl; exact rfl; exact rfl; exact rfl; (focus (with_reducible rfl)); (focus (first | kernel_rfl | rfl))) | (apply LOps.or2; exact rfl; exact rfl; exact rfl; exact rfl; exact rfl; (focus (with_reducible rfl)); (focus (first | kernel_rfl | rfl))) | refine Under.mk (fun hg => ?_) | refine LOps.guard2 rfl rfl rfl (by with_reducible rfl) ?_ ?_ | fail)
  have hc : (decide ((g.length : Int) > 400) || decide ((l.length : Int) > 400)) = true := by
    simp only [Bool.or_eq_true, decide_eq_true_eq]; omega
  refine LK.condT2 rfl (by with_reducible rfl) hc ?_
  (repeat' first | refine LOps.done ?_ | refine LOps.scEnd rfl (by with_reducible rfl) | refine LOps.mv (by first | exact Goes.free | exact Goes.on rfl rfl (by with_reducible rfl) true (by decide)) rfl rfl ?_ | refine LOps.asg (by first | exact Goes.free | exact Goes.on rfl rfl (by with_reducible rfl) true (by decide)) rfl rfl ?_ | refine LOps.ext (by first | exact Goes.free | exact Goes.on rfl rfl (by with_reducible rfl) true (by decide)) rfl rfl rfl ?_ | refine LOps.loc (by first | exact Goes.free | exact Goes.on rfl rfl (by with_reducible rfl) true (by decide)) rfl rfl (by simp only [go_sem, ↓reduceIte, Nat.reduceEqDiff, reduceCtorEq, Nat.reduceLT, Nat.reduceAdd, Int.reduceBEq, Int.reduceBNe, Int.reduceEq, Int.reduceLE, Int.reduceLT, Int.reduceToNat, Nat.reduceLeDiff, Nat.reduceMul, Nat.reduceSub]; with_reducible rfl) ?_ | refine LOps.loc0 (by first | exact Goes.free | exact Goes.on rfl rfl (by with_reducible rfl) true (by decide)) rfl (by simp only [go_sem, ↓reduceIte, Nat.reduceEqDiff, reduceCtorEq, Nat.reduceLT, Nat.reduceAdd, Int.reduceBEq, Int.reduceBNe, Int.reduceEq, Int.reduceLE, Int.reduceLT, Int.reduceToNat, Nat.reduceLeDiff, Nat.reduceMul, Nat.reduceSub]; with_reducible rfl) ?_ | refine LOps.pass (by first | exact Goes.on rfl rfl (by with_reducible rfl) false (by decide) | exact Goes.undef rfl rfl (by with_reducible rfl)) rfl ?_ | refine LOps.pass0 (by first | exact Goes.on rfl rfl (by with_reducible rfl) false (by decide) | exact Goes.undef rfl rfl (by with_reducible rfl)) ?_ | refine LK.seq ?_ | refine LK.skip ?_ | refine LK.block ?_ | refine LK.blk ?_ | refine LK.fin ?_ | refine LR.step ?_ | refine LK.ret' ?_ | refine LK.exit' rfl ?_ | refine LK.condT2 rfl (by with_reducible rfl) (by first | with_reducible rfl | decide) ?_ | refine LK.condF2 rfl (by with_reducible rfl) (by first | with_reducible rfl | decide) ?_ | refine LK.cond2 rfl (by with_reducible rfl) ⟨fun hb => ?_⟩ ⟨fun hb => ?_⟩ | refine LK.regc ?_ | refine LK.done ?_ | refine retQ (by first | exact lres_one rfl | exact lres_more rfl | (simp only [lres, lresv, Try.results4, go_sem, ↓reduceIte, Nat.reduceEqDiff, reduceCtorEq, Nat.reduceLT, Nat.reduceAdd, Int.reduceBEq, Int.reduceBNe, Int.reduceEq, Int.reduceLE, Int.reduceLT, Int.reduceToNat, Nat.reduceLeDiff, Nat.reduceMul, Nat.reduceSub]; exact rfl)) ?_ | refine endQ (by first | exact lres_one rfl | exact lres_more rfl | (simp only [lres, lresv, Try.results4, go_sem, ↓reduceIte, Nat.reduceEqDiff, reduceCtorEq, Nat.reduceLT, Nat.reduceAdd, Int.reduceBEq, Int.reduceBNe, Int.reduceEq, Int.reduceLE, Int.reduceLT, Int.reduceToNat, Nat.reduceLeDiff, Nat.reduceMul, Nat.reduceSub]; exact rfl)) ?_ | (refine LOps.inline (by first | exact Goes.free | exact Goes.on rfl rfl (by with_reducible rfl) true (by decide)) rfl rfl (by simp only [go_sem, ↓reduceIte, Nat.reduceEqDiff, reduceCtorEq, Nat.reduceLT, Nat.reduceAdd, Int.reduceBEq, Int.reduceBNe, Int.reduceEq, Int.reduceLE, Int.reduceLT, Int.reduceToNat, Nat.reduceLeDiff, Nat.reduceMul, Nat.reduceSub]; exact rfl) (by simp only [go_sem]) ?_; (first | (refine LCalls.enter Try.func4 rfl (by simp [Try.ntmps4]) (LK.start ?_); simp only [Try.ntmps4, enterA, Nat.zero_add]))) | (refine LOps.inline0 (by first | exact Goes.free | exact Goes.on rfl rfl (by with_reducible rfl) true (by decide)) rfl (by simp only [go_sem, ↓reduceIte, Nat.reduceEqDiff, reduceCtorEq, Nat.reduceLT, Nat.reduceAdd, Int.reduceBEq, Int.reduceBNe, Int.reduceEq, Int.reduceLE, Int.reduceLT, Int.reduceToNat, Nat.reduceLeDiff, Nat.reduceMul, Nat.reduceSub]; exact rfl) (by simp only [go_sem]) ?_; (first | (refine LCalls.enter Try.func4 rfl (by simp [Try.ntmps4]) (LK.start ?_); simp only [Try.ntmps4, enterA, Nat.zero_add]))) | (apply LOps.and2; exact rfl; exact rfl; exact rfl; exact rfl; exact rfl; (focus (with_reducible rfl)); (focus (first | kernel_rfl | rfl))) | (apply LOps.or2; exact rfl; exact rfl; exact rfl; exact rfl; exact rfl; (focus (with_reducible rfl)); (focus (first | kernel_rfl | rfl))) | refine Under.mk (fun hg => ?_) | refine LOps.guard2 rfl rfl rfl (by with_reducible rfl) ?_ ?_ | fail)
  all_goals rfl
set_option maxHeartbeats 4000000 in
set_option maxRecDepth 10000 in
theorem again_err (k1 k2 : Kd) (g : List Int) (l : List Bool) (id v e : Int) (h : ¬ (g.length > 400 ∨ l.length > 400)) (he : e ≠ 0) (hf : Fun Try.prog 11 [pl k1 k2 g l, vi id] (.tup [vi v, vi e])) : Fun Try.prog 4 [pl k1 k2 g l, vi id] (vb true) := by
  have hfr := free_bad k1 k2 g l id e he v hf
  refine LCalls.enter Try.func4 rfl (by simp [Try.ntmps4]) (LK.start ?_)
  simp only [Try.ntmps4, enterA, Nat.zero_add]
  (repeat' first | refine LOps.done ?_ | refine LOps.scEnd rfl (by with_reducible rfl) | refine LOps.mv (by first | exact Goes.free | exact Goes.on rfl rfl (by with_reducible rfl) true (by decide)) rfl rfl ?_ | refine LOps.asg (by first | exact Goes.free | exact Goes.on rfl rfl (by with_reducible rfl) true (by decide)) rfl rfl ?_ | refine LOps.ext (by first | exact Goes.free | exact Goes.on rfl rfl (by with_reducible rfl) true (by decide)) rfl rfl rfl ?_ | refine LOps.loc (by first | exact Goes.free | exact Goes.on rfl rfl (by with_reducible rfl) true (by decide)) rfl rfl (by simp only [go_sem, ↓reduceIte, Nat.reduceEqDiff, reduceCtorEq, Nat.reduceLT, Nat.reduceAdd, Int.reduceBEq, Int.reduceBNe, Int.reduceEq, Int.reduceLE, Int.reduceLT, Int.reduceToNat, Nat.reduceLeDiff, Nat.reduceMul, Nat.reduceSub]; with_reducible rfl) ?_ | refine LOps.loc0 (by first | exact Goes.free | exact Goes.on rfl rfl (by with_reducible rfl) true (by decide)) rfl (by simp only [go_sem, ↓reduceIte, Nat.reduceEqDiff, reduceCtorEq, Nat.reduceLT, Nat.reduceAdd, Int.reduceBEq, Int.reduceBNe, Int.reduceEq, Int.reduceLE, Int.reduceLT, Int.reduceToNat, Nat.reduceLeDiff, Nat.reduceMul, Nat.reduceSub]; with_reducible rfl) ?_ | refine LOps.pass (by first | exact Goes.on rfl rfl (by with_reducible rfl) false (by decide) | exact Goes.undef rfl rfl (by with_reducible rfl)) rfl ?_ | refine LOps.pass0 (by first | exact Goes.on rfl rfl (by with_reducible rfl) false (by decide) | exact Goes.undef rfl rfl (by with_reducible rfl)) ?_ | refine LK.seq ?_ | refine LK.skip ?_ | refine LK.block ?_ | refine LK.blk ?_ | refine LK.fin ?_ | refine LR.step ?_ | refine LK.ret' ?_ | refine LK.exit' rfl ?_ | refine LK.condT2 rfl (by with_reducible rfl) (by first | with_reducible rfl | decide) ?_ | refine LK.condF2 rfl (by with_reducible rfl) (by first | with_reducible rfl | decide) ?_ | refine LK.regc ?_ | refine LK.done ?_ | refine retQ (by first | exact lres_one rfl | exact lres_more rfl | (simp only [lres, lresv, Try.results4, go_sem, ↓reduceIte, Nat.reduceEqDiff, reduceCtorEq, Nat.reduceLT, Nat.reduceAdd, Int.reduceBEq, Int.reduceBNe, Int.reduceEq, Int.reduceLE, Int.reduceLT, Int.reduceToNat, Nat.reduceLeDiff, Nat.reduceMul, Nat.reduceSub]; exact rfl)) ?_ | refine endQ (by first | exact lres_one rfl | exact lres_more rfl | (simp only [lres, lresv, Try.results4, go_sem, ↓reduceIte, Nat.reduceEqDiff, reduceCtorEq, Nat.reduceLT, Nat.reduceAdd, Int.reduceBEq, Int.reduceBNe, Int.reduceEq, Int.reduceLE, Int.reduceLT, Int.reduceToNat, Nat.reduceLeDiff, Nat.reduceMul, Nat.reduceSub]; exact rfl)) ?_ | refine LOps.locFn (by first | exact Goes.free | exact Goes.on rfl rfl (by with_reducible rfl) true (by decide)) rfl rfl (by simp only [go_sem, ↓reduceIte, Nat.reduceEqDiff, reduceCtorEq, Nat.reduceLT, Nat.reduceAdd, Int.reduceBEq, Int.reduceBNe, Int.reduceEq, Int.reduceLE, Int.reduceLT, Int.reduceToNat, Nat.reduceLeDiff, Nat.reduceMul, Nat.reduceSub]; exact rfl) (by simp only [go_sem]) (by exact live_fun) (by first | rfl | simp [go_sem]) (by first | rfl | simp [go_sem]) ?_ | (refine LOps.inline (by first | exact Goes.free | exact Goes.on rfl rfl (by with_reducible rfl) true (by decide)) rfl rfl (by simp only [go_sem, ↓reduceIte, Nat.reduceEqDiff, reduceCtorEq, Nat.reduceLT, Nat.reduceAdd, Int.reduceBEq, Int.reduceBNe, Int.reduceEq, Int.reduceLE, Int.reduceLT, Int.reduceToNat, Nat.reduceLeDiff, Nat.reduceMul, Nat.reduceSub]; exact rfl) (by simp only [go_sem]) ?_; (first | (refine LCalls.mono (by exact live_fun) ?_; (rintro _ _ ⟨rfl, rfl⟩)) | (refine LCalls.enter Try.func4 rfl (by simp [Try.ntmps4]) (LK.start ?_); simp only [Try.ntmps4, enterA, Nat.zero_add]))) | (refine LOps.inline0 (by first | exact Goes.free | exact Goes.on rfl rfl (by with_reducible rfl) true (by decide)) rfl (by simp only [go_sem, ↓reduceIte, Nat.reduceEqDiff, reduceCtorEq, Nat.reduceLT, Nat.reduceAdd, Int.reduceBEq, Int.reduceBNe, Int.reduceEq, Int.reduceLE, Int.reduceLT, Int.reduceToNat, Nat.reduceLeDiff, Nat.reduceMul, Nat.reduceSub]; exact rfl) (by simp only [go_sem]) ?_; (first | (refine LCalls.enter Try.func4 rfl (by simp [Try.ntmps4]) (LK.start ?_); simp only [Try.ntmps4, enterA, Nat.zero_add]))) | (apply LOps.and2; exact rfl; exact rfl; exact rfl; exact rfl; exact rfl; (focus (with_reducible rfl)); (focus (first | kernel_rfl | rfl))) | (apply LOps.or2; exact rfl; exact rfl; exact rfl; exact rfl; exact rfl; (focus (with_reducible rfl)); (focus (first | kernel_rfl | rfl))) | refine Under.mk (fun hg => ?_) | refine LOps.guard2 rfl rfl rfl (by with_reducible rfl) ?_ ?_ | fail)
  have hc : (decide ((g.length : Int) > 400) || decide ((l.length : Int) > 400)) = false := by
    simp only [Bool.or_eq_false_iff, decide_eq_false_iff_not]; omega
  refine LK.condF2 rfl (by with_reducible rfl) hc ?_
  (repeat' first | refine LOps.done ?_ | refine LOps.scEnd rfl (by with_reducible rfl) | refine LOps.mv (by first | exact Goes.free | exact Goes.on rfl rfl (by with_reducible rfl) true (by decide)) rfl rfl ?_ | refine LOps.asg (by first | exact Goes.free | exact Goes.on rfl rfl (by with_reducible rfl) true (by decide)) rfl rfl ?_ | refine LOps.ext (by first | exact Goes.free | exact Goes.on rfl rfl (by with_reducible rfl) true (by decide)) rfl rfl rfl ?_ | refine LOps.loc (by first | exact Goes.free | exact Goes.on rfl rfl (by with_reducible rfl) true (by decide)) rfl rfl (by simp only [go_sem, ↓reduceIte, Nat.reduceEqDiff, reduceCtorEq, Nat.reduceLT, Nat.reduceAdd, Int.reduceBEq, Int.reduceBNe, Int.reduceEq, Int.reduceLE, Int.reduceLT, Int.reduceToNat, Nat.reduceLeDiff, Nat.reduceMul, Nat.reduceSub]; with_reducible rfl) ?_ | refine LOps.loc0 (by first | exact Goes.free | exact Goes.on rfl rfl (by with_reducible rfl) true (by decide)) rfl (by simp only [go_sem, ↓reduceIte, Nat.reduceEqDiff, reduceCtorEq, Nat.reduceLT, Nat.reduceAdd, Int.reduceBEq, Int.reduceBNe, Int.reduceEq, Int.reduceLE, Int.reduceLT, Int.reduceToNat, Nat.reduceLeDiff, Nat.reduceMul, Nat.reduceSub]; with_reducible rfl) ?_ | refine LOps.pass (by first | exact Goes.on rfl rfl (by with_reducible rfl) false (by decide) | exact Goes.undef rfl rfl (by with_reducible rfl)) rfl ?_ | refine LOps.pass0 (by first | exact Goes.on rfl rfl (by with_reducible rfl) false (by decide) | exact Goes.undef rfl rfl (by with_reducible rfl)) ?_ | refine LK.seq ?_ | refine LK.skip ?_ | refine LK.block ?_ | refine LK.blk ?_ | refine LK.fin ?_ | refine LR.step ?_ | refine LK.ret' ?_ | refine LK.exit' rfl ?_ | refine LK.condT2 rfl (by with_reducible rfl) (by first | with_reducible rfl | decide) ?_ | refine LK.condF2 rfl (by with_reducible rfl) (by first | with_reducible rfl | decide) ?_ | refine LK.regc ?_ | refine LK.done ?_ | refine retQ (by first | exact lres_one rfl | exact lres_more rfl | (simp only [lres, lresv, Try.results4, go_sem, ↓reduceIte, Nat.reduceEqDiff, reduceCtorEq, Nat.reduceLT, Nat.reduceAdd, Int.reduceBEq, Int.reduceBNe, Int.reduceEq, Int.reduceLE, Int.reduceLT, Int.reduceToNat, Nat.reduceLeDiff, Nat.reduceMul, Nat.reduceSub]; exact rfl)) ?_ | refine endQ (by first | exact lres_one rfl | exact lres_more rfl | (simp only [lres, lresv, Try.results4, go_sem, ↓reduceIte, Nat.reduceEqDiff, reduceCtorEq, Nat.reduceLT, Nat.reduceAdd, Int.reduceBEq, Int.reduceBNe, Int.reduceEq, Int.reduceLE, Int.reduceLT, Int.reduceToNat, Nat.reduceLeDiff, Nat.reduceMul, Nat.reduceSub]; exact rfl)) ?_ | refine LOps.locFn (by first | exact Goes.free | exact Goes.on rfl rfl (by with_reducible rfl) true (by decide)) rfl rfl (by simp only [go_sem, ↓reduceIte, Nat.reduceEqDiff, reduceCtorEq, Nat.reduceLT, Nat.reduceAdd, Int.reduceBEq, Int.reduceBNe, Int.reduceEq, Int.reduceLE, Int.reduceLT, Int.reduceToNat, Nat.reduceLeDiff, Nat.reduceMul, Nat.reduceSub]; exact rfl) (by simp only [go_sem]) (by first | exact hf | exact hfr) (by first | rfl | simp [go_sem]) (by first | rfl | simp [go_sem]) ?_ | (refine LOps.inline (by first | exact Goes.free | exact Goes.on rfl rfl (by with_reducible rfl) true (by decide)) rfl rfl (by simp only [go_sem, ↓reduceIte, Nat.reduceEqDiff, reduceCtorEq, Nat.reduceLT, Nat.reduceAdd, Int.reduceBEq, Int.reduceBNe, Int.reduceEq, Int.reduceLE, Int.reduceLT, Int.reduceToNat, Nat.reduceLeDiff, Nat.reduceMul, Nat.reduceSub]; exact rfl) (by simp only [go_sem]) ?_; (first | (refine LCalls.mono (by first | exact hf | exact hfr) ?_; (rintro _ _ ⟨rfl, rfl⟩)) | (refine LCalls.enter Try.func4 rfl (by simp [Try.ntmps4]) (LK.start ?_); simp only [Try.ntmps4, enterA, Nat.zero_add]))) | (refine LOps.inline0 (by first | exact Goes.free | exact Goes.on rfl rfl (by with_reducible rfl) true (by decide)) rfl (by simp only [go_sem, ↓reduceIte, Nat.reduceEqDiff, reduceCtorEq, Nat.reduceLT, Nat.reduceAdd, Int.reduceBEq, Int.reduceBNe, Int.reduceEq, Int.reduceLE, Int.reduceLT, Int.reduceToNat, Nat.reduceLeDiff, Nat.reduceMul, Nat.reduceSub]; exact rfl) (by simp only [go_sem]) ?_; (first | (refine LCalls.enter Try.func4 rfl (by simp [Try.ntmps4]) (LK.start ?_); simp only [Try.ntmps4, enterA, Nat.zero_add]))) | (apply LOps.and2; exact rfl; exact rfl; exact rfl; exact rfl; exact rfl; (focus (with_reducible rfl)); (focus (first | kernel_rfl | rfl))) | (apply LOps.or2; exact rfl; exact rfl; exact rfl; exact rfl; exact rfl; (focus (with_reducible rfl)); (focus (first | kernel_rfl | rfl))) | refine Under.mk (fun hg => ?_) | refine LOps.guard2 rfl rfl rfl (by with_reducible rfl) ?_ ?_ | fail)
  have hc2 : (e != 0) = true := by simp [he]
  refine LK.condT2 rfl (by with_reducible rfl) hc2 ?_
  (repeat' first | refine LOps.done ?_ | refine LOps.scEnd rfl (by with_reducible rfl) | refine LOps.mv (by first | exact Goes.free | exact Goes.on rfl rfl (by with_reducible rfl) true (by decide)) rfl rfl ?_ | refine LOps.asg (by first | exact Goes.free | exact Goes.on rfl rfl (by with_reducible rfl) true (by decide)) rfl rfl ?_ | refine LOps.ext (by first | exact Goes.free | exact Goes.on rfl rfl (by with_reducible rfl) true (by decide)) rfl rfl rfl ?_ | refine LOps.loc (by first | exact Goes.free | exact Goes.on rfl rfl (by with_reducible rfl) true (by decide)) rfl rfl (by simp only [go_sem, ↓reduceIte, Nat.reduceEqDiff, reduceCtorEq, Nat.reduceLT, Nat.reduceAdd, Int.reduceBEq, Int.reduceBNe, Int.reduceEq, Int.reduceLE, Int.reduceLT, Int.reduceToNat, Nat.reduceLeDiff, Nat.reduceMul, Nat.reduceSub]; with_reducible rfl) ?_ | refine LOps.loc0 (by first | exact Goes.free | exact Goes.on rfl rfl (by with_reducible rfl) true (by decide)) rfl (by simp only [go_sem, ↓reduceIte, Nat.reduceEqDiff, reduceCtorEq, Nat.reduceLT, Nat.reduceAdd, Int.reduceBEq, Int.reduceBNe, Int.reduceEq, Int.reduceLE, Int.reduceLT, Int.reduceToNat, Nat.reduceLeDiff, Nat.reduceMul, Nat.reduceSub]; with_reducible rfl) ?_ | refine LOps.pass (by first | exact Goes.on rfl rfl (by with_reducible rfl) false (by decide) | exact Goes.undef rfl rfl (by with_reducible rfl)) rfl ?_ | refine LOps.pass0 (by first | exact Goes.on rfl rfl (by with_reducible rfl) false (by decide) | exact Goes.undef rfl rfl (by with_reducible rfl)) ?_ | refine LK.seq ?_ | refine LK.skip ?_ | refine LK.block ?_ | refine LK.blk ?_ | refine LK.fin ?_ | refine LR.step ?_ | refine LK.ret' ?_ | refine LK.exit' rfl ?_ | refine LK.condT2 rfl (by with_reducible rfl) (by first | with_reducible rfl | decide) ?_ | refine LK.condF2 rfl (by with_reducible rfl) (by first | with_reducible rfl | decide) ?_ | refine LK.cond2 rfl (by with_reducible rfl) ⟨fun hb => ?_⟩ ⟨fun hb => ?_⟩ | refine LK.regc ?_ | refine LK.done ?_ | refine retQ (by first | exact lres_one rfl | exact lres_more rfl | (simp only [lres, lresv, Try.results4, go_sem, ↓reduceIte, Nat.reduceEqDiff, reduceCtorEq, Nat.reduceLT, Nat.reduceAdd, Int.reduceBEq, Int.reduceBNe, Int.reduceEq, Int.reduceLE, Int.reduceLT, Int.reduceToNat, Nat.reduceLeDiff, Nat.reduceMul, Nat.reduceSub]; exact rfl)) ?_ | refine endQ (by first | exact lres_one rfl | exact lres_more rfl | (simp only [lres, lresv, Try.results4, go_sem, ↓reduceIte, Nat.reduceEqDiff, reduceCtorEq, Nat.reduceLT, Nat.reduceAdd, Int.reduceBEq, Int.reduceBNe, Int.reduceEq, Int.reduceLE, Int.reduceLT, Int.reduceToNat, Nat.reduceLeDiff, Nat.reduceMul, Nat.reduceSub]; exact rfl)) ?_ | (refine LOps.inline (by first | exact Goes.free | exact Goes.on rfl rfl (by with_reducible rfl) true (by decide)) rfl rfl (by simp only [go_sem, ↓reduceIte, Nat.reduceEqDiff, reduceCtorEq, Nat.reduceLT, Nat.reduceAdd, Int.reduceBEq, Int.reduceBNe, Int.reduceEq, Int.reduceLE, Int.reduceLT, Int.reduceToNat, Nat.reduceLeDiff, Nat.reduceMul, Nat.reduceSub]; exact rfl) (by simp only [go_sem]) ?_; (first | (refine LCalls.enter Try.func4 rfl (by simp [Try.ntmps4]) (LK.start ?_); simp only [Try.ntmps4, enterA, Nat.zero_add]))) | (refine LOps.inline0 (by first | exact Goes.free | exact Goes.on rfl rfl (by with_reducible rfl) true (by decide)) rfl (by simp only [go_sem, ↓reduceIte, Nat.reduceEqDiff, reduceCtorEq, Nat.reduceLT, Nat.reduceAdd, Int.reduceBEq, Int.reduceBNe, Int.reduceEq, Int.reduceLE, Int.reduceLT, Int.reduceToNat, Nat.reduceLeDiff, Nat.reduceMul, Nat.reduceSub]; exact rfl) (by simp only [go_sem]) ?_; (first | (refine LCalls.enter Try.func4 rfl (by simp [Try.ntmps4]) (LK.start ?_); simp only [Try.ntmps4, enterA, Nat.zero_add]))) | (apply LOps.and2; exact rfl; exact rfl; exact rfl; exact rfl; exact rfl; (focus (with_reducible rfl)); (focus (first | kernel_rfl | rfl))) | (apply LOps.or2; exact rfl; exact rfl; exact rfl; exact rfl; exact rfl; (focus (with_reducible rfl)); (focus (first | kernel_rfl | rfl))) | refine Under.mk (fun hg => ?_) | refine LOps.guard2 rfl rfl rfl (by with_reducible rfl) ?_ ?_ | fail)
  all_goals rfl
theorem okP_up {g : List Int} {l : List Bool} {i : Nat} {x : Int} (h : okP g l) (hx : g[i]? = some x) (hl : l[i]? = some true) : okP (g.set i (x + 1)) (l.set i false) := by
  refine ⟨by rw [List.length_set]; exact h.len1, by rw [List.length_set]; exact h.len2, by rw [List.length_set, List.length_set]; exact h.len3, fun j y b hy hb => ?_⟩
  by_cases e : i = j
  · subst e
    have h1 : i < g.length := by
      rcases Nat.lt_or_ge i g.length with h | h
      · exact h
      · rw [List.getElem?_eq_none h] at hx; cases hx
    have h2 : i < l.length := by have := h.len3; omega
    rw [List.getElem?_set_self h1] at hy
    rw [List.getElem?_set_self h2] at hb
    obtain rfl := Option.some.inj hy
    obtain rfl := Option.some.inj hb
    have := h.el i x true hx hl
    simp only [if_true] at this
    simp only [Bool.false_eq_true, if_false]; omega
  · rw [List.getElem?_set_ne e] at hy hb
    exact h.el j y b hy hb
theorem first_free (g : List Int) (l : List Bool) : (∃ (m : Nat) (x : Int), g[m]? = some x ∧ l[m]? = some false ∧ x ≠ 1099511627776 ∧ ∀ (j : Nat) (y : Int) (b : Bool), j < m → g[j]? = some y → l[j]? = some b → (!b && y != 1099511627776) = false) ∨ (∀ (j : Nat) (y : Int) (b : Bool), g[j]? = some y → l[j]? = some b → (!b && y != 1099511627776) = false) := by
  by_cases hno : ∀ (j : Nat) (y : Int) (b : Bool), g[j]? = some y → l[j]? = some b → (!b && y != 1099511627776) = false
  · exact .inr hno
  · refine .inl ?_
    have hex : ∃ n : Nat, ∃ (y : Int) (b : Bool), g[n]? = some y ∧ l[n]? = some b ∧ (!b && y != 1099511627776) = true := by
      by_cases hx : ∃ n : Nat, ∃ (y : Int) (b : Bool), g[n]? = some y ∧ l[n]? = some b ∧ (!b && y != 1099511627776) = true
      · exact hx
      · exfalso
        apply hno
        intro j y b hy hb
        cases hv : (!b && y != 1099511627776) with
        | false => rfl
        | true => exact absurd ⟨j, y, b, hy, hb, hv⟩ hx
    have key : ∀ n : Nat, (∃ (y : Int) (b : Bool), g[n]? = some y ∧ l[n]? = some b ∧ (!b && y != 1099511627776) = true) → ∃ m : Nat, (∃ (y : Int) (b : Bool), g[m]? = some y ∧ l[m]? = some b ∧ (!b && y != 1099511627776) = true) ∧ ∀ j, j < m → ¬ ∃ (y : Int) (b : Bool), g[j]? = some y ∧ l[j]? = some b ∧ (!b && y != 1099511627776) = true := by
      intro n
      induction n using Nat.strongRecOn with
      | _ n ih =>
        intro hn
        by_cases hm : ∃ j : Nat, j < n ∧ ∃ (y : Int) (b : Bool), g[j]? = some y ∧ l[j]? = some b ∧ (!b && y != 1099511627776) = true
        · obtain ⟨j, hj, hp⟩ := hm
          exact ih j hj hp
        · exact ⟨n, hn, fun j hj hp => hm ⟨j, hj, hp⟩⟩
    obtain ⟨n, hn⟩ := hex
    obtain ⟨m, ⟨y, b, hy, hb, hv⟩, hmin⟩ := key n hn
    cases b with
    | true => simp at hv
    | false =>
      refine ⟨m, y, hy, hb, by simpa using hv, fun j z c hj hz hc => ?_⟩
      cases hv2 : (!c && z != 1099511627776) with
      | false => rfl
      | true => exact absurd ⟨z, c, hz, hc, hv2⟩ (hmin j hj)
theorem count_set {l : List Bool} {m : Nat} (h : l[m]? = some false) : (l.set m true).count false < l.count false := by
  induction l generalizing m with
  | nil => simp at h
  | cons b l ih =>
    cases m with
    | zero =>
      simp only [List.getElem?_cons_zero, Option.some.injEq] at h
      subst h
      simp
    | succ m =>
      simp only [List.getElem?_cons_succ] at h
      have := ih h
      simp only [List.set_cons_succ, List.count_cons]
      omega
end Go.Proofs.Ytfdadkfjamoobaa
set_option linter.unusedSimpArgs false
set_option linter.unusedVariables false
namespace Go.Proofs.Ytfdadkfjamoobaa
open Go.Lw
attribute [local irreducible] LK LOps LW
theorem ok_put {g : List Int} {l : List Bool} {k : Nat} {x : Int} (h : okP g l) (hx : g[k]? = some x) (hl : l[k]? = some false) (hne : x ≠ 1099511627776) : okP g (l.set k true) := by
  refine ⟨h.len1, h.len2, by rw [List.length_set]; exact h.len3, fun i y b hy hb => ?_⟩
  by_cases e : k = i
  · subst e
    have hk : k < l.length := by
      rcases Nat.lt_or_ge k l.length with h | h
      · exact h
      · rw [List.getElem?_eq_none h] at hl; cases hl
    rw [List.getElem?_set_self hk] at hb
    obtain rfl := Option.some.inj hb
    rw [hx] at hy
    obtain rfl := Option.some.inj hy
    have := h.el k x false hx hl
    simp only [Bool.false_eq_true, if_false] at this
    simp only [if_true]; omega
  · rw [List.getElem?_set_ne e] at hb
    exact h.el i y b hy hb
theorem rem_is (x : Int) (j : Nat) (h : 0 ≤ x) (hj : j < 256) : Int.tmod (x * 256 + j) 256 = j := by
  rw [Int.tmod_eq_emod_of_nonneg (by omega)]; omega
set_option maxHeartbeats 4000000 in
set_option maxRecDepth 10000 in
theorem again_ok (g : List Int) (l : List Bool) (i : Nat) (x : Int) (h : okP g l) (hx : g[i]? = some x) (hl : l[i]? = some true) : Fun Try.prog 4 [pl .loose .loose g l, vi (x * 256 + i)] (vb true) := by
  have l2 := h.len2
  have l3 := h.len3
  have hi : i < g.length := by
    rcases Nat.lt_or_ge i g.length with h | h
    · exact h
    · rw [List.getElem?_eq_none h] at hx; cases hx
  have hb := h.el i x true hx hl
  simp only [if_true] at hb
  have hf := find_at .loose .loose g l x i h (by omega) hb.1 (by omega)
  have hr : findR g l x i = ((i : Int), 0) := by simp [findR, hx, hl]
  rw [hr] at hf
  have hfr := free_ok g l x i h hx hl
  have ho := okP_up h hx hl
  have hx1 : (g.set i (x + 1))[i]? = some (x + 1) := List.getElem?_set_self hi
  have hl1 : (l.set i false)[i]? = some false := List.getElem?_set_self (by omega)
  have hf2 := find_at .loose .loose (g.set i (x + 1)) (l.set i false) x i ho (by omega) hb.1 (by omega)
  have hr2 : findR (g.set i (x + 1)) (l.set i false) x i = (0, 8) := by
    simp only [findR, hx1, hl1]
    rw [if_neg (by omega), if_pos (by omega)]
  rw [hr2] at hf2
  have hg1 : (g.set i (x + 1)).length = g.length := List.length_set
  have hl1' : (l.set i false).length = l.length := List.length_set
  generalize g.set i (x + 1) = g1 at *
  generalize l.set i false = l1 at *
  refine LCalls.enter Try.func4 rfl (by simp [Try.ntmps4]) (LK.start ?_)
  simp only [Try.ntmps4, enterA, Nat.zero_add]
  (repeat' first | refine LOps.done ?_ | refine LOps.scEnd rfl (by with_reducible rfl) | refine LOps.mv (by first | exact Goes.free | exact Goes.on rfl rfl (by with_reducible rfl) true (by decide)) rfl rfl ?_ | refine LOps.asg (by first | exact Goes.free | exact Goes.on rfl rfl (by with_reducible rfl) true (by decide)) rfl rfl ?_ | refine LOps.ext (by first | exact Goes.free | exact Goes.on rfl rfl (by with_reducible rfl) true (by decide)) rfl rfl rfl ?_ | refine LOps.loc (by first | exact Goes.free | exact Goes.on rfl rfl (by with_reducible rfl) true (by decide)) rfl rfl (by simp only [go_sem, ↓reduceIte, Nat.reduceEqDiff, reduceCtorEq, Nat.reduceLT, Nat.reduceAdd, Int.reduceBEq, Int.reduceBNe, Int.reduceEq, Int.reduceLE, Int.reduceLT, Int.reduceToNat, Nat.reduceLeDiff, Nat.reduceMul, Nat.reduceSub]; with_reducible rfl) ?_ | refine LOps.loc0 (by first | exact Goes.free | exact Goes.on rfl rfl (by with_reducible rfl) true (by decide)) rfl (by simp only [go_sem, ↓reduceIte, Nat.reduceEqDiff, reduceCtorEq, Nat.reduceLT, Nat.reduceAdd, Int.reduceBEq, Int.reduceBNe, Int.reduceEq, Int.reduceLE, Int.reduceLT, Int.reduceToNat, Nat.reduceLeDiff, Nat.reduceMul, Nat.reduceSub]; with_reducible rfl) ?_ | refine LOps.pass (by first | exact Goes.on rfl rfl (by with_reducible rfl) false (by decide) | exact Goes.undef rfl rfl (by with_reducible rfl)) rfl ?_ | refine LOps.pass0 (by first | exact Goes.on rfl rfl (by with_reducible rfl) false (by decide) | exact Goes.undef rfl rfl (by with_reducible rfl)) ?_ | refine LK.seq ?_ | refine LK.skip ?_ | refine LK.block ?_ | refine LK.blk ?_ | refine LK.fin ?_ | refine LR.step ?_ | refine LK.ret' ?_ | refine LK.exit' rfl ?_ | refine LK.condT2 rfl (by with_reducible rfl) (by first | with_reducible rfl | decide) ?_ | refine LK.condF2 rfl (by with_reducible rfl) (by first | with_reducible rfl | decide) ?_ | refine LK.regc ?_ | refine LK.done ?_ | refine retQ (by first | exact lres_one rfl | exact lres_more rfl | (simp only [lres, lresv, Try.results4, go_sem, ↓reduceIte, Nat.reduceEqDiff, reduceCtorEq, Nat.reduceLT, Nat.reduceAdd, Int.reduceBEq, Int.reduceBNe, Int.reduceEq, Int.reduceLE, Int.reduceLT, Int.reduceToNat, Nat.reduceLeDiff, Nat.reduceMul, Nat.reduceSub]; exact rfl)) ?_ | refine endQ (by first | exact lres_one rfl | exact lres_more rfl | (simp only [lres, lresv, Try.results4, go_sem, ↓reduceIte, Nat.reduceEqDiff, reduceCtorEq, Nat.reduceLT, Nat.reduceAdd, Int.reduceBEq, Int.reduceBNe, Int.reduceEq, Int.reduceLE, Int.reduceLT, Int.reduceToNat, Nat.reduceLeDiff, Nat.reduceMul, Nat.reduceSub]; exact rfl)) ?_ | refine LOps.locFn (by first | exact Goes.free | exact Goes.on rfl rfl (by with_reducible rfl) true (by decide)) rfl rfl (by simp only [go_sem, ↓reduceIte, Nat.reduceEqDiff, reduceCtorEq, Nat.reduceLT, Nat.reduceAdd, Int.reduceBEq, Int.reduceBNe, Int.reduceEq, Int.reduceLE, Int.reduceLT, Int.reduceToNat, Nat.reduceLeDiff, Nat.reduceMul, Nat.reduceSub]; exact rfl) (by simp only [go_sem]) (by exact live_fun) (by first | rfl | simp [go_sem]) (by first | rfl | simp [go_sem]) ?_ | (refine LOps.inline (by first | exact Goes.free | exact Goes.on rfl rfl (by with_reducible rfl) true (by decide)) rfl rfl (by simp only [go_sem, ↓reduceIte, Nat.reduceEqDiff, reduceCtorEq, Nat.reduceLT, Nat.reduceAdd, Int.reduceBEq, Int.reduceBNe, Int.reduceEq, Int.reduceLE, Int.reduceLT, Int.reduceToNat, Nat.reduceLeDiff, Nat.reduceMul, Nat.reduceSub]; exact rfl) (by simp only [go_sem]) ?_; (first | (refine LCalls.mono (by exact live_fun) ?_; (rintro _ _ ⟨rfl, rfl⟩)) | (refine LCalls.enter Try.func4 rfl (by simp [Try.ntmps4]) (LK.start ?_); simp only [Try.ntmps4, enterA, Nat.zero_add]))) | (refine LOps.inline0 (by first | exact Goes.free | exact Goes.on rfl rfl (by with_reducible rfl) true (by decide)) rfl (by simp only [go_sem, ↓reduceIte, Nat.reduceEqDiff, reduceCtorEq, Nat.reduceLT, Nat.reduceAdd, Int.reduceBEq, Int.reduceBNe, Int.reduceEq, Int.reduceLE, Int.reduceLT, Int.reduceToNat, Nat.reduceLeDiff, Nat.reduceMul, Nat.reduceSub]; exact rfl) (by simp only [go_sem]) ?_; (first | (refine LCalls.enter Try.func4 rfl (by simp [Try.ntmps4]) (LK.start ?_); simp only [Try.ntmps4, enterA, Nat.zero_add]))) | (apply LOps.and2; exact rfl; exact rfl; exact rfl; exact rfl; exact rfl; (focus (with_reducible rfl)); (focus (first | kernel_rfl | rfl))) | (apply LOps.or2; exact rfl; exact rfl; exact rfl; exact rfl; exact rfl; (focus (with_reducible rfl)); (focus (first | kernel_rfl | rfl))) | refine Under.mk (fun hg => ?_) | refine LOps.guard2 rfl rfl rfl (by with_reducible rfl) ?_ ?_ | fail)
  have hc : (decide ((g.length : Int) > 400) || decide ((l.length : Int) > 400)) = false := by
    simp only [Bool.or_eq_false_iff, decide_eq_false_iff_not]; omega
  refine LK.condF2 rfl (by with_reducible rfl) hc ?_
  clear hc
  (repeat' first | refine LOps.done ?_ | refine LOps.scEnd rfl (by with_reducible rfl) | refine LOps.mv (by first | exact Goes.free | exact Goes.on rfl rfl (by with_reducible rfl) true (by decide)) rfl rfl ?_ | refine LOps.asg (by first | exact Goes.free | exact Goes.on rfl rfl (by with_reducible rfl) true (by decide)) rfl rfl ?_ | refine LOps.ext (by first | exact Goes.free | exact Goes.on rfl rfl (by with_reducible rfl) true (by decide)) rfl rfl rfl ?_ | refine LOps.loc (by first | exact Goes.free | exact Goes.on rfl rfl (by with_reducible rfl) true (by decide)) rfl rfl (by simp only [go_sem, ↓reduceIte, Nat.reduceEqDiff, reduceCtorEq, Nat.reduceLT, Nat.reduceAdd, Int.reduceBEq, Int.reduceBNe, Int.reduceEq, Int.reduceLE, Int.reduceLT, Int.reduceToNat, Nat.reduceLeDiff, Nat.reduceMul, Nat.reduceSub, hg1, bne_self_eq_false]; with_reducible rfl) ?_ | refine LOps.loc0 (by first | exact Goes.free | exact Goes.on rfl rfl (by with_reducible rfl) true (by decide)) rfl (by simp only [go_sem, ↓reduceIte, Nat.reduceEqDiff, reduceCtorEq, Nat.reduceLT, Nat.reduceAdd, Int.reduceBEq, Int.reduceBNe, Int.reduceEq, Int.reduceLE, Int.reduceLT, Int.reduceToNat, Nat.reduceLeDiff, Nat.reduceMul, Nat.reduceSub, hg1, bne_self_eq_false]; with_reducible rfl) ?_ | refine LOps.pass (by first | exact Goes.on rfl rfl (by with_reducible rfl) false (by decide) | exact Goes.undef rfl rfl (by with_reducible rfl)) rfl ?_ | refine LOps.pass0 (by first | exact Goes.on rfl rfl (by with_reducible rfl) false (by decide) | exact Goes.undef rfl rfl (by with_reducible rfl)) ?_ | refine LK.seq ?_ | refine LK.skip ?_ | refine LK.block ?_ | refine LK.blk ?_ | refine LK.fin ?_ | refine LR.step ?_ | refine LK.ret' ?_ | refine LK.exit' rfl ?_ | refine LK.condT2 rfl (by with_reducible rfl) (by first | with_reducible rfl | decide) ?_ | refine LK.condF2 rfl (by with_reducible rfl) (by first | with_reducible rfl | decide) ?_ | refine LK.cond2 rfl (by with_reducible rfl) ⟨fun hb => ?_⟩ ⟨fun hb => ?_⟩ | refine LK.regc ?_ | refine LK.done ?_ | refine retQ (by first | exact lres_one rfl | exact lres_more rfl | (simp only [lres, lresv, Try.results4, go_sem, ↓reduceIte, Nat.reduceEqDiff, reduceCtorEq, Nat.reduceLT, Nat.reduceAdd, Int.reduceBEq, Int.reduceBNe, Int.reduceEq, Int.reduceLE, Int.reduceLT, Int.reduceToNat, Nat.reduceLeDiff, Nat.reduceMul, Nat.reduceSub, hg1, bne_self_eq_false]; exact rfl)) ?_ | refine endQ (by first | exact lres_one rfl | exact lres_more rfl | (simp only [lres, lresv, Try.results4, go_sem, ↓reduceIte, Nat.reduceEqDiff, reduceCtorEq, Nat.reduceLT, Nat.reduceAdd, Int.reduceBEq, Int.reduceBNe, Int.reduceEq, Int.reduceLE, Int.reduceLT, Int.reduceToNat, Nat.reduceLeDiff, Nat.reduceMul, Nat.reduceSub, hg1, bne_self_eq_false]; exact rfl)) ?_ | refine LOps.locFn (by first | exact Goes.free | exact Goes.on rfl rfl (by with_reducible rfl) true (by decide)) rfl rfl (by simp only [go_sem, ↓reduceIte, Nat.reduceEqDiff, reduceCtorEq, Nat.reduceLT, Nat.reduceAdd, Int.reduceBEq, Int.reduceBNe, Int.reduceEq, Int.reduceLE, Int.reduceLT, Int.reduceToNat, Nat.reduceLeDiff, Nat.reduceMul, Nat.reduceSub, hg1, bne_self_eq_false]; exact rfl) (by simp only [go_sem]) (by first | exact hf | exact hfr | exact hf2) (by first | rfl | simp [go_sem]) (by first | rfl | simp [go_sem]) ?_ | (refine LOps.inline (by first | exact Goes.free | exact Goes.on rfl rfl (by with_reducible rfl) true (by decide)) rfl rfl (by simp only [go_sem, ↓reduceIte, Nat.reduceEqDiff, reduceCtorEq, Nat.reduceLT, Nat.reduceAdd, Int.reduceBEq, Int.reduceBNe, Int.reduceEq, Int.reduceLE, Int.reduceLT, Int.reduceToNat, Nat.reduceLeDiff, Nat.reduceMul, Nat.reduceSub, hg1, bne_self_eq_false]; exact rfl) (by simp only [go_sem]) ?_; (first | (refine LCalls.mono (by first | exact hf | exact hfr | exact hf2) ?_; (rintro _ _ ⟨rfl, rfl⟩)) | (refine LCalls.enter Try.func4 rfl (by simp [Try.ntmps4]) (LK.start ?_); simp only [Try.ntmps4, enterA, Nat.zero_add]))) | (refine LOps.inline0 (by first | exact Goes.free | exact Goes.on rfl rfl (by with_reducible rfl) true (by decide)) rfl (by simp only [go_sem, ↓reduceIte, Nat.reduceEqDiff, reduceCtorEq, Nat.reduceLT, Nat.reduceAdd, Int.reduceBEq, Int.reduceBNe, Int.reduceEq, Int.reduceLE, Int.reduceLT, Int.reduceToNat, Nat.reduceLeDiff, Nat.reduceMul, Nat.reduceSub, hg1, bne_self_eq_false]; exact rfl) (by simp only [go_sem]) ?_; (first | (refine LCalls.enter Try.func4 rfl (by simp [Try.ntmps4]) (LK.start ?_); simp only [Try.ntmps4, enterA, Nat.zero_add]))) | (apply LOps.and2; exact rfl; exact rfl; exact rfl; exact rfl; exact rfl; (focus (with_reducible rfl)); (focus (first | kernel_rfl | rfl))) | (apply LOps.or2; exact rfl; exact rfl; exact rfl; exact rfl; exact rfl; (focus (with_reducible rfl)); (focus (first | kernel_rfl | rfl))) | refine Under.mk (fun hg => ?_) | refine LOps.guard2 rfl rfl rfl (by with_reducible rfl) ?_ ?_ | fail)
  refine LK.loop (fun b : List Bool => b.count false) (fun b => okP g1 b ∧ b[i]? = some false) (fun b => ⟨101, [(1, vi (x * 256 + i)), (5, vb true), (6, vi i), (8, .ptr 1 1 0 0)]⟩) (fun b => [(1, .arr 2 [[sI .loose g1, sB .loose b]])]) l1 ⟨ho, hl1⟩ (Sub.by rfl rfl (by first | rfl | (simp only [subB, evOk, ovOk, nvOk, keepOf, vis, LV.under, LV.unders, LV.idp, LV.idps, LO.under, LO.idp, under_pv, idp_pv, List.all_cons, List.all_nil, List.any_cons, List.any_nil, Nat.reduceBEq, beq_self_eq_true, Bool.and_true, Bool.true_and, Bool.or_true, Bool.true_or, Bool.or_false, Bool.false_or, decide_true, decide_false, Nat.reduceLT, Nat.reduceLeDiff, Nat.le_refl, Nat.reduceAdd, Bool.and_self, Bool.or_self]; done))) ?_
  rintro b ⟨hob, hbi⟩ J hJ
  rcases first_free g1 b with ⟨m, z, hz, hm, hne, hmin⟩ | hno
  · have ht := take_ok g1 b m z hob hz hm hne hmin
    have hzb := hob.el m z false hz hm
    simp only [Bool.false_eq_true, if_false] at hzb
    have hml : m < g1.length := by
      rcases Nat.lt_or_ge m g1.length with h | h
      · exact h
      · rw [List.getElem?_eq_none h] at hz; cases hz
    have hrem := rem_is z m hzb.1 (by omega)
    by_cases hmi : m = i
    · subst hmi
      rw [hx1] at hz
      obtain rfl := Option.some.inj hz
      have hw : IntKind.i64.wrap (x * 256 + (m : Int) + 256) = (x + 1) * 256 + (m : Int) := by rw [IntKind.wrap_i64]; omega
      (repeat' first | refine LOps.done ?_ | refine LOps.scEnd rfl (by with_reducible rfl) | refine LOps.mv (by first | exact Goes.free | exact Goes.on rfl rfl (by with_reducible rfl) true (by decide)) rfl rfl ?_ | refine LOps.asg (by first | exact Goes.free | exact Goes.on rfl rfl (by with_reducible rfl) true (by decide)) rfl rfl ?_ | refine LOps.ext (by first | exact Goes.free | exact Goes.on rfl rfl (by with_reducible rfl) true (by decide)) rfl rfl rfl ?_ | refine LOps.loc (by first | exact Goes.free | exact Goes.on rfl rfl (by with_reducible rfl) true (by decide)) rfl rfl (by simp only [go_sem, ↓reduceIte, Nat.reduceEqDiff, reduceCtorEq, Nat.reduceLT, Nat.reduceAdd, Int.reduceBEq, Int.reduceBNe, Int.reduceEq, Int.reduceLE, Int.reduceLT, Int.reduceToNat, Nat.reduceLeDiff, Nat.reduceMul, Nat.reduceSub, hrem, hw]; with_reducible rfl) ?_ | refine LOps.loc0 (by first | exact Goes.free | exact Goes.on rfl rfl (by with_reducible rfl) true (by decide)) rfl (by simp only [go_sem, ↓reduceIte, Nat.reduceEqDiff, reduceCtorEq, Nat.reduceLT, Nat.reduceAdd, Int.reduceBEq, Int.reduceBNe, Int.reduceEq, Int.reduceLE, Int.reduceLT, Int.reduceToNat, Nat.reduceLeDiff, Nat.reduceMul, Nat.reduceSub, hrem, hw]; with_reducible rfl) ?_ | refine LOps.pass (by first | exact Goes.on rfl rfl (by with_reducible rfl) false (by decide) | exact Goes.undef rfl rfl (by with_reducible rfl)) rfl ?_ | refine LOps.pass0 (by first | exact Goes.on rfl rfl (by with_reducible rfl) false (by decide) | exact Goes.undef rfl rfl (by with_reducible rfl)) ?_ | refine LK.seq ?_ | refine LK.skip ?_ | refine LK.block ?_ | refine LK.blk ?_ | refine LK.fin ?_ | refine LR.step ?_ | refine LK.ret' ?_ | refine LK.exit' rfl ?_ | refine LK.condT2 rfl (by with_reducible rfl) (by first | with_reducible rfl | decide) ?_ | refine LK.condF2 rfl (by with_reducible rfl) (by first | with_reducible rfl | decide) ?_ | refine LK.cond2 rfl (by with_reducible rfl) ⟨fun hb => ?_⟩ ⟨fun hb => ?_⟩ | refine LK.regc ?_ | refine LK.done ?_ | refine retQ (by first | exact lres_one rfl | exact lres_more rfl | (simp only [lres, lresv, Try.results4, go_sem, ↓reduceIte, Nat.reduceEqDiff, reduceCtorEq, Nat.reduceLT, Nat.reduceAdd, Int.reduceBEq, Int.reduceBNe, Int.reduceEq, Int.reduceLE, Int.reduceLT, Int.reduceToNat, Nat.reduceLeDiff, Nat.reduceMul, Nat.reduceSub, hrem, hw]; exact rfl)) ?_ | refine endQ (by first | exact lres_one rfl | exact lres_more rfl | (simp only [lres, lresv, Try.results4, go_sem, ↓reduceIte, Nat.reduceEqDiff, reduceCtorEq, Nat.reduceLT, Nat.reduceAdd, Int.reduceBEq, Int.reduceBNe, Int.reduceEq, Int.reduceLE, Int.reduceLT, Int.reduceToNat, Nat.reduceLeDiff, Nat.reduceMul, Nat.reduceSub, hrem, hw]; exact rfl)) ?_ | refine LOps.locFn (by first | exact Goes.free | exact Goes.on rfl rfl (by with_reducible rfl) true (by decide)) rfl rfl (by simp only [go_sem, ↓reduceIte, Nat.reduceEqDiff, reduceCtorEq, Nat.reduceLT, Nat.reduceAdd, Int.reduceBEq, Int.reduceBNe, Int.reduceEq, Int.reduceLE, Int.reduceLT, Int.reduceToNat, Nat.reduceLeDiff, Nat.reduceMul, Nat.reduceSub, hrem, hw]; exact rfl) (by simp only [go_sem]) (by exact ht) (by first | rfl | simp [go_sem]) (by first | rfl | simp [go_sem]) ?_ | (refine LOps.inline (by first | exact Goes.free | exact Goes.on rfl rfl (by with_reducible rfl) true (by decide)) rfl rfl (by simp only [go_sem, ↓reduceIte, Nat.reduceEqDiff, reduceCtorEq, Nat.reduceLT, Nat.reduceAdd, Int.reduceBEq, Int.reduceBNe, Int.reduceEq, Int.reduceLE, Int.reduceLT, Int.reduceToNat, Nat.reduceLeDiff, Nat.reduceMul, Nat.reduceSub, hrem, hw]; exact rfl) (by simp only [go_sem]) ?_; (first | (refine LCalls.mono (by exact ht) ?_; (rintro _ _ ⟨rfl, rfl⟩)) | (refine LCalls.enter Try.func4 rfl (by simp [Try.ntmps4]) (LK.start ?_); simp only [Try.ntmps4, enterA, Nat.zero_add]))) | (refine LOps.inline0 (by first | exact Goes.free | exact Goes.on rfl rfl (by with_reducible rfl) true (by decide)) rfl (by simp only [go_sem, ↓reduceIte, Nat.reduceEqDiff, reduceCtorEq, Nat.reduceLT, Nat.reduceAdd, Int.reduceBEq, Int.reduceBNe, Int.reduceEq, Int.reduceLE, Int.reduceLT, Int.reduceToNat, Nat.reduceLeDiff, Nat.reduceMul, Nat.reduceSub, hrem, hw]; exact rfl) (by simp only [go_sem]) ?_; (first | (refine LCalls.enter Try.func4 rfl (by simp [Try.ntmps4]) (LK.start ?_); simp only [Try.ntmps4, enterA, Nat.zero_add]))) | (apply LOps.and2; exact rfl; exact rfl; exact rfl; exact rfl; exact rfl; (focus (with_reducible rfl)); (focus (first | kernel_rfl | rfl))) | (apply LOps.or2; exact rfl; exact rfl; exact rfl; exact rfl; exact rfl; (focus (with_reducible rfl)); (focus (first | kernel_rfl | rfl))) | refine Under.mk (fun hg => ?_) | refine LOps.guard2 rfl rfl rfl (by with_reducible rfl) ?_ ?_ | fail)
      all_goals rfl
    · have hne2 : ((m : Int) == (i : Int)) = false := by rw [beq_eq_false_iff_ne]; omega
      (repeat' first | refine LOps.done ?_ | refine LOps.scEnd rfl (by with_reducible rfl) | refine LOps.mv (by first | exact Goes.free | exact Goes.on rfl rfl (by with_reducible rfl) true (by decide)) rfl rfl ?_ | refine LOps.asg (by first | exact Goes.free | exact Goes.on rfl rfl (by with_reducible rfl) true (by decide)) rfl rfl ?_ | refine LOps.ext (by first | exact Goes.free | exact Goes.on rfl rfl (by with_reducible rfl) true (by decide)) rfl rfl rfl ?_ | refine LOps.loc (by first | exact Goes.free | exact Goes.on rfl rfl (by with_reducible rfl) true (by decide)) rfl rfl (by simp only [go_sem, ↓reduceIte, Nat.reduceEqDiff, reduceCtorEq, Nat.reduceLT, Nat.reduceAdd, Int.reduceBEq, Int.reduceBNe, Int.reduceEq, Int.reduceLE, Int.reduceLT, Int.reduceToNat, Nat.reduceLeDiff, Nat.reduceMul, Nat.reduceSub, hrem, hne2]; with_reducible rfl) ?_ | refine LOps.loc0 (by first | exact Goes.free | exact Goes.on rfl rfl (by with_reducible rfl) true (by decide)) rfl (by simp only [go_sem, ↓reduceIte, Nat.reduceEqDiff, reduceCtorEq, Nat.reduceLT, Nat.reduceAdd, Int.reduceBEq, Int.reduceBNe, Int.reduceEq, Int.reduceLE, Int.reduceLT, Int.reduceToNat, Nat.reduceLeDiff, Nat.reduceMul, Nat.reduceSub, hrem, hne2]; with_reducible rfl) ?_ | refine LOps.pass (by first | exact Goes.on rfl rfl (by with_reducible rfl) false (by decide) | exact Goes.undef rfl rfl (by with_reducible rfl)) rfl ?_ | refine LOps.pass0 (by first | exact Goes.on rfl rfl (by with_reducible rfl) false (by decide) | exact Goes.undef rfl rfl (by with_reducible rfl)) ?_ | refine LK.seq ?_ | refine LK.skip ?_ | refine LK.block ?_ | refine LK.blk ?_ | refine LK.fin ?_ | refine LR.step ?_ | refine LK.ret' ?_ | refine LK.exit' rfl ?_ | refine LK.condT2 rfl (by with_reducible rfl) (by first | with_reducible rfl | decide) ?_ | refine LK.condF2 rfl (by with_reducible rfl) (by first | with_reducible rfl | decide) ?_ | refine LK.cond2 rfl (by with_reducible rfl) ⟨fun hb => ?_⟩ ⟨fun hb => ?_⟩ | refine LK.regc ?_ | refine LK.done ?_ | refine retQ (by first | exact lres_one rfl | exact lres_more rfl | (simp only [lres, lresv, Try.results4, go_sem, ↓reduceIte, Nat.reduceEqDiff, reduceCtorEq, Nat.reduceLT, Nat.reduceAdd, Int.reduceBEq, Int.reduceBNe, Int.reduceEq, Int.reduceLE, Int.reduceLT, Int.reduceToNat, Nat.reduceLeDiff, Nat.reduceMul, Nat.reduceSub, hrem, hne2]; exact rfl)) ?_ | refine endQ (by first | exact lres_one rfl | exact lres_more rfl | (simp only [lres, lresv, Try.results4, go_sem, ↓reduceIte, Nat.reduceEqDiff, reduceCtorEq, Nat.reduceLT, Nat.reduceAdd, Int.reduceBEq, Int.reduceBNe, Int.reduceEq, Int.reduceLE, Int.reduceLT, Int.reduceToNat, Nat.reduceLeDiff, Nat.reduceMul, Nat.reduceSub, hrem, hne2]; exact rfl)) ?_ | refine LOps.locFn (by first | exact Goes.free | exact Goes.on rfl rfl (by with_reducible rfl) true (by decide)) rfl rfl (by simp only [go_sem, ↓reduceIte, Nat.reduceEqDiff, reduceCtorEq, Nat.reduceLT, Nat.reduceAdd, Int.reduceBEq, Int.reduceBNe, Int.reduceEq, Int.reduceLE, Int.reduceLT, Int.reduceToNat, Nat.reduceLeDiff, Nat.reduceMul, Nat.reduceSub, hrem, hne2]; exact rfl) (by simp only [go_sem]) (by exact ht) (by first | rfl | simp [go_sem]) (by first | rfl | simp [go_sem]) ?_ | (refine LOps.inline (by first | exact Goes.free | exact Goes.on rfl rfl (by with_reducible rfl) true (by decide)) rfl rfl (by simp only [go_sem, ↓reduceIte, Nat.reduceEqDiff, reduceCtorEq, Nat.reduceLT, Nat.reduceAdd, Int.reduceBEq, Int.reduceBNe, Int.reduceEq, Int.reduceLE, Int.reduceLT, Int.reduceToNat, Nat.reduceLeDiff, Nat.reduceMul, Nat.reduceSub, hrem, hne2]; exact rfl) (by simp only [go_sem]) ?_; (first | (refine LCalls.mono (by exact ht) ?_; (rintro _ _ ⟨rfl, rfl⟩)) | (refine LCalls.enter Try.func4 rfl (by simp [Try.ntmps4]) (LK.start ?_); simp only [Try.ntmps4, enterA, Nat.zero_add]))) | (refine LOps.inline0 (by first | exact Goes.free | exact Goes.on rfl rfl (by with_reducible rfl) true (by decide)) rfl (by simp only [go_sem, ↓reduceIte, Nat.reduceEqDiff, reduceCtorEq, Nat.reduceLT, Nat.reduceAdd, Int.reduceBEq, Int.reduceBNe, Int.reduceEq, Int.reduceLE, Int.reduceLT, Int.reduceToNat, Nat.reduceLeDiff, Nat.reduceMul, Nat.reduceSub, hrem, hne2]; exact rfl) (by simp only [go_sem]) ?_; (first | (refine LCalls.enter Try.func4 rfl (by simp [Try.ntmps4]) (LK.start ?_); simp only [Try.ntmps4, enterA, Nat.zero_add]))) | (apply LOps.and2; exact rfl; exact rfl; exact rfl; exact rfl; exact rfl; (focus (with_reducible rfl)); (focus (first | kernel_rfl | rfl))) | (apply LOps.or2; exact rfl; exact rfl; exact rfl; exact rfl; exact rfl; (focus (with_reducible rfl)); (focus (first | kernel_rfl | rfl))) | refine Under.mk (fun hg => ?_) | refine LOps.guard2 rfl rfl rfl (by with_reducible rfl) ?_ ?_ | fail)
      apply hJ
      exact ⟨b.set m true, ⟨ok_put hob hz hm hne, by rw [List.getElem?_set_ne hmi]; exact hbi⟩, count_set hm, (Sub.by rfl rfl (by first | rfl | (simp only [subB, evOk, ovOk, nvOk, keepOf, vis, LV.under, LV.unders, LV.idp, LV.idps, LO.under, LO.idp, under_pv, idp_pv, List.all_cons, List.all_nil, List.any_cons, List.any_nil, Nat.reduceBEq, beq_self_eq_true, Bool.and_true, Bool.true_and, Bool.or_true, Bool.true_or, Bool.or_false, Bool.false_or, decide_true, decide_false, Nat.reduceLT, Nat.reduceLeDiff, Nat.le_refl, Nat.reduceAdd, Bool.and_self, Bool.or_self]; done)))⟩
  · have ht := take_full .loose .loose g1 b hob hno
    have h40 := hno i (x + 1) false hx1 hbi
    have heq : (x + 1 == 1099511627776) = true := by
      simp only [Bool.not_false, Bool.true_and, bne_eq_false_iff_eq] at h40
      rw [h40]; rfl
    have h1 : ((i : Int) < (g1.length : Int)) := by omega
    have h1' : ((i : Int) < (g.length : Int)) := by omega
    (repeat' first | refine LOps.done ?_ | refine LOps.scEnd rfl (by with_reducible rfl) | refine LOps.mv (by first | exact Goes.free | exact Goes.on rfl rfl (by with_reducible rfl) true (by decide)) rfl rfl ?_ | refine LOps.asg (by first | exact Goes.free | exact Goes.on rfl rfl (by with_reducible rfl) true (by decide)) rfl rfl ?_ | refine LOps.ext (by first | exact Goes.free | exact Goes.on rfl rfl (by with_reducible rfl) true (by decide)) rfl rfl rfl ?_ | refine LOps.loc (by first | exact Goes.free | exact Goes.on rfl rfl (by with_reducible rfl) true (by decide)) rfl rfl (by simp only [go_sem, ↓reduceIte, Nat.reduceEqDiff, reduceCtorEq, Nat.reduceLT, Nat.reduceAdd, Int.reduceBEq, Int.reduceBNe, Int.reduceEq, Int.reduceLE, Int.reduceLT, Int.reduceToNat, Nat.reduceLeDiff, Nat.reduceMul, Nat.reduceSub, h1, h1', hx1, heq, hg1]; with_reducible rfl) ?_ | refine LOps.loc0 (by first | exact Goes.free | exact Goes.on rfl rfl (by with_reducible rfl) true (by decide)) rfl (by simp only [go_sem, ↓reduceIte, Nat.reduceEqDiff, reduceCtorEq, Nat.reduceLT, Nat.reduceAdd, Int.reduceBEq, Int.reduceBNe, Int.reduceEq, Int.reduceLE, Int.reduceLT, Int.reduceToNat, Nat.reduceLeDiff, Nat.reduceMul, Nat.reduceSub, h1, h1', hx1, heq, hg1]; with_reducible rfl) ?_ | refine LOps.pass (by first | exact Goes.on rfl rfl (by with_reducible rfl) false (by decide) | exact Goes.undef rfl rfl (by with_reducible rfl)) rfl ?_ | refine LOps.pass0 (by first | exact Goes.on rfl rfl (by with_reducible rfl) false (by decide) | exact Goes.undef rfl rfl (by with_reducible rfl)) ?_ | refine LK.seq ?_ | refine LK.skip ?_ | refine LK.block ?_ | refine LK.blk ?_ | refine LK.fin ?_ | refine LR.step ?_ | refine LK.ret' ?_ | refine LK.exit' rfl ?_ | refine LK.condT2 rfl (by with_reducible rfl) (by first | with_reducible rfl | decide) ?_ | refine LK.condF2 rfl (by with_reducible rfl) (by first | with_reducible rfl | decide) ?_ | refine LK.cond2 rfl (by with_reducible rfl) ⟨fun hb => ?_⟩ ⟨fun hb => ?_⟩ | refine LK.regc ?_ | refine LK.done ?_ | refine retQ (by first | exact lres_one rfl | exact lres_more rfl | (simp only [lres, lresv, Try.results4, go_sem, ↓reduceIte, Nat.reduceEqDiff, reduceCtorEq, Nat.reduceLT, Nat.reduceAdd, Int.reduceBEq, Int.reduceBNe, Int.reduceEq, Int.reduceLE, Int.reduceLT, Int.reduceToNat, Nat.reduceLeDiff, Nat.reduceMul, Nat.reduceSub, h1, h1', hx1, heq, hg1]; exact rfl)) ?_ | refine endQ (by first | exact lres_one rfl | exact lres_more rfl | (simp only [lres, lresv, Try.results4, go_sem, ↓reduceIte, Nat.reduceEqDiff, reduceCtorEq, Nat.reduceLT, Nat.reduceAdd, Int.reduceBEq, Int.reduceBNe, Int.reduceEq, Int.reduceLE, Int.reduceLT, Int.reduceToNat, Nat.reduceLeDiff, Nat.reduceMul, Nat.reduceSub, h1, h1', hx1, heq, hg1]; exact rfl)) ?_ | refine LOps.locFn (by first | exact Goes.free | exact Goes.on rfl rfl (by with_reducible rfl) true (by decide)) rfl rfl (by simp only [go_sem, ↓reduceIte, Nat.reduceEqDiff, reduceCtorEq, Nat.reduceLT, Nat.reduceAdd, Int.reduceBEq, Int.reduceBNe, Int.reduceEq, Int.reduceLE, Int.reduceLT, Int.reduceToNat, Nat.reduceLeDiff, Nat.reduceMul, Nat.reduceSub, h1, h1', hx1, heq, hg1]; exact rfl) (by simp only [go_sem]) (by exact ht) (by first | rfl | simp [go_sem]) (by first | rfl | simp [go_sem]) ?_ | (refine LOps.inline (by first | exact Goes.free | exact Goes.on rfl rfl (by with_reducible rfl) true (by decide)) rfl rfl (by simp only [go_sem, ↓reduceIte, Nat.reduceEqDiff, reduceCtorEq, Nat.reduceLT, Nat.reduceAdd, Int.reduceBEq, Int.reduceBNe, Int.reduceEq, Int.reduceLE, Int.reduceLT, Int.reduceToNat, Nat.reduceLeDiff, Nat.reduceMul, Nat.reduceSub, h1, h1', hx1, heq, hg1]; exact rfl) (by simp only [go_sem]) ?_; (first | (refine LCalls.mono (by exact ht) ?_; (rintro _ _ ⟨rfl, rfl⟩)) | (refine LCalls.enter Try.func4 rfl (by simp [Try.ntmps4]) (LK.start ?_); simp only [Try.ntmps4, enterA, Nat.zero_add]))) | (refine LOps.inline0 (by first | exact Goes.free | exact Goes.on rfl rfl (by with_reducible rfl) true (by decide)) rfl (by simp only [go_sem, ↓reduceIte, Nat.reduceEqDiff, reduceCtorEq, Nat.reduceLT, Nat.reduceAdd, Int.reduceBEq, Int.reduceBNe, Int.reduceEq, Int.reduceLE, Int.reduceLT, Int.reduceToNat, Nat.reduceLeDiff, Nat.reduceMul, Nat.reduceSub, h1, h1', hx1, heq, hg1]; exact rfl) (by simp only [go_sem]) ?_; (first | (refine LCalls.enter Try.func4 rfl (by simp [Try.ntmps4]) (LK.start ?_); simp only [Try.ntmps4, enterA, Nat.zero_add]))) | (apply LOps.and2; exact rfl; exact rfl; exact rfl; exact rfl; exact rfl; (focus (with_reducible rfl)); (focus (first | kernel_rfl | rfl))) | (apply LOps.or2; exact rfl; exact rfl; exact rfl; exact rfl; exact rfl; (focus (with_reducible rfl)); (focus (first | kernel_rfl | rfl))) | refine Under.mk (fun hg => ?_) | refine LOps.guard2 rfl rfl rfl (by with_reducible rfl) ?_ ?_ | fail)
    all_goals rfl
theorem again_fun (k1 k2 : Kd) (g : List Int) (l : List Bool) (id : Int) (h1 : k1 = .loose ∨ g = []) (h2 : k2 = .loose ∨ l = []) (hid : -9223372036854775808 ≤ id ∧ id ≤ 9223372036854775807) : Fun Try.prog 4 [pl k1 k2 g l, vi id] (vb true) := by
  by_cases hlong : g.length > 400 ∨ l.length > 400
  · exact again_long k1 k2 g l id hlong
  by_cases h : okP g l
  · by_cases h0 : id < 0
    · exact again_err k1 k2 g l id 0 1 hlong (by decide) (find_bad k1 k2 g l id (.inr h0))
    · obtain ⟨gn, i, hi, hg0, rfl⟩ : ∃ (gn : Int) (i : Nat), i < 256 ∧ 0 ≤ gn ∧ id = gn * 256 + i := ⟨id / 256, (id % 256).toNat, by omega, by omega, by omega⟩
      have hf := find_at k1 k2 g l gn i h hi hg0 hid.2
      by_cases he : (findR g l gn i).2 = 0
      · have hx : ∃ x, g[i]? = some x ∧ l[i]? = some true ∧ gn = x := by
          unfold findR at he
          split at he
          · rename_i x b hx hl
            refine ⟨x, hx, ?_⟩
            by_cases c1 : gn > x
            · rw [if_pos c1] at he; simp at he
            · rw [if_neg c1] at he
              by_cases c2 : gn < x
              · rw [if_pos c2] at he; simp at he
              · rw [if_neg c2] at he
                cases b with
                | true => exact ⟨hl, by omega⟩
                | false => simp at he
          · simp at he
        obtain ⟨x, hx, hl, rfl⟩ := hx
        have hl1 := h.len1
        have hl3 := h.len3
        rcases h1 with rfl | rfl
        · rcases h2 with rfl | rfl
          · exact again_ok g l i gn h hx hl
          · simp at hl
        · simp at hx
      · exact again_err k1 k2 g l _ _ _ hlong he hf
  · exact again_err k1 k2 g l id 0 1 hlong (by decide) (find_bad k1 k2 g l id (.inl h))
end Go.Proofs.Ytfdadkfjamoobaa
namespace Go.Proofs.Ytfdadkfjamoobaa.slotAgain
open Go.ChangeShapes Go.WideShapes Go.RowKit
set_option linter.unusedVariables false

theorem own : ownKnob Try.prog.godebug = none := by kernel_rfl

set_option maxRecDepth 100000 in
theorem lifted (os : Os) (started : os.Started) (H : Type) (enc : TypeId × Value → H) :
    ReturnsInHanded {} Try.checked os 4 .any (Rows.slotAgainSpec.pre6 enc Try.prog Try.f4 Rows.slotAgainRow.domain false) (Rows.slotAgainSpec.post enc Try.prog Try.f4 false true false false) := by
  refine returnsInHanded_of_change (C := Try.checked) own started (by kernel_rfl) Try.func4
    (ChangeSpec.witness6 (enc := enc) (C := Try.checked) false ⟨#[], #[.agg #[.slice none 0 0, .slice none 0 0], .int .i64 0], []⟩ 8 (by kernel_rfl) (by kernel_rfl) (by kernel_rfl) (by kernel_rfl)) ?_
  intro W base args ds gs before hval0 hW hcnd _
  have hval : ∀ (j : Nat) t v, Try.f4.params[j]? = some t → args[j]? = some v → Value.okWide Try.prog W .any base t v := hval0
  have hW' := hW
  obtain ⟨p, q, hA0, hV, rfl, hfz, hnd⟩ := hW
  have hA : DataW.TrodAll enc Try.prog W 0 (fun _ => true) true Try.f4.params.toList args.toList ds p := hA0
  rw [Try.params4] at hA hval
  obtain ⟨v0, vs0, d0, ds0, p0, q0, hargs, rfl, rfl, h0, r0⟩ := trodAll_cons hA
  obtain ⟨v1, vs1, d1, ds1, p1, q1, rfl, rfl, rfl, h1, r1⟩ := trodAll_cons r0
  obtain ⟨rfl, rfl, rfl⟩ := trodAll_nil r1
  obtain rfl : args = #[v0, v1] := by cases args; simp_all
  obtain ⟨rfl, rfl⟩ := trodVars_none hV
  obtain ⟨a1, rfl, rfl, rfl, w1⟩ := open_int Try.underlying2 (hval 1 2 v1 rfl rfl) h1
  obtain ⟨cells, hv, hsz⟩ := okWide_struct Try.underlying26 (hval 0 26 v0 rfl rfl)
  obtain ⟨A, B, n, y0, y1, hAB, e0, e1⟩ := Go.Lw.struct_two Try.underlying26 rfl rfl (by kernel_rfl) (by kernel_rfl) (by kernel_rfl) hv h0
  obtain ⟨A', k1, g, hA', hk1, _, R0⟩ := Go.Lw.ints_cell Try.underlying22 Try.underlying2 (by kernel_rfl) e0
  obtain ⟨B', k2, l, hB', hk2, R1⟩ := Go.Lw.bools_cell Try.underlying23 Try.underlying4 (by kernel_rfl) e1
  obtain rfl : A = A' := by simpa using hA'
  obtain rfl : B = B' := by simpa using hB'
  subst hAB
  clear hA0 hval0
  refine (Go.Lw.LCalls.row (again_fun k1 k2 g l a1 hk1 hk2 (by have := w1; simp [Lit.wf, IntKind.min, IntKind.max, IntKind.bits, IntKind.signed] at this; first | exact this | omega)) W (Go.Lw.ArgsR.cons (Go.Lw.agg_two R0 R1) (Go.Lw.ArgsR.cons (Go.Lw.VRel.scalar _) Go.Lw.ArgsR.nil))).mono fun e W' ⟨he, hg⟩ => ?_
  subst he
  exact ⟨_, rfl, Go.Lw.post_law (tb := 4) hW' hg (by kernel_rfl) (by kernel_rfl) rfl rfl rfl Try.underlying4⟩

theorem over : Rows.slotAgainRow.holds Try.pinned (OpenSpec.ofChange Rows.slotAgainSpec) :=
  OpenClaim.holds_of_wide 4 Try.f4 rfl rfl rfl rfl rfl rfl rfl ⟨rfl, rfl, rfl, rfl, rfl⟩ rfl rfl rfl rfl rfl (by kernel_rfl) Try.func4 (by kernel_rfl)
    (of_decide_eq_true (by kernel_rfl)) (by unfold Func.isWrapper; first | (rw [if_pos (by decide +kernel)]; kernel_rfl) | (rw [if_neg (by decide +kernel)]; exact ⟨rfl, rfl⟩))
    (fun os started H enc _ => lifted os started H enc)

theorem proved : Rows.SlotAgainSaid := over
end Go.Proofs.Ytfdadkfjamoobaa.slotAgain
