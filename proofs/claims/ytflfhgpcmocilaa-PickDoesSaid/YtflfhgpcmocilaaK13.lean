/- The walks of chapter 16: Steal. -/
import Derived.Test.YtflfhgpcmocilaaK9
import Derived.Test.YtflfhgpcmocilaaK12
set_option linter.unusedSimpArgs false
set_option linter.unusedVariables false
namespace Go.Proofs.Ytflfhgpcmocilaa
open Go.Lw
attribute [local irreducible] LK LOps LW
def minTo (w : List Int) : Nat → Int
  | 0 => (w[0]?).getD 0
  | k + 1 => match w[k + 1]? with
    | some x => if x < minTo w k then x else minTo w k
    | none => minTo w k
theorem minTo_neg {w : List Int} : ∀ {k : Nat}, k < w.length → (minTo w k < 0 ↔ ∃ (j : Nat) (x : Int), j ≤ k ∧ w[j]? = some x ∧ x < 0)
  | 0, h => by
    obtain ⟨x, hx⟩ := idx_all h
    simp only [minTo, hx, Option.getD_some]
    constructor
    · exact fun hn => ⟨0, x, Nat.le_refl _, hx, hn⟩
    · rintro ⟨j, y, hj, hy, hn⟩
      obtain rfl : j = 0 := by omega
      rw [hx] at hy; obtain rfl := Option.some.inj hy; exact hn
  | k + 1, h => by
    have ih := minTo_neg (w := w) (k := k) (by omega)
    obtain ⟨x, hx⟩ := idx_all h
    rw [minTo, hx]
    dsimp only
    constructor
    · intro hn
      split at hn
      · exact ⟨k + 1, x, Nat.le_refl _, hx, hn⟩
      · obtain ⟨j, y, hj, hy, hn⟩ := ih.1 hn
        exact ⟨j, y, by omega, hy, hn⟩
    · rintro ⟨j, y, hj, hy, hn⟩
      by_cases e : j = k + 1
      · subst e
        rw [hx] at hy; obtain rfl := Option.some.inj hy
        split <;> omega
      · have := ih.2 ⟨j, y, by omega, hy, hn⟩
        split <;> omega
def minV (w : List Int) : Int := minTo w (w.length - 1)
set_option maxHeartbeats 4000000 in
set_option maxRecDepth 10000 in
theorem min_fun (w : List Int) (h : 1 ≤ w.length) (hl : w.length ≤ 100000) : Fun Try.prog 24 [sI w] (vi (minV w)) := by
  have h0 : ¬ ((w.length : Int) < 1) := by omega
  have h00 : ((0 : Int) < (w.length : Int)) := by omega
  obtain ⟨y, hy⟩ := idx_all (show 0 < w.length by omega)
  have hm0 : minTo w 0 = y := by simp [minTo, hy]
  (refine LCalls.enter Try.func24 rfl (by simp [Try.ntmps24]) (LK.start ?_); simp only [Try.ntmps24, enterA])
  (repeat' first | refine LOps.done ?_ | (apply LOps.mv; (focus (first | exact Goes.free | exact Goes.on rfl rfl (by with_reducible rfl) true (by decide))); (focus (exact rfl)); (focus (exact rfl))) | (apply LOps.asg; (focus (first | exact Goes.free | exact Goes.on rfl rfl (by with_reducible rfl) true (by decide))); (focus (exact rfl)); (focus (exact rfl))) | (apply LOps.loc; (focus (first | exact Goes.free | exact Goes.on rfl rfl (by with_reducible rfl) true (by decide))); (focus (exact rfl)); (focus (exact rfl)); (focus (simp only [go_sem, ↓reduceIte, Nat.reduceLT, Int.reduceLE, h0, h00, hy]; with_reducible rfl))) | refine LK.seq ?_ | refine LK.skip ?_ | refine LK.block ?_ | (apply LK.condF2; (focus (exact rfl)); (focus (with_reducible rfl)); (focus (first | with_reducible rfl | decide | (with_reducible exact Bool.false_and _) | (with_reducible exact congrArg (fun b => b && _) (Bool.false_and _))))) | refine LK.regc ?_ | fail)
  refine LK.loop (fun k : Nat => w.length - k) (fun k => 1 ≤ k ∧ k ≤ w.length) (fun k => ⟨25, [(0, sI w), (3, vi (minTo w (k - 1))), (4, vi k)]⟩) (fun _ => []) 1 (by omega) (by dsimp only; rw [hm0]; exact Sub.by rfl rfl rfl) ?_
  rintro k ⟨hk1, hk⟩ J hJ
  rcases Nat.lt_or_ge k w.length with hlt | hge
  · obtain ⟨x, hx⟩ := idx_all hlt
    have i1 : ((k : Int) < (w.length : Int)) := by omega
    have hw := wrapn (n := k) (by omega)
    have hs : minTo w (k + 1 - 1) = if x < minTo w (k - 1) then x else minTo w (k - 1) := by
      obtain ⟨j, rfl⟩ : ∃ j, k = j + 1 := ⟨k - 1, by omega⟩
      simp only [Nat.add_sub_cancel]
      rw [minTo, hx]
    (repeat' first | refine LOps.done ?_ | (apply LOps.mv; (focus (first | exact Goes.free | exact Goes.on rfl rfl (by with_reducible rfl) true (by decide))); (focus (exact rfl)); (focus (exact rfl))) | (apply LOps.asg; (focus (first | exact Goes.free | exact Goes.on rfl rfl (by with_reducible rfl) true (by decide))); (focus (exact rfl)); (focus (exact rfl))) | (apply LOps.loc; (focus (first | exact Goes.free | exact Goes.on rfl rfl (by with_reducible rfl) true (by decide))); (focus (exact rfl)); (focus (exact rfl)); (focus (simp only [go_sem, ↓reduceIte, Nat.reduceEqDiff, Nat.reduceLT, i1, hx, hw]; with_reducible rfl))) | refine LK.seq ?_ | refine LK.skip ?_ | refine LK.block ?_ | refine LK.blk ?_ | refine LK.fin ?_ | (apply LK.condT2; (focus (exact rfl)); (focus (with_reducible rfl)); (focus (first | with_reducible rfl | decide | (with_reducible exact Bool.true_or _) | (with_reducible exact congrArg (fun b => b || _) (Bool.true_or _))))) | refine LK.regc ?_ | fail)
    apply hJ
    refine ⟨k + 1, ⟨by omega, hlt⟩, by omega, ?_⟩
    dsimp only
    rw [hs]
    exact Sub.by rfl rfl rfl
  · obtain rfl : k = w.length := by omega
    have i1 : ¬ ((w.length : Int) < (w.length : Int)) := by omega
    (repeat' first | refine LOps.done ?_ | (apply LOps.mv; (focus (first | exact Goes.free | exact Goes.on rfl rfl (by with_reducible rfl) true (by decide))); (focus (exact rfl)); (focus (exact rfl))) | (apply LOps.asg; (focus (first | exact Goes.free | exact Goes.on rfl rfl (by with_reducible rfl) true (by decide))); (focus (exact rfl)); (focus (exact rfl))) | (apply LOps.loc; (focus (first | exact Goes.free | exact Goes.on rfl rfl (by with_reducible rfl) true (by decide))); (focus (exact rfl)); (focus (exact rfl)); (focus (simp only [go_sem, ↓reduceIte, Nat.reduceEqDiff, i1]; with_reducible rfl))) | refine LK.seq ?_ | refine LK.ret' ?_ | refine LK.exit' rfl ?_ | (apply LK.condF2; (focus (exact rfl)); (focus (with_reducible rfl)); (focus (first | with_reducible rfl | decide | (with_reducible exact Bool.false_and _) | (with_reducible exact congrArg (fun b => b && _) (Bool.false_and _))))) | refine LK.regc ?_ | (apply retQ; (focus (first | exact lres_one rfl | exact lres_more rfl | (simp only [lres, lresv, Try.results24, go_sem, ↓reduceIte, Nat.reduceEqDiff, reduceCtorEq, Nat.reduceLT, Nat.reduceAdd, Int.reduceBEq, Int.reduceBNe, Int.reduceEq, Int.reduceLE, Int.reduceLT, Int.reduceToNat, Nat.reduceLeDiff, Nat.reduceMul, Nat.reduceSub, i1]; exact rfl)))) | fail)
    all_goals rfl
/-- The first one that has something. -/
def thief (has : List Int) : List Int → Option Int
  | [] => none
  | v :: r => if 0 < (has[v.toNat]?).getD 0 then some v else thief has r
def stE (l has : List Int) (a me : Int) : Int := if vE l a has.length me = 0 then (if minV has < 0 then 1 else match thief has (vV l a has.length me) with | some _ => 0 | none => 5) else 1
def stN (l has : List Int) (a me : Int) : Int := if stE l has a me = 0 then (thief has (vV l a has.length me)).getD 0 else 0
def stL (l has : List Int) (a me : Int) : List Int := if stE l has a me = 0 then l else []
def stA (l has : List Int) (a me : Int) : Int := if stE l has a me = 0 then vA l a has.length me else 0
end Go.Proofs.Ytflfhgpcmocilaa
