/- The walks of chapter 03: draws. -/
import Derived.Test.YtbojeohifgmbgaaD1
set_option linter.unusedSimpArgs false
set_option linter.unusedVariables false
namespace Go.Proofs.Ytbojeohifgmbgaa
open Go.Lw
attribute [local irreducible] LK LOps LW
/-- The octet at a place, and the place behind it. -/
def oct (l : List Int) (a : Nat) : Int := (l[a]?).getD 0
def octN (l : List Int) (a : Nat) : Nat := if a < l.length then a + 1 else a
def octB (l : List Int) : Prop := ∀ x ∈ l, 0 ≤ x ∧ x < 256
theorem octN_le {l : List Int} {a : Nat} (h : a ≤ l.length) : octN l a ≤ l.length := by unfold octN; split <;> omega
theorem oct_lt {l : List Int} (h : octB l) (a : Nat) : 0 ≤ oct l a ∧ oct l a < 256 := by
  unfold oct
  cases hx : l[a]? with
  | none => simp
  | some x => exact h x (List.mem_of_getElem? hx)
def draw (l : List Int) (a : Nat) (m : Int) : Int := (oct l a * 256 + oct l (octN l a)).tmod m
def drawN (l : List Int) (a : Nat) : Nat := octN l (octN l a)
theorem draw_lt {l : List Int} (h : octB l) (a : Nat) {m : Int} (hm : 1 ≤ m) : 0 ≤ draw l a m ∧ draw l a m < m := by
  have h1 := oct_lt h a
  have h2 := oct_lt h (octN l a)
  unfold draw
  rw [Int.tmod_eq_emod_of_nonneg (by omega)]
  exact ⟨Int.emod_nonneg _ (by omega), Int.emod_lt_of_pos _ (by omega)⟩
theorem or_octets {x y : Int} (hx : 0 ≤ x ∧ x < 256) (hy : 0 ≤ y ∧ y < 256) : borI .i64 (shlI .i64 x 8) y = x * 256 + y := by
  obtain ⟨a, rfl⟩ := Int.eq_ofNat_of_zero_le hx.1
  obtain ⟨b, rfl⟩ := Int.eq_ofNat_of_zero_le hy.1
  have h1 : shlI .i64 (a : Int) 8 = ((a * 256 : Nat) : Int) := by
    have : (min (Int.toNat 8) IntKind.i64.bits) = 8 := by decide
    rw [shlI, this, IntKind.wrap_i64]; omega
  rw [h1, borI]
  have hb : IntKind.i64.bits = 64 := rfl
  rw [hb, BitVec.toNat_or, BitVec.ofInt_natCast, BitVec.ofInt_natCast, BitVec.toNat_ofNat, BitVec.toNat_ofNat, Nat.mod_eq_of_lt (by omega), Nat.mod_eq_of_lt (by omega)]
  have h2 : a * 256 ||| b = a * 256 + b := by
    have := Nat.shiftLeft_add_eq_or_of_lt (i := 8) (b := b) (by omega) a
    rw [Nat.shiftLeft_eq] at this
    simpa using this.symm
  rw [h2, IntKind.wrap_i64]; omega
abbrev noDice : LV := .agg [sU [], vi 0]
set_option maxHeartbeats 4000000 in
set_option maxRecDepth 10000 in
theorem below_bad (l : List Int) (a m : Int) (h : chk l a ≠ 0 ∨ m < 1 ∨ 65536 < m) : Fun Try.prog 14 [dv l a, vi m] (.tup [vi 0, noDice, vi 1]) := by
  have hc0 := check_fun l a
  have hc : (chk l a != 0 || decide (m < 1) || decide (m > 65536)) = true := by
    simp only [Bool.or_eq_true, decide_eq_true_eq, bne_iff_ne, ne_eq]; omega
  refine Fun.frozenLe ?_
  (refine LCalls.enter Try.func14 rfl (by simp [Try.ntmps14]) (LK.start ?_); simp only [Try.ntmps14, enterA, Nat.zero_add])
  (repeat' first | refine LOps.done ?_ | (apply LOps.mv; (focus (first | exact Goes.free | exact Goes.on rfl rfl (by with_reducible rfl) true (by decide))); (focus (exact rfl)); (focus (exact rfl))) | (apply LOps.loc; (focus (first | exact Goes.free | exact Goes.on rfl rfl (by with_reducible rfl) true (by decide))); (focus (exact rfl)); (focus (exact rfl)); (focus (simp only [go_sem, ↓reduceIte, Nat.reduceEqDiff, reduceCtorEq, Nat.reduceLT, Nat.reduceAdd]; with_reducible rfl))) | (apply LOps.pass; (focus (first | exact Goes.on rfl rfl (by with_reducible rfl) false (by decide) | exact Goes.undef rfl rfl (by with_reducible rfl))); (focus (exact rfl))) | (apply LOps.scEnd; (focus (exact rfl)); (focus (with_reducible rfl))) | refine LK.seq ?_ | refine LK.regc ?_ | (apply LOps.locFn; (focus (first | exact Goes.free | exact Goes.on rfl rfl (by with_reducible rfl) true (by decide))); (focus (exact rfl)); (focus (exact rfl)); (focus (simp only [go_sem, ↓reduceIte]; exact rfl)); (focus (simp only [go_sem])); (focus (exact hc0)); (focus (first | rfl | simp [go_sem])); (focus (first | rfl | simp [go_sem]))) | (apply LOps.or2; exact rfl; exact rfl; exact rfl; exact rfl; exact rfl; (focus (with_reducible rfl)); (focus (first | kernel_rfl | rfl))) | refine Under.mk (fun hg => ?_) | fail)
  refine LK.condT2 rfl (by with_reducible rfl) hc ?_
  (repeat' first | refine LOps.done ?_ | (apply LOps.loc; (focus (first | exact Goes.free | exact Goes.on rfl rfl (by with_reducible rfl) true (by decide))); (focus (exact rfl)); (focus (exact rfl)); (focus (simp only [go_sem, ↓reduceIte]; with_reducible rfl))) | (apply LOps.loc0; (focus (first | exact Goes.free | exact Goes.on rfl rfl (by with_reducible rfl) true (by decide))); (focus (exact rfl)); (focus (simp only [go_sem, ↓reduceIte, Nat.reduceEqDiff, reduceCtorEq, Nat.reduceLT, Nat.reduceAdd]; with_reducible rfl))) | refine LK.seq ?_ | refine LK.ret' ?_ | refine LK.regc ?_ | (apply retQ; (focus (first | exact lres_one rfl | exact lres_more rfl | (simp only [lres, lresv, Try.results14, go_sem, ↓reduceIte, Nat.reduceEqDiff, reduceCtorEq, Nat.reduceAdd]; exact rfl)))) | fail)
  (simp only [go_sem]; repeat' first | exact LV.le_refl _ | exact LV.le_nil _ | exact le_nilF _ _ | exact LV.le_any _ _ _ | refine LV.le_tup ?_ | refine LV.le_agg ?_ | exact LV.les_nil | refine LV.les_cons ?_ ?_)
end Go.Proofs.Ytbojeohifgmbgaa
