/- The walks of chapter 16 (as in chapter 03): draws. -/
import Derived.Test.YtflfhgpcmocilaaKD1
set_option linter.unusedSimpArgs false
set_option linter.unusedVariables false
namespace Go.Proofs.Ytflfhgpcmocilaa
open Go.Lw
attribute [local irreducible] LK LOps LW
/-- The octet at a place, and the place behind it. -/
def oct (l : List Int) (a : Nat) : Int := (l[a]?).getD 0
def octN (l : List Int) (a : Nat) : Nat := if a < l.length then a + 1 else a
def octB (l : List Int) : Prop := ∀ x ∈ l, 0 ≤ x ∧ x < 256
theorem octN_le {l : List Int} {a : Nat} (h : a ≤ l.length) : octN l a ≤ l.length := by unfold octN; split <;> omega
theorem oct_lt {l : List Int} (h : octB l) (a : Nat) : 0 ≤ oct l a ∧ oct l a < 256 := by
  unfold oct
  cases hx : l[a]? with
  | none => simp
  | some x => exact h x (List.mem_of_getElem? hx)
def draw (l : List Int) (a : Nat) (m : Int) : Int := (oct l a * 256 + oct l (octN l a)).tmod m
def drawN (l : List Int) (a : Nat) : Nat := octN l (octN l a)
theorem draw_lt {l : List Int} (h : octB l) (a : Nat) {m : Int} (hm : 1 ≤ m) : 0 ≤ draw l a m ∧ draw l a m < m := by
  have h1 := oct_lt h a
  have h2 := oct_lt h (octN l a)
  unfold draw
  rw [Int.tmod_eq_emod_of_nonneg (by omega)]
  exact ⟨Int.emod_nonneg _ (by omega), Int.emod_lt_of_pos _ (by omega)⟩
theorem or_octets {x y : Int} (hx : 0 ≤ x ∧ x < 256) (hy : 0 ≤ y ∧ y < 256) : borI .i64 (shlI .i64 x 8) y = x * 256 + y := by
  obtain ⟨a, rfl⟩ := Int.eq_ofNat_of_zero_le hx.1
  obtain ⟨b, rfl⟩ := Int.eq_ofNat_of_zero_le hy.1
  have h1 : shlI .i64 (a : Int) 8 = ((a * 256 : Nat) : Int) := by
    have : (min (Int.toNat 8) IntKind.i64.bits) = 8 := by decide
    rw [shlI, this, IntKind.wrap_i64]; omega
  rw [h1, borI]
  have hb : IntKind.i64.bits = 64 := rfl
  rw [hb, BitVec.toNat_or, BitVec.ofInt_natCast, BitVec.ofInt_natCast, BitVec.toNat_ofNat, BitVec.toNat_ofNat, Nat.mod_eq_of_lt (by omega), Nat.mod_eq_of_lt (by omega)]
  have h2 : a * 256 ||| b = a * 256 + b := by
    have := Nat.shiftLeft_add_eq_or_of_lt (i := 8) (b := b) (by omega) a
    rw [Nat.shiftLeft_eq] at this
    simpa using this.symm
  rw [h2, IntKind.wrap_i64]; omega
abbrev noDice : LV := .agg [sU [], vi 0]
theorem tm_ne {m : Int} (h : 1 ≤ m) : (m = 0) = False := by simp; omega
end Go.Proofs.Ytflfhgpcmocilaa
