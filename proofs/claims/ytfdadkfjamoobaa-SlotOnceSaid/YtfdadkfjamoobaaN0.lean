/- Chapter 05: what places do, in plain words. -/
import Derived.Test.YtfdadkfjamoobaaTy
set_option linter.unusedSimpArgs false
set_option linter.unusedVariables false
namespace Go.Proofs.Ytfdadkfjamoobaa
open Go.Lw
attribute [local irreducible] LK LOps LW
abbrev vi (a : Int) : LV := .pv (.sc (.int .i64 a))
abbrev vb (a : Bool) : LV := .pv (.sc (.bool a))
abbrev sI (l : List Int) : LV := sF 1 (cI .i64) l
abbrev sB (l : List Bool) : LV := sF 1 cB l
abbrev pl (g : List Int) (l : List Bool) : LV := .agg [sI g, sB l]
def most (b : Bool) : Int := if b then 1099511627775 else 1099511627776
/-- Whether places may be. -/
def okP (g : List Int) (l : List Bool) : Prop := 1 ≤ g.length ∧ g.length ≤ 256 ∧ l.length = g.length ∧ ∀ p ∈ g.zip l, 0 ≤ p.1 ∧ p.1 ≤ most p.2
instance (g : List Int) (l : List Bool) : Decidable (okP g l) := inferInstanceAs (Decidable (_ ∧ _))
def chk (g : List Int) (l : List Bool) : Int := if okP g l then 0 else 1
theorem chk_ok {g l} (h : okP g l) : chk g l = 0 := if_pos h
theorem chk_no {g l} (h : ¬ okP g l) : chk g l = 1 := if_neg h
theorem okP_el {g : List Int} {l : List Bool} (h : okP g l) {i : Nat} {x : Int} {b : Bool} (hx : g[i]? = some x) (hb : l[i]? = some b) : 0 ≤ x ∧ x ≤ most b := by
  have : (g.zip l)[i]? = some (x, b) := List.getElem?_zip_eq_some.2 ⟨hx, hb⟩
  exact h.2.2.2 (x, b) (List.mem_of_getElem? this)
theorem okP_mk {g : List Int} {l : List Bool} (h1 : 1 ≤ g.length) (h2 : g.length ≤ 256) (h3 : l.length = g.length) (h : ∀ (i : Nat) (x : Int) (b : Bool), g[i]? = some x → l[i]? = some b → 0 ≤ x ∧ x ≤ most b) : okP g l := by
  refine ⟨h1, h2, h3, fun p hp => ?_⟩
  obtain ⟨i, hi⟩ := List.mem_iff_getElem?.1 hp
  obtain ⟨g1, g2⟩ := List.getElem?_zip_eq_some.1 hi
  exact h i p.1 p.2 g1 g2
/-- The first free place. -/
def frees : List Int → List Bool → Option Nat
  | x :: g, b :: l => if (!b && x != 1099511627776) = true then some 0 else (frees g l).map (· + 1)
  | _, _ => none
theorem frees_some : ∀ {g : List Int} {l : List Bool} {k : Nat}, frees g l = some k → (∃ x, g[k]? = some x ∧ l[k]? = some false ∧ x ≠ 1099511627776) ∧ ∀ (j : Nat) (y : Int) (b : Bool), j < k → g[j]? = some y → l[j]? = some b → (!b && y != 1099511627776) = false
  | [], l, k, h => by simp [frees] at h
  | _ :: _, [], k, h => by simp [frees] at h
  | x :: g, b :: l, k, h => by
    simp only [frees] at h
    split at h
    · rename_i hc
      obtain rfl := Option.some.inj h
      simp only [Bool.and_eq_true, Bool.not_eq_true', bne_iff_ne] at hc
      exact ⟨⟨x, rfl, by simp [hc.1], hc.2⟩, fun j y b' hj => absurd hj (Nat.not_lt_zero _)⟩
    · rename_i hc
      cases hf : frees g l with
      | none => simp [hf] at h
      | some k' =>
        simp only [hf, Option.map_some, Option.some.injEq] at h
        subst h
        obtain ⟨⟨y, h1, h2, h3⟩, h4⟩ := frees_some hf
        refine ⟨⟨y, by simpa using h1, by simpa using h2, h3⟩, fun j z b' hj hz hb => ?_⟩
        cases j with
        | zero =>
          obtain rfl : x = z := by simpa using hz
          obtain rfl : b = b' := by simpa using hb
          simpa using hc
        | succ j => exact h4 j z b' (by omega) (by simpa using hz) (by simpa using hb)
theorem frees_none : ∀ {g : List Int} {l : List Bool}, frees g l = none → ∀ (j : Nat) (y : Int) (b : Bool), g[j]? = some y → l[j]? = some b → (!b && y != 1099511627776) = false
  | [], l, h, j, y, b, hy, hb => by simp at hy
  | _ :: _, [], h, j, y, b, hy, hb => by simp at hb
  | x :: g, c :: l, h, j, y, b, hy, hb => by
    simp only [frees] at h
    split at h
    · cases h
    · rename_i hc
      cases j with
      | zero =>
        obtain rfl : x = y := by simpa using hy
        obtain rfl : c = b := by simpa using hb
        simpa using hc
      | succ j =>
        have hf : frees g l = none := by
          cases hf : frees g l with
          | none => rfl
          | some k' => simp [hf] at h
        exact frees_none hf j y b (by simpa using hy) (by simpa using hb)
/-- One taken. -/
def tkE (g : List Int) (l : List Bool) : Int := if chk g l = 1 then 1 else match frees g l with | some _ => 0 | none => 7
def tkK (g : List Int) (l : List Bool) : Nat := (frees g l).getD 0
def tkN (g : List Int) (l : List Bool) : Int := if tkE g l = 0 then g.getD (tkK g l) 0 * 256 + tkK g l else 0
def tkG (g : List Int) (l : List Bool) : List Int := if tkE g l = 0 then g else []
def tkL (g : List Int) (l : List Bool) : List Bool := if tkE g l = 0 then l.set (tkK g l) true else []
/-- One found: by its generation, and its place. -/
def fiE (g : List Int) (l : List Bool) (id : Int) : Int := if chk g l = 1 ∨ id < 0 then 1 else match g[(id % 256).toNat]?, l[(id % 256).toNat]? with
  | some x, some b => if x < id / 256 then 5 else if id / 256 < x then 8 else if b = true then 0 else 5
  | _, _ => 5
def fiI (g : List Int) (l : List Bool) (id : Int) : Int := if fiE g l id = 0 then id % 256 else 0
/-- One freed. -/
def frG (g : List Int) (l : List Bool) (id : Int) : List Int := if fiE g l id = 0 then g.set (id % 256).toNat (id / 256 + 1) else []
def frL (g : List Int) (l : List Bool) (id : Int) : List Bool := if fiE g l id = 0 then l.set (id % 256).toNat false else []
theorem and255 (z : Int) : ((@HAnd.hAnd (BitVec 64) (BitVec 64) (BitVec 64) (@instHAndOfAndOp (BitVec IntKind.i64.bits) (@BitVec.instAndOp IntKind.i64.bits)) (BitVec.ofInt 64 z) (BitVec.ofInt 64 255)).toNat : Int) = z % 256 := by
  show ((BitVec.ofInt 64 z &&& BitVec.ofInt 64 255).toNat : Int) = z % 256
  rw [BitVec.toNat_and, BitVec.toNat_ofInt, BitVec.toNat_ofInt]
  have h : ((255 : Int) % ((2 : Nat) ^ 64 : Nat)).toNat = 2 ^ 8 - 1 := by decide
  rw [h, Nat.and_two_pow_sub_one_eq_mod]
  omega
theorem and_id (gn : Int) (i : Nat) (hi : i < 256) : IntKind.i64.wrap ((@HAnd.hAnd (BitVec 64) (BitVec 64) (BitVec 64) (@instHAndOfAndOp (BitVec IntKind.i64.bits) (@BitVec.instAndOp IntKind.i64.bits)) (BitVec.ofInt 64 (gn * 256 + i)) (BitVec.ofInt 64 255)).toNat : Int) = (i : Int) := by
  rw [and255, IntKind.wrap_i64]; omega
theorem quo_id (gn : Int) (i : Nat) (hi : i < 256) (h0 : 0 ≤ gn) (hm : gn * 256 + i ≤ 9223372036854775807) : IntKind.i64.wrap (Int.tdiv (gn * 256 + i) 256) = gn := by
  rw [Int.tdiv_eq_ediv_of_nonneg (by omega), IntKind.wrap_i64]; omega
/-- The ids of the places that are there, of the first k ones. -/
def idsUp (g : List Int) (l : List Bool) : Nat → List Int
  | 0 => []
  | k + 1 => match g[k]?, l[k]? with
    | some x, some true => idsUp g l k ++ [x * 256 + k]
    | _, _ => idsUp g l k
theorem idsUp_len (g : List Int) (l : List Bool) : ∀ k, (idsUp g l k).length ≤ k
  | 0 => Nat.le_refl _
  | k + 1 => by
    have := idsUp_len g l k
    unfold idsUp
    split
    · rw [List.length_append]; simp; omega
    · omega
theorem idsUp_yes {g : List Int} {l : List Bool} {k : Nat} {x : Int} (hx : g[k]? = some x) (hl : l[k]? = some true) : idsUp g l (k + 1) = idsUp g l k ++ [x * 256 + k] := by
  rw [idsUp, hx, hl]
theorem idsUp_no {g : List Int} {l : List Bool} {k : Nat} (hl : l[k]? = some false) : idsUp g l (k + 1) = idsUp g l k := by
  rw [idsUp, hl]; split <;> simp_all
def isV (g : List Int) (l : List Bool) : List Int := if chk g l = 0 then idsUp g l g.length else []
theorem wrap_id (x : Int) (k : Nat) (hx : 0 ≤ x ∧ x ≤ 1099511627776) (hk : k < 256) : IntKind.i64.wrap (IntKind.i64.wrap (x * 256) + (k : Int)) = x * 256 + k := by
  rw [IntKind.wrap_i64, IntKind.wrap_i64]; omega
theorem most_le (b : Bool) : most b ≤ 1099511627776 := by cases b <;> decide
end Go.Proofs.Ytfdadkfjamoobaa
