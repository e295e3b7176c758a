/- The walks of chapter 16 (as in chapter 03): what a draw, an order, and one of weights answer, told as wholes; the chapter's example. -/
import Derived.Test.YtflfhgpcmocilaaKD6k
set_option linter.unusedSimpArgs false
set_option linter.unusedVariables false
namespace Go.Proofs.Ytflfhgpcmocilaa
open Go.Lw
attribute [local irreducible] LK LOps LW
theorem chk_nat {l : List Int} {a : Int} (h : chk l a = 0) : ∃ k : Nat, a = (k : Int) ∧ k ≤ l.length := by
  unfold chk at h
  split at h
  · cases h
  · rename_i hn
    exact ⟨a.toNat, by omega, by omega⟩
theorem chk_of {l : List Int} {k : Nat} (h : k ≤ l.length) : chk l (k : Int) = 0 := by rw [chk, if_neg (by omega)]
/-- One of weights. -/
def pick : List Int → Int → Nat
  | [], _ => 0
  | x :: r, m => if m < x then 0 else pick r (m - x) + 1
theorem sumTo_cons (x : Int) (w : List Int) (k : Nat) : sumTo (x :: w) (k + 1) = x + sumTo w k := by simp [sumTo]
theorem pick_spec : ∀ (w : List Int) (m : Int), 0 ≤ m → m < sumTo w w.length → ∃ y, w[pick w m]? = some y ∧ m < sumTo w (pick w m + 1) ∧ sumTo w (pick w m) ≤ m
  | [], m, h0, h => by simp [sumTo] at h; omega
  | x :: w, m, h0, h => by
    rw [List.length_cons, sumTo_cons] at h
    by_cases hx : m < x
    · rw [pick, if_pos hx]
      exact ⟨x, rfl, by rw [sumTo_cons, sumTo_zero]; omega, h0⟩
    · obtain ⟨y, h1, h2, h3⟩ := pick_spec w (m - x) (by omega) (by omega)
      rw [pick, if_neg hx]
      exact ⟨y, by simpa using h1, by rw [sumTo_cons]; omega, by rw [sumTo_cons]; omega⟩
def hBad (l w : List Int) (a : Int) : Bool := chk l a != 0 || decide (256 < w.length) || w.any odd
def hE (l w : List Int) (a : Int) : Int := if hBad l w a then 1 else if 65536 < sumTo w w.length then 4 else if sumTo w w.length = 0 then 5 else 0
def hN (l w : List Int) (a : Int) : Int := if hE l w a = 0 then (pick w (draw l a.toNat (sumTo w w.length)) : Nat) else 0
def hL (l w : List Int) (a : Int) : List Int := if hE l w a = 0 then l else []
def hA (l w : List Int) (a : Int) : Int := if hE l w a = 0 then (drawN l a.toNat : Nat) else 0
theorem heavy_fun (l w : List Int) (a : Int) (hb : octB l) (hl : l.length ≤ 100000) (hw : w.length ≤ 100000) : Fun Try.prog 29 [dv l a, sI w] (.tup [vi (hN l w a), dv (hL l w a) (hA l w a), vi (hE l w a)]) := by
  by_cases h : hBad l w a = true
  · have e : hE l w a = 1 := by rw [hE, if_pos h]
    have e2 : ¬ ((1 : Int) = 0) := by omega
    simp only [hN, hL, hA, e, if_neg e2]
    refine heavy_bad l w a hw ?_
    simp only [hBad, Bool.or_eq_true, bne_iff_ne, ne_eq, decide_eq_true_eq] at h
    rcases h with (h | h) | h
    · exact .inl h
    · exact .inr (.inl h)
    · exact .inr (.inr h)
  · have h' := h
    simp only [hBad, Bool.or_eq_true, bne_iff_ne, ne_eq, decide_eq_true_eq, not_or, Classical.not_not] at h'
    obtain ⟨⟨h1, h2⟩, h3⟩ := h'
    obtain ⟨k, rfl, hk⟩ := chk_nat h1
    have hok : okW l w k := ⟨hk, hb, hl, by omega, fun x hx => by
      cases ho : odd x with
      | false => rfl
      | true => exact absurd (List.any_eq_true.2 ⟨x, hx, ho⟩) h3⟩
    by_cases hs : 65536 < sumTo w w.length
    · have e : hE l w (k : Int) = 4 := by rw [hE, if_neg h, if_pos hs]
      have e2 : ¬ ((4 : Int) = 0) := by omega
      simp only [hN, hL, hA, e, if_neg e2]
      exact heavy_large l w k hok hs
    · by_cases hz : sumTo w w.length = 0
      · have e : hE l w (k : Int) = 5 := by rw [hE, if_neg h, if_neg hs, if_pos hz]
        have e2 : ¬ ((5 : Int) = 0) := by omega
        simp only [hN, hL, hA, e, if_neg e2]
        exact heavy_none l w k hok hz
      · have e : hE l w (k : Int) = 0 := by rw [hE, if_neg h, if_neg hs, if_neg hz]
        simp only [hN, hL, hA, e, if_true, Int.toNat_natCast]
        have hpos := (sumTo_bound hok.odd w.length).1
        have hd := draw_lt hb k (show 1 ≤ sumTo w w.length by omega)
        obtain ⟨y, p1, p2, p3⟩ := pick_spec w _ hd.1 hd.2
        exact heavy_ok l w k hok _ y (by omega) (by omega) p1 p2 p3
end Go.Proofs.Ytflfhgpcmocilaa
