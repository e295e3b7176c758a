/- Chapter 06: the program and the document answer alike. -/
import Derived.Test.YtlikcejcdnkncaaQ29
set_option linter.unusedSimpArgs false
set_option linter.unusedVariables false
namespace Go.Proofs.Ytlikcejcdnkncaa
open Go.Lw
attribute [local irreducible] LK LOps LW
def lenB (n h t : List Int) : Prop := n.length ≤ 100000 ∧ h.length ≤ 100000 ∧ t.length ≤ 100000
theorem lenB_nil : lenB [] [] [] := ⟨by simp, by simp, by simp⟩
theorem Ch.lenB {n h t : List Int} {Q : List (List Nat)} (c : Ch n h t Q) : lenB n h t := by
  obtain ⟨h1, h2, h3, h4⟩ := c.b
  exact ⟨by omega, by omega, by omega⟩
theorem in_no {a : Int} {b : Nat} (h : ¬ (0 ≤ a ∧ a < b)) : (decide (a ≥ 0) && decide (a < (b : Int))) = false := by
  simp only [Bool.and_eq_false_iff, decide_eq_false_iff_not]; omega
theorem in_yes {a : Int} {b : Nat} (h : 0 ≤ a ∧ a < b) : (decide (a ≥ 0) && decide (a < (b : Int))) = true := by
  simp only [Bool.and_eq_true, decide_eq_true_eq]; omega
theorem push_both (n h t : List Int) (i x : Int) : (∃ e, Fun Try.prog 17 [cv n h t, vi i, vi x] (.tup [cv [] [] [], vi e]) ∧ Fun Try.prog 18 [cv n h t, vi i, vi x] (.tup [cv [] [] [], vi e])) ∨
    (∃ n' h' t', Own Try.prog 17 [cv n h t, vi i, vi x] (.tup [.agg [.own 8 n.length 0 n.length, .own 9 h.length 0 h.length, .own 10 t.length 0 t.length], vi 0]) 30 [(8, .arr 1 (oF (cI .i64) n')), (9, .arr 1 (oF (cI .i64) h')), (10, .arr 1 (oF (cI .i64) t'))] ∧ Fun Try.prog 18 [cv n h t, vi i, vi x] (.tup [cv n' h' t', vi 0]) ∧ lenB n' h' t' ∧ n'.length = n.length ∧ h'.length = h.length ∧ t'.length = t.length) := by
  by_cases g : okC n h t
  · obtain ⟨b, Q, r⟩ := id g
    have c : Ch n h t Q := ⟨b, r⟩
    have hh : h.length = Q.length := r.lh
    by_cases gi : 0 ≤ i ∧ i < Q.length
    · by_cases gx : 0 ≤ x ∧ x < n.length
      · obtain ⟨k, rfl⟩ := Int.eq_ofNat_of_zero_le gi.1
        obtain ⟨y, rfl⟩ := Int.eq_ofNat_of_zero_le gx.1
        have hk : k < Q.length := by omega
        have hy : y < n.length := by omega
        by_cases hm : y ∈ Q.flatten
        · exact .inl ⟨6, push_no c (by omega) hm hy, rpush_there c k y (in_yes gi) hm hy⟩
        · obtain ⟨q, hq⟩ := idx_all hk
          obtain ⟨n', h', t', f1, c', l1, l2, l3⟩ := push_yes_own c hq hm hy
          refine .inr ⟨n', h', t', f1, ?_, c'.lenB, l1, l2, l3⟩
          by_cases hne : q = []
          · subst hne; exact rpush_nil c hq hm hy c' l1
          · exact rpush_at c hq hne hm hy c' l1
      · exact .inl ⟨1, push_bad n h t i x (fun q => gx q.2.2), rpush_no3 c i x (in_yes gi) (in_no gx)⟩
    · exact .inl ⟨1, push_bad n h t i x (fun q => gi (by have := q.2.1; omega)), rpush_no2 c i x (in_no gi)⟩
  · exact .inl ⟨1, push_bad n h t i x (fun q => g q.1), rpush_no1 i x g⟩
theorem pop_both (n h t : List Int) (i : Int) : ∃ v n' h' t' e, Fun Try.prog 12 [cv n h t, vi i] (.tup [vi v, cv n' h' t', vi e]) ∧ Fun Try.prog 19 [cv n h t, vi i] (.tup [vi v, cv n' h' t', vi e]) ∧ lenB n' h' t' := by
  by_cases g : okC n h t
  · obtain ⟨b, Q, r⟩ := id g
    have c : Ch n h t Q := ⟨b, r⟩
    have hh : h.length = Q.length := r.lh
    by_cases gi : 0 ≤ i ∧ i < Q.length
    · obtain ⟨k, rfl⟩ := Int.eq_ofNat_of_zero_le gi.1
      obtain ⟨q, hq⟩ := idx_all (show k < Q.length by omega)
      cases q with
      | nil => exact ⟨0, [], [], [], 5, pop_no c hq, rpop_none c hq, lenB_nil⟩
      | cons x s =>
        obtain ⟨n', h', t', f1, c', l1, l2⟩ := pop_yes c hq
        exact ⟨x, n', h', t', 0, f1, rpop_yes c hq c' l1, c'.lenB⟩
    · exact ⟨0, [], [], [], 1, pop_bad n h t i (fun q => gi (by have := q.2; omega)), rpop_no2 c i (in_no gi), lenB_nil⟩
  · exact ⟨0, [], [], [], 1, pop_bad n h t i (fun q => g q.1), rpop_no1 i g, lenB_nil⟩
theorem cut_both (n h t : List Int) (x : Int) : ∃ n' h' t' e, Fun Try.prog 20 [cv n h t, vi x] (.tup [cv n' h' t', vi e]) ∧ Fun Try.prog 21 [cv n h t, vi x] (.tup [cv n' h' t', vi e]) ∧ lenB n' h' t' := by
  by_cases g : okC n h t
  · obtain ⟨b, Q, r⟩ := id g
    have c : Ch n h t Q := ⟨b, r⟩
    by_cases gx : 0 ≤ x ∧ x < n.length
    · obtain ⟨y, rfl⟩ := Int.eq_ofNat_of_zero_le gx.1
      have hy : y < n.length := by omega
      by_cases hm : y ∈ Q.flatten
      · obtain ⟨i, q, hq, hmq⟩ := mem_fl.1 hm
        obtain ⟨p, s, rfl⟩ := List.append_of_mem hmq
        obtain ⟨n', h', t', f1, c', l1, l2, _⟩ := cut_yes c hq
        exact ⟨n', h', t', 0, f1, rcut_yes c hq c' l1, c'.lenB⟩
      · exact ⟨[], [], [], 5, cut_no c hm hy, rcut_none c hy hm, lenB_nil⟩
    · exact ⟨[], [], [], 1, cut_bad n h t x (fun q => gx q.2), rcut_no2 c x (in_no gx), lenB_nil⟩
  · exact ⟨[], [], [], 1, cut_bad n h t x (fun q => g q.1), rcut_no1 x g, lenB_nil⟩
theorem join_both (n h t : List Int) (i j : Int) : ∃ n' h' t' e, Fun Try.prog 22 [cv n h t, vi i, vi j] (.tup [cv n' h' t', vi e]) ∧ Fun Try.prog 23 [cv n h t, vi i, vi j] (.tup [cv n' h' t', vi e]) ∧ lenB n' h' t' := by
  by_cases g : okC n h t
  · obtain ⟨b, Q, r⟩ := id g
    have c : Ch n h t Q := ⟨b, r⟩
    have hh : h.length = Q.length := r.lh
    by_cases gi : 0 ≤ i ∧ i < Q.length
    · by_cases gj : 0 ≤ j ∧ j < Q.length
      · obtain ⟨k, rfl⟩ := Int.eq_ofNat_of_zero_le gi.1
        obtain ⟨l, rfl⟩ := Int.eq_ofNat_of_zero_le gj.1
        by_cases hkl : k = l
        · subst hkl
          exact ⟨[], [], [], 1, join_eq n h t k g (by omega), rjoin_eq c k (in_yes gi), lenB_nil⟩
        · obtain ⟨p, hp⟩ := idx_all (show k < Q.length by omega)
          obtain ⟨q, hq⟩ := idx_all (show l < Q.length by omega)
          obtain ⟨n', h', t', f1, c', l1, l2⟩ := join_yes c hkl hp hq
          refine ⟨n', h', t', 0, f1, ?_, c'.lenB⟩
          by_cases hne : q = []
          · subst hne; exact rjoin_nil c hkl hp hq c' l1
          · exact rjoin_at c hkl hp hq hne c' l1
      · exact ⟨[], [], [], 1, join_bad n h t i j (fun q => gj (by have := q.2.2; omega)), rjoin_no3 c i j (in_yes gi) (in_no gj), lenB_nil⟩
    · exact ⟨[], [], [], 1, join_bad n h t i j (fun q => gi (by have := q.2.1; omega)), rjoin_no2 c i j (in_no gi), lenB_nil⟩
  · exact ⟨[], [], [], 1, join_bad n h t i j (fun q => g q.1), rjoin_no1 i j g, lenB_nil⟩
theorem rsame_self {n h t : List Int} (q : lenB n h t) : Fun Try.prog 24 [cv n h t, cv n h t] (vb true) := by
  have := rsame_fun n h t n h t q.1 q.2.1 q.2.2
  simpa using this
end Go.Proofs.Ytlikcejcdnkncaa
