/- Chapter 06: what is done with chains, told by their lists; the example. -/
import Derived.Test.YtlikcejcdnkncaaQ8
import Derived.Test.YtlikcejcdnkncaaQ9
set_option linter.unusedSimpArgs false
set_option linter.unusedVariables false
namespace Go.Proofs.Ytlikcejcdnkncaa
open Go.Lw
attribute [local irreducible] LK LOps LW
theorem rep_new (a b : Nat) : Rep (List.replicate a (-2)) (List.replicate b (-1)) (List.replicate b (-1)) (List.replicate b []) := by
  refine ⟨by simp, by simp, fun i q x hq hx => ?_, fun i q x hq hx => ?_, by simp, fun x y hy hx => ?_⟩
  · obtain ⟨h1, h2⟩ := List.getElem?_eq_some_iff.1 hq
    obtain ⟨h3, h4⟩ := List.getElem?_eq_some_iff.1 hx
    simp at h2 h4; subst h2; subst h4; rfl
  · obtain ⟨h1, h2⟩ := List.getElem?_eq_some_iff.1 hq
    obtain ⟨h3, h4⟩ := List.getElem?_eq_some_iff.1 hx
    simp at h2 h4; subst h2; subst h4; rfl
  · obtain ⟨h3, h4⟩ := List.getElem?_eq_some_iff.1 hy
    simp at h4; exact h4.symm
/-- Chains that may be, and their lists. -/
structure Ch (n h t : List Int) (Q : List (List Nat)) : Prop where
  b : okB n h t
  r : Rep n h t Q
theorem Ch.ok {n h t Q} (c : Ch n h t Q) : okC n h t := ⟨c.b, Q, c.r⟩
theorem ch_new {a b : Nat} (ha : a ≤ 1024) (hb : 1 ≤ b) (hb2 : b ≤ 256) : Ch (List.replicate a (-2)) (List.replicate b (-1)) (List.replicate b (-1)) (List.replicate b []) :=
  ⟨⟨by simpa using ha, by simpa using hb, by simpa using hb2, by simp⟩, rep_new a b⟩
theorem ne_out {n h t : List Int} {Q : List (List Nat)} (r : Rep n h t Q) {x : Nat} (hx : x ∈ Q.flatten) {y : Int} (hy : n[x]? = some y) : y ≠ -2 := by
  obtain ⟨i, q, hq, hm⟩ := mem_fl.1 hx
  obtain ⟨p, s, rfl⟩ := List.append_of_mem hm
  exact (rep_in r hq hy).2
theorem push_no {n h t : List Int} {Q : List (List Nat)} (c : Ch n h t Q) {i x : Nat} (hi : i < h.length) (hx : x ∈ Q.flatten) (hxl : x < n.length) : Fun Try.prog 17 [cv n h t, vi i, vi x] (.tup [cv [] [] [], vi 6]) := by
  obtain ⟨y, hy⟩ := idx_all hxl
  have := ne_out c.r hx hy
  exact push_there n h t i x y c.ok hi hxl hy (by simpa using this)
theorem push_yes {n h t : List Int} {Q : List (List Nat)} (c : Ch n h t Q) {i x : Nat} {q : List Nat} (hq : Q[i]? = some q) (hx : x ∉ Q.flatten) (hxl : x < n.length) : ∃ n' h' t', Fun Try.prog 17 [cv n h t, vi i, vi x] (.tup [cv n' h' t', vi 0]) ∧ Ch n' h' t' (Q.set i (q ++ [x])) ∧ n'.length = n.length ∧ h'.length = h.length ∧ (∃ z u, n' = (n.set z u).set x (-1)) := by
  obtain ⟨a, b, ha, hb, hp, hl⟩ := rep_head c.r hq
  have hi := lt_of_get ha
  obtain ⟨y, hy⟩ := idx_all hxl
  obtain rfl := c.r.out x y hy hx
  rcases q.eq_nil_or_concat with rfl | ⟨p, z, rfl⟩
  · refine ⟨_, _, _, push_nil n h t i x a c.ok hi hxl hy ha (by rw [hb, hl]; rfl), ⟨okC_of c.b (rep_push_nil c.r hq hx hxl) (by simp) (by simp), rep_push_nil c.r hq hx hxl⟩, by simp, by simp, x, -2, by rw [set_same hy]⟩
  · rw [List.concat_eq_append] at hq hl ⊢
    rw [lastI_snoc] at hl
    obtain ⟨k, hk1, hk2⟩ := pathTo_append.1 (by rw [List.concat_eq_append] at hp; exact hp)
    obtain ⟨rfl, u, hu, _⟩ := hk2
    have R := rep_push_cons c.r hq hx hxl
    exact ⟨_, _, _, push_cons n h t i x z u c.ok hi hxl hy hu (by rw [hb, hl]), ⟨okC_of c.b R (by simp) rfl, R⟩, by simp, rfl, z, x, rfl⟩
theorem pop_no {n h t : List Int} {Q : List (List Nat)} (c : Ch n h t Q) {i : Nat} (hq : Q[i]? = some []) : Fun Try.prog 12 [cv n h t, vi i] (.tup [vi 0, cv [] [] [], vi 5]) := by
  obtain ⟨a, b, ha, hb, hp, hl⟩ := rep_head c.r hq
  obtain rfl : a = -1 := hp
  exact pop_none n h t i c.ok (lt_of_get ha) ha
theorem pop_yes {n h t : List Int} {Q : List (List Nat)} (c : Ch n h t Q) {i x : Nat} {s : List Nat} (hq : Q[i]? = some (x :: s)) : ∃ n' h' t', Fun Try.prog 12 [cv n h t, vi i] (.tup [vi x, cv n' h' t', vi 0]) ∧ Ch n' h' t' (Q.set i s) ∧ n'.length = n.length ∧ h'.length = h.length := by
  obtain ⟨a, b, ha, hb, hp, hl⟩ := rep_head c.r hq
  obtain ⟨rfl, y, hy, _⟩ := hp
  have R := rep_cut_first c.r hq hy hb
  exact ⟨_, _, _, pop_go n h t i x y b c.ok (lt_of_get ha) ha hy hb, ⟨okC_of c.b R (by simp) (by simp), R⟩, by simp, by simp⟩
theorem cut_no {n h t : List Int} {Q : List (List Nat)} (c : Ch n h t Q) {x : Nat} (hx : x ∉ Q.flatten) (hxl : x < n.length) : Fun Try.prog 20 [cv n h t, vi x] (.tup [cv [] [] [], vi 5]) := by
  obtain ⟨y, hy⟩ := idx_all hxl
  obtain rfl := c.r.out x y hy hx
  exact cut_none n h t x c.ok hy
theorem cut_yes {n h t : List Int} {Q : List (List Nat)} (c : Ch n h t Q) {i x : Nat} {p s : List Nat} (hq : Q[i]? = some (p ++ x :: s)) : ∃ n' h' t', Fun Try.prog 20 [cv n h t, vi x] (.tup [cv n' h' t', vi 0]) ∧ Ch n' h' t' (Q.set i (p ++ s)) ∧ n'.length = n.length ∧ h'.length = h.length ∧ (∃ z u, n' = (n.set z u).set x (-2)) := by
  obtain ⟨a, b, ha, hb, hp, hl⟩ := rep_head c.r hq
  have hxl : x < n.length := (c.r.le hq).2 x (by simp)
  obtain ⟨y, hy⟩ := idx_all hxl
  have hne := (rep_in c.r hq hy).2
  have hf := find_at c.b c.r (x := x) (i := i) (p := p) ⟨s, hq⟩
  rcases p.eq_nil_or_concat with rfl | ⟨p', z, rfl⟩
  · have R := rep_cut_first c.r (s := s) hq hy hb
    rw [lastI_nil] at hf
    exact ⟨_, _, _, cut_first n h t i x y a b c.ok (lt_of_get ha) ha hy (by simpa using hne) hb hf, ⟨okC_of c.b R (by simp) (by simp), R⟩, by simp, by simp, x, y, by rw [set_same hy]⟩
  · rw [List.concat_eq_append] at *
    rw [lastI_snoc] at hf
    have hq' : Q[i]? = some (p' ++ z :: x :: s) := by rw [hq]; simp
    obtain ⟨g1, g2, R⟩ := rep_cut_next c.r hq' hy hb
    obtain ⟨u, hu⟩ := idx_all g2
    rw [show p' ++ [z] ++ s = p' ++ z :: s by simp]
    exact ⟨_, _, _, cut_next n h t i x z y u b c.ok hu g1 hy (by simpa using hne) hb hf, ⟨okC_of c.b R (by simp) rfl, R⟩, by simp, rfl, z, y, rfl⟩
set_option maxHeartbeats 4000000 in
set_option maxRecDepth 20000 in
theorem live_fun : Fun Try.prog 9 [] (vb true) := by
  have c0 := ch_new (a := 4) (b := 1) (by omega) (by omega) (by omega)
  have f0 := new_yes 4 1 (by omega) (by omega) (by omega)
  obtain ⟨n1, h1, t1, f1, c1, l1, m1, _⟩ := push_yes c0 (i := 0) (x := 3) (q := []) rfl (by decide) (by decide)
  obtain ⟨n2, h2, t2, f2, c2, l2, m2, _⟩ := push_yes c1 (i := 0) (x := 1) (q := [3]) rfl (by decide) (by rw [l1]; decide)
  obtain ⟨n3, h3, t3, f3, c3, l3, m3⟩ := pop_yes c2 (i := 0) (x := 3) (s := [1]) rfl
  (refine LCalls.enter Try.func9 rfl (by simp [Try.ntmps9]) (LK.start ?_); simp only [Try.ntmps9, enterA])
  (repeat' first | refine LOps.done ?_ | (apply LOps.mv; (focus (first | exact Goes.free | exact Goes.on rfl rfl (by with_reducible rfl) true (by decide))); (focus (exact rfl)); (focus (exact rfl))) | (apply LOps.asg; (focus (first | exact Goes.free | exact Goes.on rfl rfl (by with_reducible rfl) true (by decide))); (focus (exact rfl)); (focus (exact rfl))) | (apply LOps.ext; (focus (first | exact Goes.free | exact Goes.on rfl rfl (by with_reducible rfl) true (by decide))); (focus (exact rfl)); (focus (exact rfl)); (focus (exact rfl))) | (apply LOps.loc; (focus (first | exact Goes.free | exact Goes.on rfl rfl (by with_reducible rfl) true (by decide))); (focus (exact rfl)); (focus (exact rfl)); (focus (simp only [go_sem, ↓reduceIte, Nat.reduceEqDiff, reduceCtorEq, Nat.reduceLT, Nat.reduceAdd]; with_reducible rfl))) | (apply LOps.loc0; (focus (first | exact Goes.free | exact Goes.on rfl rfl (by with_reducible rfl) true (by decide))); (focus (exact rfl)); (focus (simp only [go_sem, ↓reduceIte, Nat.reduceEqDiff, reduceCtorEq, Nat.reduceLT, Nat.reduceAdd]; with_reducible rfl))) | refine LK.seq ?_ | refine LK.ret' ?_ | refine LK.regc ?_ | (apply retQ; (focus (first | exact lres_one rfl | exact lres_more rfl | (simp only [lres, lresv, Try.results9, go_sem, ↓reduceIte, Nat.reduceEqDiff, reduceCtorEq, Nat.reduceLT, Nat.reduceAdd, Int.reduceBEq, Int.reduceBNe, Int.reduceEq, Int.reduceLE, Int.reduceLT, Int.reduceToNat, Nat.reduceLeDiff, Nat.reduceMul, Nat.reduceSub]; exact rfl)))) | (apply LOps.locFn; (focus (first | exact Goes.free | exact Goes.on rfl rfl (by with_reducible rfl) true (by decide))); (focus (exact rfl)); (focus (exact rfl)); (focus (simp only [go_sem, ↓reduceIte]; exact rfl)); (focus (simp only [go_sem])); (focus (first | exact f0 | exact f1 | exact f2 | exact f3)); (focus (first | rfl | simp [go_sem])); (focus (first | rfl | simp [go_sem]))) | fail)
  all_goals rfl
end Go.Proofs.Ytlikcejcdnkncaa
