/- Chapter 06: what is done with chains, in plain words. -/
import Derived.Test.YtlikcejcdnkncaaQ6
set_option linter.unusedSimpArgs false
set_option linter.unusedVariables false
namespace Go.Proofs.Ytlikcejcdnkncaa
open Go.Lw
attribute [local irreducible] LK LOps LW
theorem nodup_iff {Q : List (List Nat)} : Q.flatten.Nodup ↔ (∀ (i : Nat) (q : List Nat), Q[i]? = some q → q.Nodup) ∧ ∀ (i j : Nat) (p q : List Nat), i < j → Q[i]? = some p → Q[j]? = some q → ∀ x ∈ p, ∀ y ∈ q, x ≠ y := by
  unfold List.Nodup
  rw [List.pairwise_flatten]
  constructor
  · rintro ⟨h1, h2⟩
    refine ⟨fun i q hq => h1 q (List.mem_of_getElem? hq), fun i j p q hij hp hq => ?_⟩
    rw [List.pairwise_iff_getElem] at h2
    obtain ⟨a1, a2⟩ := List.getElem?_eq_some_iff.1 hp
    obtain ⟨b1, b2⟩ := List.getElem?_eq_some_iff.1 hq
    have := h2 i j a1 b1 hij
    rw [a2, b2] at this; exact this
  · rintro ⟨h1, h2⟩
    refine ⟨fun q hq => ?_, ?_⟩
    · obtain ⟨i, hi⟩ := List.mem_iff_getElem?.1 hq
      exact h1 i q hi
    · rw [List.pairwise_iff_getElem]
      intro i j hi hj hij
      exact h2 i j _ _ hij (List.getElem?_eq_getElem hi) (List.getElem?_eq_getElem hj)
theorem mem_fl {Q : List (List Nat)} {x : Nat} : x ∈ Q.flatten ↔ ∃ (i : Nat) (q : List Nat), Q[i]? = some q ∧ x ∈ q := by
  rw [List.mem_flatten]
  constructor
  · rintro ⟨q, hq, hx⟩
    obtain ⟨i, hi⟩ := List.mem_iff_getElem?.1 hq
    exact ⟨i, q, hi, hx⟩
  · rintro ⟨i, q, hq, hx⟩; exact ⟨q, List.mem_of_getElem? hq, hx⟩
theorem Rep.apart {n h t : List Int} {Q : List (List Nat)} (r : Rep n h t Q) {i j : Nat} {p q : List Nat} (hij : i ≠ j) (hp : Q[i]? = some p) (hq : Q[j]? = some q) {x : Nat} (hx : x ∈ p) : x ∉ q := by
  intro hy
  have hd := (nodup_iff.1 r.nodup).2
  rcases Nat.lt_or_ge i j with c | c
  · exact hd i j p q c hp hq x hx x hy rfl
  · exact hd j i q p (by omega) hq hp x hy x hx rfl
theorem pathTo_congr {n n' : List Int} : ∀ {p : List Nat} {a b : Int}, (∀ z ∈ p, n'[z]? = n[z]?) → pathTo n a p b → pathTo n' a p b
  | [], a, b, _, h => h
  | x :: p, a, b, hs, ⟨h1, y, h2, h3⟩ => ⟨h1, y, by rw [hs x (by simp), h2], pathTo_congr (fun z hz => hs z (by simp [hz])) h3⟩
/-- One list of chains turns into another one. -/
theorem rep_one {n h t n' : List Int} {Q : List (List Nat)} {i : Nat} {q q' : List Nat} {a' b' : Int} (r : Rep n h t Q) (hq : Q[i]? = some q) (hsame : ∀ w, w ∉ q → w ∉ q' → n'[w]? = n[w]?) (hp : pathTo n' a' q' (-1)) (hb : b' = lastI q') (hnd : q'.Nodup) (hnew : ∀ w ∈ q', w ∉ q → w ∉ Q.flatten) (hdrop : ∀ w ∈ q, w ∉ q' → ∀ v, n'[w]? = some v → v = -2) :
    Rep n' (h.set i a') (t.set i b') (Q.set i q') := by
  have hi := lt_of_get hq
  have hother : ∀ (j : Nat) (u : List Nat), j ≠ i → Q[j]? = some u → ∀ w ∈ u, w ∉ q ∧ w ∉ q' := by
    intro j u hj hu w hw
    have h1 := r.apart hj hu hq hw
    refine ⟨h1, fun h2 => hnew w h2 h1 (mem_fl.2 ⟨j, u, hu, hw⟩)⟩
  refine ⟨by simp [r.lh], by simp [r.lt], fun j u a hu ha => ?_, fun j u b hu hb' => ?_, ?_, fun x y hy hx => ?_⟩
  · by_cases e : j = i
    · subst e
      rw [List.getElem?_set_self hi] at hu
      obtain rfl := Option.some.inj hu
      rw [List.getElem?_set_self (by rw [r.lh]; exact hi)] at ha
      obtain rfl := Option.some.inj ha
      exact hp
    · rw [List.getElem?_set_ne (Ne.symm e)] at hu ha
      exact pathTo_congr (fun z hz => by obtain ⟨g1, g2⟩ := hother j u e hu z hz; exact hsame z g1 g2) (r.path j u a hu ha)
  · by_cases e : j = i
    · subst e
      rw [List.getElem?_set_self hi] at hu
      obtain rfl := Option.some.inj hu
      rw [List.getElem?_set_self (by rw [r.lt]; exact hi)] at hb'
      obtain rfl := Option.some.inj hb'
      exact hb
    · rw [List.getElem?_set_ne (Ne.symm e)] at hu hb'
      exact r.tail j u b hu hb'
  · have hd := nodup_iff.1 r.nodup
    refine nodup_iff.2 ⟨fun j u hu => ?_, fun j k u v hjk hu hv x hx y hy => ?_⟩
    · by_cases e : j = i
      · subst e
        rw [List.getElem?_set_self hi] at hu
        obtain rfl := Option.some.inj hu
        exact hnd
      · rw [List.getElem?_set_ne (Ne.symm e)] at hu
        exact hd.1 j u hu
    · by_cases e : j = i
      · subst e
        rw [List.getElem?_set_self hi] at hu
        obtain rfl := Option.some.inj hu
        rw [List.getElem?_set_ne (by omega)] at hv
        rintro rfl
        exact (hother k v (by omega) hv x hy).2 hx
      · rw [List.getElem?_set_ne (Ne.symm e)] at hu
        by_cases e2 : k = i
        · subst e2
          rw [List.getElem?_set_self hi] at hv
          obtain rfl := Option.some.inj hv
          rintro rfl
          exact (hother j u e hu x hx).2 hy
        · rw [List.getElem?_set_ne (Ne.symm e2)] at hv
          exact hd.2 j k u v hjk hu hv x hx y hy
  · have hx' : ∀ (j : Nat) (u : List Nat), (Q.set i q')[j]? = some u → x ∉ u := fun j u hu hm => hx (mem_fl.2 ⟨j, u, hu, hm⟩)
    have h1 : x ∉ q' := hx' i q' (List.getElem?_set_self hi)
    by_cases h2 : x ∈ q
    · exact hdrop x h2 h1 y hy
    · rw [hsame x h2 h1] at hy
      refine r.out x y hy fun hm => ?_
      obtain ⟨j, u, hu, hxu⟩ := mem_fl.1 hm
      by_cases e : j = i
      · subst e; rw [hq] at hu; obtain rfl := Option.some.inj hu; exact h2 hxu
      · exact hx' j u (by rw [List.getElem?_set_ne (Ne.symm e)]; exact hu) hxu
theorem set_same {α : Type} {l : List α} {i : Nat} {x : α} (h : l[i]? = some x) : l.set i x = l := by
  apply List.ext_getElem?
  intro j
  rw [List.getElem?_set]
  by_cases e : i = j
  · subst e; rw [if_pos rfl, if_pos (lt_of_get h), h]
  · rw [if_neg e]
theorem snoc_of {p : List Nat} (h : p ≠ []) : ∃ (p' : List Nat) (z : Nat), p = p' ++ [z] ∧ lastI p = z :=
  ⟨p.dropLast, p.getLast h, (List.dropLast_concat_getLast h).symm, by
    have e := List.dropLast_concat_getLast h
    generalize p.getLast h = z at e ⊢
    rw [← e, lastI_snoc]⟩
theorem lastI_append (p : List Nat) {q : List Nat} (h : q ≠ []) : lastI (p ++ q) = lastI q := by
  obtain ⟨q', z, rfl, hz⟩ := snoc_of h
  rw [hz, ← List.append_assoc, lastI_snoc]
theorem lastI_cons {x : Nat} {q : List Nat} : lastI (x :: q) = if q = [] then (x : Int) else lastI q := by
  split
  · rename_i h; subst h; rfl
  · rename_i h; exact lastI_append [x] h
/-- A node of chains points to a node, or to none. -/
theorem rep_in {n h t : List Int} {Q : List (List Nat)} (r : Rep n h t Q) {x i : Nat} {p s : List Nat} (hq : Q[i]? = some (p ++ x :: s)) {y : Int} (hy : n[x]? = some y) : pathTo n y s (-1) ∧ y ≠ -2 := by
  obtain ⟨a, ha⟩ := idx_all (show i < h.length by rw [r.lh]; exact lt_of_get hq)
  obtain ⟨c, _, h2⟩ := pathTo_append.1 (r.path i _ a hq ha)
  obtain ⟨_, u, h3, h4⟩ := h2
  rw [hy] at h3
  obtain rfl := Option.some.inj h3
  refine ⟨h4, ?_⟩
  cases s with
  | nil => have : y = -1 := h4; omega
  | cons z s => obtain ⟨h5, _⟩ := h4; omega
theorem rep_head {n h t : List Int} {Q : List (List Nat)} (r : Rep n h t Q) {i : Nat} {q : List Nat} (hq : Q[i]? = some q) : ∃ a b, h[i]? = some a ∧ t[i]? = some b ∧ pathTo n a q (-1) ∧ b = lastI q := by
  have hi := lt_of_get hq
  obtain ⟨a, ha⟩ := idx_all (show i < h.length by rw [r.lh]; exact hi)
  obtain ⟨b, hb⟩ := idx_all (show i < t.length by rw [r.lt]; exact hi)
  exact ⟨a, b, ha, hb, r.path i q a hq ha, r.tail i q b hq hb⟩
/-- A node is taken out. -/
theorem rep_cut_first {n h t : List Int} {Q : List (List Nat)} (r : Rep n h t Q) {x i : Nat} {s : List Nat} (hq : Q[i]? = some (x :: s)) {y b : Int} (hy : n[x]? = some y) (hb : t[i]? = some b) : Rep (n.set x (-2)) (h.set i y) (if b = x then t.set i (-1) else t) (Q.set i s) := by
  have hd := (nodup_iff.1 r.nodup).1 i _ hq
  rw [List.nodup_cons] at hd
  have hin := rep_in r (p := []) hq hy
  have hbt := r.tail i _ b hq hb
  have ht : (if b = x then t.set i (-1) else t) = t.set i (lastI s) := by
    rw [lastI_cons] at hbt
    split at hbt
    · rename_i hs; subst hs; rw [if_pos hbt]; rfl
    · rename_i hs
      obtain ⟨p', z, e, hz⟩ := snoc_of hs
      have hne : b ≠ x := by
        rw [hbt, hz]; intro e2
        exact hd.1 (by rw [e]; simp; right; omega)
      rw [if_neg hne, ← hbt, set_same hb]
  rw [ht]
  refine rep_one r hq (fun w h1 h2 => ?_) (pathTo_congr (fun z hz => ?_) hin.1) rfl hd.2 (fun w hw hn => absurd (List.mem_cons_of_mem _ hw) hn) (fun w hw hn v hv => ?_)
  · rw [List.getElem?_set_ne]; rintro rfl; exact h1 (by simp)
  · rw [List.getElem?_set_ne]; rintro rfl; exact hd.1 hz
  · rcases List.mem_cons.1 hw with rfl | hw
    · rw [List.getElem?_set_self (lt_of_get hy)] at hv; exact (Option.some.inj hv).symm
    · exact absurd hw hn
theorem rep_cut_next {n h t : List Int} {Q : List (List Nat)} (r : Rep n h t Q) {x i z : Nat} {p s : List Nat} (hq : Q[i]? = some (p ++ z :: x :: s)) {y b : Int} (hy : n[x]? = some y) (hb : t[i]? = some b) : z ≠ x ∧ z < n.length ∧ Rep ((n.set z y).set x (-2)) h (if b = x then t.set i z else t) (Q.set i (p ++ z :: s)) := by
  have hd := (nodup_iff.1 r.nodup).1 i _ hq
  have hin := rep_in r (p := p ++ [z]) (s := s) (x := x) (by simpa using hq) hy
  obtain ⟨a, b', ha, hb', hpa, _⟩ := rep_head r hq
  have hbt := r.tail i _ b hq hb
  obtain ⟨d1, d2, d3⟩ := List.nodup_append.1 hd
  rw [List.nodup_cons, List.nodup_cons] at d2
  obtain ⟨d4, d5, d6⟩ := d2
  have hzx : z ≠ x := fun e => d4 (by simp [e])
  obtain ⟨c, hp1, hp2⟩ := pathTo_append.1 hpa
  obtain ⟨rfl, u, hzu, hp3⟩ := hp2
  have hzl := lt_of_get hzu
  have hxp : x ∉ p := fun hm => d3 x hm x (by simp) rfl
  have hzp : z ∉ p := fun hm => d3 z hm z (by simp) rfl
  have hzs : z ∉ s := fun hm => d4 (by simp [hm])
  have ht : (if b = x then t.set i (z : Int) else t) = t.set i (lastI (p ++ z :: s)) := by
    rw [lastI_append p (by simp), lastI_cons, if_neg (by simp), lastI_cons] at hbt
    rw [lastI_append p (by simp), lastI_cons]
    split at hbt
    · rename_i hs; rw [if_pos hbt, if_pos hs]
    · rename_i hs
      obtain ⟨p', w, e, hw⟩ := snoc_of hs
      have hne : b ≠ x := by
        rw [hbt, hw]; intro e2
        exact d5 (by rw [e]; simp; right; omega)
      rw [if_neg hne, if_neg hs, ← hbt, set_same hb]
  refine ⟨hzx, hzl, ?_⟩
  rw [ht]
  have hnz : ((n.set z y).set x (-2))[z]? = some y := by rw [List.getElem?_set_ne (Ne.symm hzx), List.getElem?_set_self hzl]
  have hother : ∀ w, w ≠ z → w ≠ x → ((n.set z y).set x (-2))[w]? = n[w]? := fun w h1 h2 => by rw [List.getElem?_set_ne (Ne.symm h2), List.getElem?_set_ne (Ne.symm h1)]
  have hR := rep_one (n' := (n.set z y).set x (-2)) (q' := p ++ z :: s) (a' := a) (b' := lastI (p ++ z :: s)) r hq (fun w h1 h2 => hother w (by rintro rfl; exact h1 (by simp)) (by rintro rfl; exact h1 (by simp)))
    (pathTo_append.2 ⟨z, pathTo_congr (fun w hw => hother w (by rintro rfl; exact hzp hw) (by rintro rfl; exact hxp hw)) hp1, rfl, y, hnz, pathTo_congr (fun w hw => hother w (by rintro rfl; exact hzs hw) (by rintro rfl; exact d5 hw)) hin.1⟩) rfl
    (List.nodup_append.2 ⟨d1, List.nodup_cons.2 ⟨hzs, d6⟩, fun u hu v hv => by
      rcases List.mem_cons.1 hv with rfl | hv
      · exact d3 u hu v (by simp)
      · exact d3 u hu v (by simp [hv])⟩)
    (fun w hw hn => absurd (by
      rcases List.mem_append.1 hw with hw | hw
      · simp [hw]
      · rcases List.mem_cons.1 hw with rfl | hw
        · simp
        · simp [hw]) hn)
    (fun w hw hn v hv => by
      have : w = x := by
        simp only [List.mem_append, List.mem_cons] at hw hn
        rcases hw with hw | hw | hw | hw
        · exact absurd (.inl hw) hn
        · exact absurd (.inr (.inl hw)) hn
        · exact hw
        · exact absurd (.inr (.inr hw)) hn
      subst this
      rw [List.getElem?_set_self (by rw [List.length_set]; exact lt_of_get hy)] at hv; exact (Option.some.inj hv).symm)
  rw [set_same ha] at hR
  exact hR
/-- A node is put behind a list. -/
theorem rep_push_nil {n h t : List Int} {Q : List (List Nat)} (r : Rep n h t Q) {x i : Nat} (hq : Q[i]? = some []) (hx : x ∉ Q.flatten) (hxl : x < n.length) : Rep (n.set x (-1)) (h.set i x) (t.set i x) (Q.set i [x]) := by
  refine rep_one r hq (fun w h1 h2 => ?_) ⟨rfl, -1, List.getElem?_set_self hxl, rfl⟩ rfl (by simp) (fun w hw hn => by simp at hw; subst hw; exact hx) (fun w hw => by simp at hw)
  rw [List.getElem?_set_ne]; rintro rfl; exact h2 (by simp)
theorem rep_push_cons {n h t : List Int} {Q : List (List Nat)} (r : Rep n h t Q) {x i z : Nat} {p : List Nat} (hq : Q[i]? = some (p ++ [z])) (hx : x ∉ Q.flatten) (hxl : x < n.length) : Rep ((n.set z x).set x (-1)) h (t.set i x) (Q.set i (p ++ [z] ++ [x])) := by
  have hd := (nodup_iff.1 r.nodup).1 i _ hq
  have hxq : x ∉ p ++ [z] := fun hm => hx (mem_fl.2 ⟨i, _, hq, hm⟩)
  obtain ⟨a, b', ha, hb', hpa, _⟩ := rep_head r hq
  obtain ⟨d1, d2, d3⟩ := List.nodup_append.1 hd
  obtain ⟨c, hp1, hp2⟩ := pathTo_append.1 hpa
  obtain ⟨rfl, u, hzu, hp3⟩ := hp2
  have hzl := lt_of_get hzu
  have hzx : z ≠ x := by rintro rfl; exact hxq (by simp)
  have hzp : z ∉ p := fun hm => d3 z hm z (by simp) rfl
  have hother : ∀ w, w ≠ z → w ≠ x → ((n.set z (x : Int)).set x (-1))[w]? = n[w]? := fun w h1 h2 => by rw [List.getElem?_set_ne (Ne.symm h2), List.getElem?_set_ne (Ne.symm h1)]
  have hR := rep_one (n' := (n.set z (x : Int)).set x (-1)) (q' := p ++ [z] ++ [x]) (a' := a) (b' := x) r hq (fun w h1 h2 => hother w (by rintro rfl; exact h1 (by simp)) (by rintro rfl; exact h2 (by simp)))
    (by
      rw [List.append_assoc]
      refine pathTo_append.2 ⟨z, pathTo_congr (fun w hw => hother w (by rintro rfl; exact hzp hw) (by rintro rfl; exact hxq (by simp [hw]))) hp1, rfl, x, ?_, rfl, -1, ?_, rfl⟩
      · rw [List.getElem?_set_ne (Ne.symm hzx), List.getElem?_set_self hzl]
      · rw [List.getElem?_set_self (by rw [List.length_set]; exact hxl)])
    (lastI_snoc _ _).symm
    (List.nodup_append.2 ⟨hd, by simp, fun u hu v hv => by simp at hv; subst hv; rintro rfl; exact hxq hu⟩)
    (fun w hw hn => by
      rcases List.mem_append.1 hw with hw | hw
      · exact absurd hw hn
      · simp at hw; subst hw; exact hx)
    (fun w hw hn => absurd (List.mem_append_left _ hw) hn)
  rw [set_same ha] at hR
  exact hR
theorem okC_of {n h t n' h' t' : List Int} {Q : List (List Nat)} (b : okB n h t) (r : Rep n' h' t' Q) (hn : n'.length = n.length) (hh : h'.length = h.length) : okB n' h' t' := by
  have e : t'.length = h'.length := by rw [r.lt, r.lh]
  unfold okB at b ⊢
  omega
end Go.Proofs.Ytlikcejcdnkncaa
