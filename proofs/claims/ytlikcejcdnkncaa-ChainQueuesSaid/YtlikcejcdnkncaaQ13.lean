/- Chapter 06: two lists joined; chains of the same lists are the same. -/
import Derived.Test.YtlikcejcdnkncaaQ12
set_option linter.unusedSimpArgs false
set_option linter.unusedVariables false
namespace Go.Proofs.Ytlikcejcdnkncaa
open Go.Lw
attribute [local irreducible] LK LOps LW
/-- One list is put behind another one. -/
def joinQ (Q : List (List Nat)) (i j : Nat) (p q : List Nat) : List (List Nat) := (Q.set j (q ++ p)).set i []
theorem joinQ_len {Q i j p q} : (joinQ Q i j p q).length = Q.length := by simp [joinQ]
theorem joinQ_from {Q : List (List Nat)} {i j : Nat} {p q : List Nat} (hi : i < Q.length) : (joinQ Q i j p q)[i]? = some [] := by
  unfold joinQ; rw [List.getElem?_set_self (by simpa using hi)]
theorem joinQ_to {Q : List (List Nat)} {i j : Nat} {p q : List Nat} (hij : i ≠ j) (hj : j < Q.length) : (joinQ Q i j p q)[j]? = some (q ++ p) := by
  unfold joinQ; rw [List.getElem?_set_ne hij, List.getElem?_set_self hj]
theorem joinQ_other {Q : List (List Nat)} {i j k : Nat} {p q : List Nat} (h1 : k ≠ i) (h2 : k ≠ j) : (joinQ Q i j p q)[k]? = Q[k]? := by
  unfold joinQ; rw [List.getElem?_set_ne (Ne.symm h1), List.getElem?_set_ne (Ne.symm h2)]
theorem joinQ_origin {Q : List (List Nat)} {i j k : Nat} {p q u : List Nat} (hij : i ≠ j) (hp : Q[i]? = some p) (hq : Q[j]? = some q) (hu : (joinQ Q i j p q)[k]? = some u) {x : Nat} (hx : x ∈ u) : k ≠ i ∧ ∃ m v, Q[m]? = some v ∧ x ∈ v ∧ (m = k ∨ (m = i ∧ k = j)) := by
  by_cases e : k = i
  · subst e; rw [joinQ_from (lt_of_get hp)] at hu; obtain rfl := Option.some.inj hu; simp at hx
  · refine ⟨e, ?_⟩
    by_cases e2 : k = j
    · subst e2
      rw [joinQ_to hij (lt_of_get hq)] at hu; obtain rfl := Option.some.inj hu
      rcases List.mem_append.1 hx with hx | hx
      · exact ⟨k, q, hq, hx, .inl rfl⟩
      · exact ⟨i, p, hp, hx, .inr ⟨rfl, rfl⟩⟩
    · rw [joinQ_other e e2] at hu
      exact ⟨k, u, hu, hx, .inl rfl⟩
theorem joinQ_mem {Q : List (List Nat)} {i j : Nat} {p q : List Nat} (hij : i ≠ j) (hp : Q[i]? = some p) (hq : Q[j]? = some q) {x : Nat} (hx : x ∈ Q.flatten) : x ∈ (joinQ Q i j p q).flatten := by
  obtain ⟨k, u, hu, hm⟩ := mem_fl.1 hx
  by_cases e : k = i
  · subst e; rw [hp] at hu; obtain rfl := Option.some.inj hu
    exact mem_fl.2 ⟨j, _, joinQ_to hij (lt_of_get hq), by simp [hm]⟩
  · by_cases e2 : k = j
    · subst e2; rw [hq] at hu; obtain rfl := Option.some.inj hu
      exact mem_fl.2 ⟨k, _, joinQ_to hij (lt_of_get hq), by simp [hm]⟩
    · exact mem_fl.2 ⟨k, u, by rw [joinQ_other e e2]; exact hu, hm⟩
theorem rep_two {n h t n' : List Int} {Q : List (List Nat)} {i j : Nat} {p q : List Nat} {a' b' : Int} (r : Rep n h t Q) (hij : i ≠ j) (hp : Q[i]? = some p) (hq : Q[j]? = some q) (hsame : ∀ w, w ∉ q → n'[w]? = n[w]?) (ha' : pathTo n' a' (q ++ p) (-1)) (hb' : b' = lastI (q ++ p)) :
    Rep n' ((h.set j a').set i (-1)) ((t.set j b').set i (-1)) (joinQ Q i j p q) := by
  have hi := lt_of_get hp
  have hj := lt_of_get hq
  refine ⟨by simp [r.lh, joinQ_len], by simp [r.lt, joinQ_len], fun k u a hu ha => ?_, fun k u b hu hb => ?_, ?_, fun x y hy hx => ?_⟩
  · by_cases e : k = i
    · subst e
      rw [joinQ_from hi] at hu; obtain rfl := Option.some.inj hu
      rw [List.getElem?_set_self (by simp [r.lh]; exact hi)] at ha
      exact (Option.some.inj ha).symm
    · rw [List.getElem?_set_ne (Ne.symm e)] at ha
      by_cases e2 : k = j
      · subst e2
        rw [joinQ_to hij hj] at hu; obtain rfl := Option.some.inj hu
        rw [List.getElem?_set_self (by rw [r.lh]; exact hj)] at ha
        obtain rfl := Option.some.inj ha; exact ha'
      · rw [joinQ_other e e2] at hu
        rw [List.getElem?_set_ne (Ne.symm e2)] at ha
        exact pathTo_congr (fun z hz => hsame z (r.apart e2 hu hq hz)) (r.path k u a hu ha)
  · by_cases e : k = i
    · subst e
      rw [joinQ_from hi] at hu; obtain rfl := Option.some.inj hu
      rw [List.getElem?_set_self (by simp [r.lt]; exact hi)] at hb
      exact (Option.some.inj hb).symm
    · rw [List.getElem?_set_ne (Ne.symm e)] at hb
      by_cases e2 : k = j
      · subst e2
        rw [joinQ_to hij hj] at hu; obtain rfl := Option.some.inj hu
        rw [List.getElem?_set_self (by rw [r.lt]; exact hj)] at hb
        obtain rfl := Option.some.inj hb; exact hb'
      · rw [joinQ_other e e2] at hu
        rw [List.getElem?_set_ne (Ne.symm e2)] at hb
        exact r.tail k u b hu hb
  · have hd := nodup_iff.1 r.nodup
    refine nodup_iff.2 ⟨fun k u hu => ?_, fun k l u v hkl hu hv x hx y hy => ?_⟩
    · by_cases e : k = i
      · subst e; rw [joinQ_from hi] at hu; obtain rfl := Option.some.inj hu; simp
      · by_cases e2 : k = j
        · subst e2
          rw [joinQ_to hij hj] at hu; obtain rfl := Option.some.inj hu
          exact List.nodup_append.2 ⟨hd.1 k q hq, hd.1 i p hp, fun x hx y hy => by rintro rfl; exact r.apart (Ne.symm hij) hq hp hx hy⟩
        · rw [joinQ_other e e2] at hu; exact hd.1 k u hu
    · rintro rfl
      obtain ⟨k1, m, m', hm, hxm, hc⟩ := joinQ_origin hij hp hq hu hx
      obtain ⟨l1, s, s', hs, hxs, hc2⟩ := joinQ_origin hij hp hq hv hy
      by_cases e : m = s
      · subst e; omega
      · exact r.apart e hm hs hxm hxs
  · have h1 : x ∉ Q.flatten := fun hm => hx (joinQ_mem hij hp hq hm)
    rw [hsame x (fun hm => h1 (mem_fl.2 ⟨j, q, hq, hm⟩))] at hy
    exact r.out x y hy h1
theorem joinQ_nil {Q : List (List Nat)} {i j : Nat} {q : List Nat} (hp : Q[i]? = some []) (hq : Q[j]? = some q) : joinQ Q i j [] q = Q := by
  unfold joinQ; rw [List.append_nil, set_same hq, set_same hp]
theorem join_yes {n h t : List Int} {Q : List (List Nat)} (c : Ch n h t Q) {i j : Nat} {p q : List Nat} (hij : i ≠ j) (hp : Q[i]? = some p) (hq : Q[j]? = some q) : ∃ n' h' t', Fun Try.prog 22 [cv n h t, vi i, vi j] (.tup [cv n' h' t', vi 0]) ∧ Ch n' h' t' (joinQ Q i j p q) ∧ n'.length = n.length ∧ h'.length = h.length := by
  obtain ⟨a, b, ha, hb, pa, lb⟩ := rep_head c.r hp
  obtain ⟨a2, b2, ha2, hb2, pa2, lb2⟩ := rep_head c.r hq
  have hi := lt_of_get ha
  have hj := lt_of_get ha2
  cases p with
  | nil =>
    obtain rfl : a = -1 := pa
    exact ⟨n, h, t, join_none n h t i j c.ok hi hj hij ha, by rw [joinQ_nil hp hq]; exact c, rfl, rfl⟩
  | cons x p =>
    have hne : (a == -1) = false := by
      obtain ⟨e, _⟩ := pa
      rw [beq_eq_false_iff_ne]; omega
    rcases q.eq_nil_or_concat with rfl | ⟨q', z, rfl⟩
    · have e : b2 = -1 := lb2
      subst e
      have R := rep_two c.r hij hp hq (fun _ _ => rfl) (a' := a) (b' := b) (by simpa using pa) (by simpa using lb)
      exact ⟨_, _, _, join_empty n h t i j a b a2 c.ok hi hj hij ha hne hb hb2 ha2, ⟨okC_of c.b R rfl (by simp), R⟩, rfl, by simp⟩
    · rw [List.concat_eq_append] at *
      rw [lastI_snoc] at lb2
      subst lb2
      obtain ⟨k, hk1, hk2⟩ := pathTo_append.1 pa2
      obtain ⟨rfl, u, hu, _⟩ := hk2
      have hd := (nodup_iff.1 c.r.nodup).1 j _ hq
      obtain ⟨d1, d2, d3⟩ := List.nodup_append.1 hd
      have R := rep_two (n' := n.set z a) c.r hij hp hq (fun w hw => by rw [List.getElem?_set_ne]; rintro rfl; exact hw (by simp)) (a' := a2) (b' := b) (by
        rw [List.append_assoc]
        refine pathTo_append.2 ⟨z, pathTo_congr (fun w hw => ?_) hk1, rfl, a, List.getElem?_set_self (lt_of_get hu), pathTo_congr (fun w hw => ?_) pa⟩
        · rw [List.getElem?_set_ne]; rintro rfl; exact d3 z hw z (by simp) rfl
        · rw [List.getElem?_set_ne]; rintro rfl; exact c.r.apart hij hp hq hw (by simp)) (by rw [lastI_append _ (by simp)]; exact lb)
      rw [set_same ha2] at R
      exact ⟨_, _, _, join_cons n h t i j z a b u c.ok hi hj hij ha hne hb hb2 hu, ⟨okC_of c.b R (by simp) (by simp), R⟩, by simp, by simp⟩
end Go.Proofs.Ytlikcejcdnkncaa
