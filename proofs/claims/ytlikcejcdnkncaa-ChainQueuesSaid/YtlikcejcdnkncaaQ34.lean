/- Chapter 06: queues that are our own, in plain words. -/
import Derived.Test.YtlikcejcdnkncaaQ33
set_option linter.unusedSimpArgs false
set_option linter.unusedVariables false
namespace Go.Proofs.Ytlikcejcdnkncaa
open Go.Lw
attribute [local irreducible] LK LOps LW
/-- What is done: its kind, two lists, and a node. -/
structure OpI where
  kind : Int
  list : Int
  to : Int
  node : Int
def cOp (x : OpI) : List PV := [.sc (.int .i64 x.kind), .sc (.int .i64 x.list), .sc (.int .i64 x.to), .sc (.int .i64 x.node)]
attribute [go_sem] cOp
abbrev sOp (l : List OpI) : LV := sF 4 cOp l
/-- A queue: what its array holds, and where in it it begins. -/
abbrev Zq := List Int × Nat
def qv (j : Nat) (z : Zq) : LV := .own (j + 2) z.1.length z.2 (z.1.length - z.2)
def qR (Z : List Zq) : List (List LV) := Z.mapIdx fun j z => [qv j z]
def qS (Z : List Zq) : List (Nat × LO) := Z.mapIdx fun j z => (j + 2, .arr 1 (oF (cI .i64) z.1))
theorem qR_len (Z : List Zq) : (qR Z).length = Z.length := by simp [qR]
theorem qR_get {Z : List Zq} {j : Nat} {z : Zq} (h : Z[j]? = some z) : (qR Z)[j]? = some [.own (j + 2) z.1.length z.2 (z.1.length - z.2)] := by simp [qR, h, qv]
theorem qS_mem {Z : List Zq} {p : Nat × LO} : p ∈ qS Z ↔ ∃ (j : Nat) (z : Zq), Z[j]? = some z ∧ p = (j + 2, .arr 1 (oF (cI .i64) z.1)) := by
  rw [List.mem_iff_getElem?]
  constructor
  · rintro ⟨j, hj⟩
    simp only [qS, List.getElem?_mapIdx, Option.map_eq_some_iff] at hj
    obtain ⟨z, hz, rfl⟩ := hj
    exact ⟨j, z, hz, rfl⟩
  · rintro ⟨j, z, hz, rfl⟩
    exact ⟨j, by simp [qS, hz]⟩
theorem look_idx {α β : Type} : ∀ (Z : List α) (f : Nat → α → β) (k t : Nat), Lw.look (t + k) ((Z.mapIdx fun j z => (j + k, f j z)) : List (Nat × β)) = (Z[t]?).map (f t)
  | [], f, k, t => rfl
  | z :: Z, f, k, t => by
    rw [List.mapIdx_cons]
    cases t with
    | zero => simp [Lw.look]
    | succ t =>
      have ih := look_idx Z (fun j => f (j + 1)) (k + 1) t
      simp only [Lw.look]
      rw [if_neg (by omega), List.getElem?_cons_succ, ← ih]
      congr 1
      · omega
      · congr 1
        funext j z
        congr 1; omega
theorem qS_look {Z : List Zq} {j : Nat} {z : Zq} (h : Z[j]? = some z) : Lw.look (j + 2) (qS Z) = some (.arr 1 (oF (cI .i64) z.1)) := by
  rw [qS, look_idx Z (fun _ z => LO.arr 1 (oF (cI .i64) z.1)) 2 j, h]; rfl
theorem qR_ren {Z' : List Zq} {g : Nat → Nat} {R : List (List LV)} (hl : R.length = Z'.length) (h : ∀ (j : Nat) (z : Zq), Z'[j]? = some z → R[j]? = some [.own (g (j + 2)) z.1.length z.2 (z.1.length - z.2)]) : (qR Z').map (fun r => r.map (LV.ren g)) = R := by
  apply List.ext_getElem?
  intro j
  rcases Nat.lt_or_ge j Z'.length with hj | hj
  · obtain ⟨z, hz⟩ := idx_all hj
    rw [List.getElem?_map, qR_get hz, h j z hz]; rfl
  · rw [List.getElem?_eq_none (by simp [qR_len]; exact hj), List.getElem?_eq_none (by omega)]
theorem qR_under {Z : List Zq} {N : Nat} (h : Z.length + 2 ≤ N) : ((qR Z).all fun r => r.all fun x => LV.under N x) = true := by
  rw [List.all_eq_true]
  intro r hr
  obtain ⟨j, hj⟩ := List.mem_iff_getElem?.1 hr
  have hlt := lt_of_get hj
  rw [qR_len] at hlt
  obtain ⟨z, hz⟩ := idx_all hlt
  rw [qR_get hz] at hj
  obtain rfl := Option.some.inj hj
  simp [LV.under]; omega
/-- The end of a round. -/
theorem subR_end {g : Nat → Nat} {n : Nat} {m m' : List (Nat × LV)} {nx : Nat} {mo : List (Nat × LO)} {b0 : LO} {Z : List Zq} {R : List (List LV)} (hZ : Z.length ≤ 8) (g0 : g 0 = 0) (g1 : g 1 = 1)
    (ht : ∀ p ∈ m', Lw.look p.1 m = some (p.2.ren g) ∧ p.2.under 10 = true) (h0 : Lw.look 0 mo = some (b0.ren g)) (hu : b0.under 10 = true) (h1 : Lw.look 1 mo = some (.arr 1 R)) (hl : R.length = Z.length)
    (hR : ∀ (j : Nat) (z : Zq), Z[j]? = some z → R[j]? = some [.own (g (j + 2)) z.1.length z.2 (z.1.length - z.2)]) (hS : ∀ (j : Nat) (z : Zq), Z[j]? = some z → Lw.look (g (j + 2)) mo = some (.arr 1 (oF (cI .i64) z.1))) :
    SubR g ⟨n, m⟩ ⟨nx, mo⟩ ⟨n, m'⟩ ⟨10, (0, b0) :: (1, .arr 1 (qR Z)) :: qS Z⟩ := by
  refine ⟨rfl, ht, fun p hp => ?_⟩
  rcases List.mem_cons.1 hp with rfl | hp
  · exact ⟨by rw [g0]; exact h0, (by show 0 < 10; omega), hu⟩
  rcases List.mem_cons.1 hp with rfl | hp
  · refine ⟨?_, (by show 1 < 10; omega), ?_⟩
    · have e := qR_ren hl hR
      simp only [LO.ren, g1, LSt.get]; rw [e]; exact h1
    · exact qR_under (show Z.length + 2 ≤ 10 by omega)
  · obtain ⟨j, z, hz, rfl⟩ := qS_mem.1 hp
    have hj := lt_of_get hz
    refine ⟨?_, (by show j + 2 < 10; omega), ?_⟩
    · simp only [LO.ren, LSt.get, oF_ren]; exact hS j z hz
    · exact oF_all_under (cI .i64) z.1 10
/-- The numbers that are turned. -/
def gOf (l : List (Nat × Nat)) (k : Nat) : Nat := match Lw.look k l with | some i => i | none => k
theorem gOf_inj {l : List (Nat × Nat)} {N : Nat} (h1 : ∀ p ∈ l, N ≤ p.2) (h2 : (l.map (·.2)).Nodup) : ∀ i j, i < N → j < N → gOf l i = gOf l j → i = j := by
  intro i j hi hj h
  unfold gOf at h
  cases h3 : Lw.look i l with
  | none =>
    cases h4 : Lw.look j l with
    | none => rw [h3, h4] at h; exact h
    | some b => rw [h3, h4] at h; have := h1 _ (look_mem _ _ _ h4); simp only at h this; omega
  | some a =>
    cases h4 : Lw.look j l with
    | none => rw [h3, h4] at h; have := h1 _ (look_mem _ _ _ h3); simp only at h this; omega
    | some b =>
      rw [h3, h4] at h
      simp only at h
      subst h
      have m1 := look_mem _ _ _ h3
      have m2 := look_mem _ _ _ h4
      clear h1 h3 h4
      induction l with
      | nil => cases m1
      | cons p l ih =>
        simp only [List.map_cons, List.nodup_cons] at h2
        rcases List.mem_cons.1 m1 with rfl | m1
        · rcases List.mem_cons.1 m2 with h | m2
          · exact (congrArg Prod.fst h).symm
          · exact absurd (List.mem_map_of_mem (f := Prod.snd) m2) h2.1
        · rcases List.mem_cons.1 m2 with h | m2
          · exact absurd (show p.2 ∈ l.map (fun x => x.2) from by rw [← h]; exact List.mem_map.2 ⟨(i, a), m1, rfl⟩) h2.1
          · exact ih h2.2 m1 m2
theorem gOf_low {l : List (Nat × Nat)} (h : ∀ p ∈ l, 2 ≤ p.1) : ∀ k, k < 2 → gOf l k = k := by
  intro k hk
  unfold gOf
  cases h3 : Lw.look k l with
  | none => rfl
  | some a => have := h _ (look_mem _ _ _ h3); simp only at this; omega
/-- Each list has just what its queue has. -/
structure Qs (Q : List (List Nat)) (Z : List Zq) : Prop where
  len : Z.length = Q.length
  at_ : ∀ (j : Nat) (z : Zq) (q : List Nat), Z[j]? = some z → Q[j]? = some q → z.2 ≤ z.1.length ∧ z.1.drop z.2 = castL q
theorem Qs.get {Q : List (List Nat)} {Z : List Zq} (h : Qs Q Z) {j : Nat} {q : List Nat} (hq : Q[j]? = some q) : ∃ z : Zq, Z[j]? = some z ∧ z.2 + q.length = z.1.length ∧ z.1.drop z.2 = castL q ∧ z.1.length - z.2 = q.length := by
  obtain ⟨z, hz⟩ := idx_all (show j < Z.length by rw [h.len]; exact lt_of_get hq)
  obtain ⟨h1, h2⟩ := h.at_ j z q hz hq
  have := congrArg List.length h2
  rw [List.length_drop, castL_len] at this
  exact ⟨z, hz, by omega, h2, by omega⟩
theorem Qs.set {Q : List (List Nat)} {Z : List Zq} (h : Qs Q Z) {j : Nat} {q : List Nat} {z : Zq} (h1 : z.2 ≤ z.1.length) (h2 : z.1.drop z.2 = castL q) : Qs (Q.set j q) (Z.set j z) := by
  refine ⟨by simp [h.len], fun i y p hy hp => ?_⟩
  by_cases e : i = j
  · subst e
    have hi := lt_of_get hy
    rw [List.length_set] at hi
    rw [List.getElem?_set_self hi] at hy
    rw [List.getElem?_set_self (by rw [← h.len]; exact hi)] at hp
    obtain rfl := Option.some.inj hy
    obtain rfl := Option.some.inj hp
    exact ⟨h1, h2⟩
  · rw [List.getElem?_set_ne (Ne.symm e)] at hy hp
    exact h.at_ i y p hy hp
theorem Qs.new (L : Nat) : Qs (List.replicate L []) (List.replicate L ([], 0)) := by
  refine ⟨by simp, fun j z q hz hq => ?_⟩
  obtain ⟨h1, h2⟩ := List.getElem?_eq_some_iff.1 hz
  obtain ⟨h3, h4⟩ := List.getElem?_eq_some_iff.1 hq
  simp at h2 h4; subst h2; subst h4; exact ⟨Nat.le_refl _, rfl⟩
theorem upd_upd {α : Type} (t : Nat) (x y : α) : ∀ l : List (Nat × α), upd t x (upd t y l) = upd t x l
  | [] => by simp [upd]
  | (k, v) :: r => by
    by_cases e : k = t
    · simp [upd, e]
    · simp [upd, e, upd_upd t x y r]
theorem mod_of (v : Int) {n : Nat} (h : 1 ≤ n) (h2 : n ≤ 100) : IntKind.i64.wrap (Int.tmod v n + n) = Int.tmod v n + n ∧ ∃ j : Nat, j < n ∧ Int.tmod (Int.tmod v n + n) n = (j : Int) := by
  have a1 : Int.tmod v n < n := Int.tmod_lt_of_pos _ (by omega)
  have a2 : -(n : Int) < Int.tmod v n := by
    have := Int.tmod_lt_of_pos (-v) (show (0 : Int) < n by omega)
    rw [Int.neg_tmod] at this
    omega
  refine ⟨by rw [IntKind.wrap_i64]; omega, ?_⟩
  generalize hu : Int.tmod v n + n = u
  have h0 : 0 ≤ u := by omega
  obtain ⟨y, rfl⟩ := Int.eq_ofNat_of_zero_le h0
  exact ⟨y % n, Nat.mod_lt _ h, by rw [Int.ofNat_tmod]⟩
/-- The queues lie in these objects. -/
structure At1 (mo : List (Nat × LO)) (g : Nat → Nat) (Z : List Zq) : Prop where
  h1 : Lw.look 1 mo = some (.arr 1 ((qR Z).map fun r => r.map (LV.ren g)))
  hS : ∀ (j : Nat) (z : Zq), Z[j]? = some z → Lw.look (g (j + 2)) mo = some (.arr 1 (oF (cI .i64) z.1))
theorem qR_get_ren {Z : List Zq} {g : Nat → Nat} {j : Nat} {z : Zq} (h : Z[j]? = some z) : ((qR Z).map fun r => r.map (LV.ren g))[j]? = some [.own (g (j + 2)) z.1.length z.2 (z.1.length - z.2)] := by
  rw [List.getElem?_map, qR_get h]; rfl
theorem at1_same {mo : List (Nat × LO)} {Z : List Zq} (h1 : Lw.look 1 mo = some (.arr 1 (qR Z))) (ho : ∀ j, j < Z.length → Lw.look (j + 2) mo = Lw.look (j + 2) (qS Z)) : At1 mo (gOf []) Z := by
  refine ⟨?_, fun j z hz => (ho j (lt_of_get hz)).trans (qS_look hz)⟩
  rw [h1, qR_ren (R := qR Z) (qR_len Z) fun j z hz => qR_get hz]
theorem at1_set {mo : List (Nat × LO)} {Z : List Zq} {g : Nat → Nat} {a i N off len : Nat} {z : Zq} (ha : a < Z.length) (gi : g (a + 2) = i) (go : ∀ j, j ≠ a → j < Z.length → g (j + 2) = j + 2) (h1 : Lw.look 1 mo = some (.arr 1 ((qR Z).set a [.own i N off len]))) (e1 : z.1.length = N) (e2 : z.2 = off) (e3 : z.1.length - z.2 = len)
    (hi : Lw.look i mo = some (.arr 1 (oF (cI .i64) z.1))) (ho : ∀ j, j ≠ a → j < Z.length → Lw.look (j + 2) mo = Lw.look (j + 2) (qS Z)) : At1 mo g (Z.set a z) := by
  subst e1; subst e2; subst e3; subst gi
  refine ⟨?_, fun j y hy => ?_⟩
  · rw [h1, qR_ren (R := (qR Z).set a [.own (g (a + 2)) z.1.length z.2 (z.1.length - z.2)]) (by simp [qR_len])]
    intro j y hy
    have hj := lt_of_get hy
    rw [List.length_set] at hj
    by_cases e : j = a
    · subst e
      rw [List.getElem?_set_self hj] at hy
      obtain rfl := Option.some.inj hy
      rw [List.getElem?_set_self (by rw [qR_len]; exact hj)]
    · rw [List.getElem?_set_ne (Ne.symm e)] at hy
      rw [List.getElem?_set_ne (Ne.symm e), qR_get hy, go j e hj]
  · have hj := lt_of_get hy
    rw [List.length_set] at hj
    by_cases e : j = a
    · subst e
      rw [List.getElem?_set_self hj] at hy
      obtain rfl := Option.some.inj hy
      exact hi
    · rw [List.getElem?_set_ne (Ne.symm e)] at hy
      rw [go j e hj, ho j e hj, qS_look hy]
theorem cQ_rows (Q : List (List Nat)) : rF cQ Q = (Q.map fun q => PV.ro .any 1 (rF (cI .i64) (castL q))).map fun p => [p] := by
  simp only [rF, List.map_map]; rfl
theorem holds_at {n h t : List Int} {Q : List (List Nat)} {Z : List Zq} (c : Ch n h t Q) (hq : Qs Q Z) {nx L : Nat} {mo : List (Nat × LO)} {g : Nat → Nat} (hA : At1 mo g Z) (hL : L = Z.length) : LCalls Try.prog 31 [cv n h t, .own 1 L 0 L] (fun u σ' => u = vb true ∧ σ' = ⟨nx, mo⟩) ⟨nx, mo⟩ := by
  refine LCalls.borrowG (fun E w Vs h1 h2 => ?_) (holds_ok n h t Q c) rfl rfl
  refine ⟨h2.1, fun k k1 k2 => ?_⟩
  have k3 : k < 2 := k1
  rcases Nat.lt_or_ge k 1 with hk | hk
  · obtain rfl : k = 0 := by omega
    exact (h2.2 0 (by simp) k2).mono (Ext.clear E w)
  · obtain rfl : k = 1 := by omega
    have hv := h2.2 1 (by simp) k2
    show VRel E.clear w (.pv (.ro .any 1 (rF cQ Q))) _
    rw [cQ_rows]
    refine VRel.ownsAt h1 hA.h1 (by rw [List.length_map, qR_len]; exact hL.symm) rfl rfl (by rw [List.length_map, hL, hq.len]) (fun j p hp => ?_) hv
    rw [List.getElem?_map, Option.map_eq_some_iff] at hp
    obtain ⟨q, hqq, rfl⟩ := hp
    obtain ⟨z, hz, e1, e2, e3⟩ := hq.get hqq
    refine ⟨_, _, _, _, _, qR_get_ren hz, hA.hS j z hz, ?_⟩
    have hs : srcRows 1 ⟨nx, mo⟩ (.own (g (j + 2)) z.1.length z.2 (z.1.length - z.2)) = some (oF (cI .i64) (castL q)) := by
      have hm : Lw.look (g (j + 2)) mo = some (.arr 1 (oF (cI .i64) z.1)) := hA.hS j z hz
      simp only [srcRows, LSt.get, hm]
      rw [if_pos ⟨trivial, oF_len _ _, by omega⟩, oF_drop, e2, oF_take, List.take_of_length_le (by rw [castL_len]; omega)]
    simp only [frz1, hs, oF_pv]
theorem subR_at {g : Nat → Nat} {n : Nat} {m m' : List (Nat × LV)} {nx : Nat} {mo : List (Nat × LO)} {b0 : LO} {Z : List Zq} (hZ : Z.length ≤ 8) (g0 : g 0 = 0) (g1 : g 1 = 1)
    (ht : readB m (m'.map (·.1)) = some (m'.map fun p => (p.1, p.2.ren g))) (hu : m'.all (fun p => p.2.under 10) = true) (h0 : Lw.look 0 mo = some (b0.ren g)) (hu0 : b0.under 10 = true) (hA : At1 mo g Z) :
    SubR g ⟨n, m⟩ ⟨nx, mo⟩ ⟨n, m'⟩ ⟨10, (0, b0) :: (1, .arr 1 (qR Z)) :: qS Z⟩ := by
  refine subR_end (R := (qR Z).map fun r => r.map (LV.ren g)) hZ g0 g1 (fun p hp => ⟨?_, List.all_eq_true.1 hu p hp⟩) h0 hu0 hA.h1 (by rw [List.length_map, qR_len]) (fun j z hz => qR_get_ren hz) hA.hS
  exact readB_look _ _ _ ht (p.1, p.2.ren g) (List.mem_map_of_mem (f := fun p : Nat × LV => (p.1, p.2.ren g)) hp)
theorem app_of {O W x : List Int} {R : List (List LV)} {n' off off' : Nat} (hO : O.drop off = W) (r1 : R.length = n') (r2 : off' + (W.length + x.length) = n')
    (r3 : (R = oF (cI .i64) O ++ oF (cI .i64) x ∧ off' = off) ∨ (R = (oF (cI .i64) O).drop off ++ oF (cI .i64) x ∧ off' = 0)) : ∃ O', R = oF (cI .i64) O' ∧ O'.drop off' = W ++ x ∧ off' + (W.length + x.length) = O'.length := by
  rcases r3 with ⟨e1, e2⟩ | ⟨e1, e2⟩
  · refine ⟨O ++ x, by rw [e1, oF_append], ?_, ?_⟩
    · subst e2
      rw [e1, List.length_append, oF_len, oF_len] at r1
      rw [List.drop_append_of_le_length (by omega), hO]
    · rw [e1, List.length_append, oF_len, oF_len] at r1
      rw [List.length_append]; omega
  · refine ⟨W ++ x, ?_, by rw [e2]; rfl, by subst e2; simp⟩
    rw [e1, oF_drop, hO, oF_append]
/-- What is left of a list without a node. -/
def lft (q : List Nat) (x : Nat) : List Nat := q.filter fun y => decide (y ≠ x)
theorem lft_step {q : List Nat} {k x y : Nat} (hy : q[k]? = some y) : lft (q.take (k + 1)) x = lft (q.take k) x ++ (if y = x then [] else [y]) := by
  rw [List.take_add_one, hy, lft, List.filter_append]
  by_cases e : y = x <;> simp [lft, e]
theorem lft_all {q p s : List Nat} {x : Nat} (hq : q = p ++ x :: s) (hn : q.Nodup) : lft q x = p ++ s := by
  subst hq
  obtain ⟨h1, h2, h3⟩ := List.nodup_append.1 hn
  obtain ⟨h4, h5⟩ := List.nodup_cons.1 h2
  have e1 : p.filter (fun y => decide (y ≠ x)) = p := List.filter_eq_self.2 fun y hy => by simpa using h3 y hy x (by simp)
  have e2 : s.filter (fun y => decide (y ≠ x)) = s := List.filter_eq_self.2 fun y hy => by simp; rintro rfl; exact h4 hy
  simp only [lft, List.filter_append, List.filter_cons, ne_eq, not_true, decide_false, Bool.false_eq_true, if_false]
  simp only [ne_eq] at e1 e2
  rw [e1, e2]
theorem lft_len (q : List Nat) (k x : Nat) : (lft (q.take k) x).length ≤ k := by
  have h1 := List.length_filter_le (fun y => decide (y ≠ x)) (q.take k)
  rw [List.length_take] at h1
  unfold lft; omega
theorem subT {n : Nat} {m m' : List (Nat × LV)} {nx0 nx : Nat} {mo P : List (Nat × LO)} {Z : List Zq} (h1 : readB m (m'.map (·.1)) = some m') (hu : m'.all (fun p => p.2.under nx) = true) (hP : ∀ p ∈ P, Lw.look p.1 mo = some p.2 ∧ p.1 < nx ∧ p.2.under nx = true) (hS : ∀ j, j < Z.length → Lw.look (j + 2) mo = Lw.look (j + 2) (qS Z)) (hl : Z.length + 2 ≤ nx) : Sub ⟨n, m⟩ ⟨nx0, mo⟩ ⟨n, m'⟩ ⟨nx, P ++ qS Z⟩ := by
  refine ⟨rfl, fun p hp => ⟨readB_look _ _ _ h1 p hp, List.all_eq_true.1 hu p hp⟩, fun p hp => ?_⟩
  rcases List.mem_append.1 hp with hp | hp
  · exact hP p hp
  · obtain ⟨j, z, hz, rfl⟩ := qS_mem.1 hp
    have hj := lt_of_get hz
    exact ⟨(hS j hj).trans (qS_look hz), (by show j + 2 < nx; omega), oF_all_under (cI .i64) z.1 nx⟩
theorem at1_set2 {mo : List (Nat × LO)} {Z : List Zq} {g : Nat → Nat} {a b ia ib N off len : Nat} {z : Zq} (ha : a < Z.length) (hb : b < Z.length) (hab : a ≠ b) (ga : g (a + 2) = ia) (gb : g (b + 2) = ib) (go : ∀ j, j ≠ a → j ≠ b → j < Z.length → g (j + 2) = j + 2) (h1 : Lw.look 1 mo = some (.arr 1 (((qR Z).set b [.own ib N off len]).set a [.own ia 0 0 0]))) (e1 : z.1.length = N) (e2 : z.2 = off) (e3 : z.1.length - z.2 = len)
    (hi : Lw.look ia mo = some (.arr 1 [])) (hib : Lw.look ib mo = some (.arr 1 (oF (cI .i64) z.1))) (ho : ∀ j, j ≠ a → j ≠ b → j < Z.length → Lw.look (j + 2) mo = Lw.look (j + 2) (qS Z)) : At1 mo g ((Z.set b z).set a ([], 0)) := by
  subst e1; subst e2; subst e3; subst ga; subst gb
  have hl : ((Z.set b z).set a ([], 0)).length = Z.length := by simp
  have key : ∀ (j : Nat) (y : Zq), ((Z.set b z).set a ([], 0))[j]? = some y → (j = a ∧ y = ([], 0)) ∨ (j ≠ a ∧ j = b ∧ y = z) ∨ (j ≠ a ∧ j ≠ b ∧ Z[j]? = some y) := by
    intro j y hy
    by_cases e : j = a
    · subst e
      rw [List.getElem?_set_self (by simpa using ha)] at hy
      exact .inl ⟨rfl, (Option.some.inj hy).symm⟩
    · rw [List.getElem?_set_ne (Ne.symm e)] at hy
      by_cases f : j = b
      · subst f
        rw [List.getElem?_set_self hb] at hy
        exact .inr (.inl ⟨e, rfl, (Option.some.inj hy).symm⟩)
      · rw [List.getElem?_set_ne (Ne.symm f)] at hy
        exact .inr (.inr ⟨e, f, hy⟩)
  refine ⟨?_, fun j y hy => ?_⟩
  · rw [h1, qR_ren (R := ((qR Z).set b [.own (g (b + 2)) z.1.length z.2 (z.1.length - z.2)]).set a [.own (g (a + 2)) 0 0 0]) (by simp [qR_len])]
    intro j y hy
    have hj := lt_of_get hy
    rw [hl] at hj
    rcases key j y hy with ⟨rfl, rfl⟩ | ⟨e, rfl, rfl⟩ | ⟨e, f, hy⟩
    · rw [List.getElem?_set_self (by simp [qR_len]; exact hj)]; rfl
    · rw [List.getElem?_set_ne (Ne.symm e), List.getElem?_set_self (by rw [qR_len]; exact hj)]
    · rw [List.getElem?_set_ne (Ne.symm e), List.getElem?_set_ne (Ne.symm f), qR_get hy, go j e f hj]
  · have hj := lt_of_get hy
    rw [hl] at hj
    rcases key j y hy with ⟨rfl, rfl⟩ | ⟨e, rfl, rfl⟩ | ⟨e, f, hy⟩
    · exact hi
    · exact hib
    · rw [go j e f hj, ho j e f hj, qS_look hy]
end Go.Proofs.Ytlikcejcdnkncaa
