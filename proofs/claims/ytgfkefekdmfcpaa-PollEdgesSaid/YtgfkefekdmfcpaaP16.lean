/- Chapter 09: PollEdges, in plain words. -/
import Derived.Test.YtgfkefekdmfcpaaP7
set_option linter.unusedSimpArgs false
set_option linter.unusedVariables false
namespace Go.Proofs.Ytgfkefekdmfcpaa
open Go.Lw
attribute [local irreducible] LK LOps LW
def ND {α : Type} (l : List (Int × α)) : Prop := (l.map (·.1)).Nodup
theorem aget_none_of {α : Type} {l : List (Int × α)} {a : Int} (h : a ∉ l.map (·.1)) : aget a l = none := by
  induction l with
  | nil => rfl
  | cons p l ih =>
    obtain ⟨k, v⟩ := p
    simp only [List.map_cons, List.mem_cons, not_or] at h
    rw [aget, if_neg h.1]; exact ih h.2
theorem aget_in {α : Type} {l : List (Int × α)} (hn : ND l) {a : Int} {v : α} : aget a l = some v ↔ (a, v) ∈ l := by
  induction l with
  | nil => simp [aget]
  | cons p l ih =>
    obtain ⟨k, u⟩ := p
    simp only [ND, List.map_cons, List.nodup_cons] at hn
    by_cases e : a = k
    · subst e
      simp only [aget, if_true, Option.some.injEq, List.mem_cons, Prod.mk.injEq, true_and]
      constructor
      · rintro rfl; exact .inl rfl
      · rintro (rfl | h)
        · rfl
        · exact absurd (List.mem_map.2 ⟨_, h, rfl⟩) hn.1
    · simp only [aget, if_neg e, List.mem_cons, Prod.mk.injEq]
      rw [ih hn.2]
      exact ⟨fun h => .inr h, fun h => h.elim (fun h => absurd h.1 e) id⟩
theorem keys_aput {α : Type} (a : Int) (x : α) : ∀ l : List (Int × α), (aput a x l).map (·.1) = if a ∈ l.map (·.1) then l.map (·.1) else l.map (·.1) ++ [a]
  | [] => by simp [aput]
  | (k, u) :: l => by
    by_cases e : a = k
    · subst e; simp [aput]
    · have ih := keys_aput a x l
      by_cases hm : a ∈ l.map (·.1)
      · rw [if_pos hm] at ih
        rw [aput, if_neg e, List.map_cons, List.map_cons, ih, if_pos (List.mem_cons_of_mem _ hm)]
      · rw [if_neg hm] at ih
        rw [aput, if_neg e, List.map_cons, List.map_cons, ih, if_neg (by simp only [List.mem_cons, not_or]; exact ⟨e, hm⟩)]; rfl
theorem ND.aput {α : Type} {l : List (Int × α)} (h : ND l) (a : Int) (x : α) : ND (aput a x l) := by
  unfold ND at *
  rw [keys_aput]
  split
  · exact h
  · rename_i hm
    rw [List.nodup_append]
    refine ⟨h, by simp, fun p hp q hq => ?_⟩
    simp only [List.mem_singleton] at hq; subst hq
    rintro rfl; exact hm hp
theorem adel_sub {α : Type} (a : Int) : ∀ l : List (Int × α), (adel a l).Sublist l
  | [] => by simp [adel]
  | (k, u) :: l => by
    by_cases e : a = k
    · simp [adel, e]
    · simp only [adel, if_neg e]; exact (adel_sub a l).cons_cons _
theorem ND.adel {α : Type} {l : List (Int × α)} (h : ND l) (a : Int) : ND (adel a l) := h.sublist ((adel_sub a l).map _)
theorem aget_adel {α : Type} {l : List (Int × α)} (h : ND l) (n a : Int) : aget n (adel a l) = if n = a then none else aget n l := by
  induction l with
  | nil => simp [adel, aget]
  | cons p l ih =>
    obtain ⟨k, u⟩ := p
    have h' := h
    simp only [ND, List.map_cons, List.nodup_cons] at h
    by_cases e : a = k
    · subst e
      simp only [adel, if_true]
      by_cases e2 : n = a
      · subst e2; rw [if_pos rfl]; exact aget_none_of h.1
      · rw [if_neg e2, aget, if_neg e2]
    · simp only [adel, if_neg e, aget]
      by_cases e2 : n = k
      · subst e2; rw [if_pos rfl, if_pos rfl, if_neg (Ne.symm e)]
      · rw [if_neg e2, if_neg e2]; exact ih h.2
theorem adel_len {α : Type} (a : Int) : ∀ l : List (Int × α), (adel a l).length + (if (aget a l).isSome then 1 else 0) = l.length
  | [] => by simp [adel, aget]
  | (k, u) :: l => by
    by_cases e : a = k
    · subst e; simp [adel, aget]
    · have := adel_len a l
      simp only [adel, aget, if_neg e, List.length_cons]
      omega
/-- How many are so. -/
def ctF (p : Fd → Bool) (f : List Fd) : Nat := (f.filter p).length
theorem ctF_cons (p : Fd → Bool) (x : Fd) (f : List Fd) : ctF p (x :: f) = (if p x = true then 1 else 0) + ctF p f := by
  unfold ctF
  by_cases e : p x = true
  · rw [List.filter_cons, if_pos e, if_pos e, List.length_cons]; omega
  · rw [List.filter_cons, if_neg e, if_neg e]; omega
theorem ctF_set (p : Fd → Bool) : ∀ {f : List Fd} {k : Nat} {x : Fd} (y : Fd), f[k]? = some x → ctF p (f.set k y) + (if p x = true then 1 else 0) = ctF p f + (if p y = true then 1 else 0)
  | [], k, x, y, h => by simp at h
  | a :: f, 0, x, y, h => by
    obtain rfl : a = x := by simpa using h
    simp only [List.set_cons_zero, ctF_cons]; omega
  | a :: f, k + 1, x, y, h => by
    have := ctF_set p (f := f) (k := k) y (by simpa using h)
    simp only [List.set_cons_succ, ctF_cons]; omega
def isW (x : Fd) : Bool := x.who != -1
def isR (x : Fd) : Bool := x.rd
theorem waK_ct (f : List Fd) : (waK f).length = ctF isW f := by simp only [waK, List.length_map]; rfl
/-- What the law remembers says what the descriptors say. -/
structure Rem (n : Nat) (f : List Fd) (W : List (Int × Int)) (R O : List (Int × Bool)) : Prop where
  ok : okF f
  len : f.length = n
  nW : ND W
  nR : ND R
  nO : ND O
  gW : ∀ (j : Nat) (x : Fd), f[j]? = some x → aget (j : Int) W = if x.who = -1 then none else some x.who
  kW : ∀ p ∈ W, ∃ j : Nat, p.1 = (j : Int) ∧ j < n
  gR : ∀ (j : Nat) (x : Fd), f[j]? = some x → mb R (j : Int) = x.rd
  gO : ∀ (j : Nat) (x : Fd), f[j]? = some x → mb O (j : Int) = x.op
  cW : W.length = ctF isW f
theorem Rem.has {n : Nat} {f : List Fd} {W : List (Int × Int)} {R O : List (Int × Bool)} (h : Rem n f W R O) {id : Int} (h0 : 0 ≤ id) : W.any (fun p => p.2 == id) = hasW f id := by
  rw [Bool.eq_iff_iff, hasW, List.any_eq_true, List.any_eq_true]
  constructor
  · rintro ⟨p, hp, e⟩
    obtain ⟨j, e1, hj⟩ := h.kW p hp
    obtain ⟨x, hx⟩ := idx_all (show j < f.length by rw [h.len]; exact hj)
    have hg := h.gW j x hx
    have : aget p.1 W = some p.2 := (aget_in h.nW).2 hp
    rw [e1, hg] at this
    split at this
    · cases this
    · exact ⟨x, List.mem_of_getElem? hx, by rw [Option.some.inj this]; exact e⟩
  · rintro ⟨x, hx, e⟩
    obtain ⟨j, hj⟩ := List.mem_iff_getElem?.1 hx
    have hg := h.gW j x hj
    have he : x.who = id := by simpa using e
    rw [if_neg (by omega)] at hg
    exact ⟨_, (aget_in h.nW).1 hg, e⟩
theorem set_get {f : List Fd} {k j : Nat} {x y z : Fd} (hx : f[k]? = some x) (hz : (f.set k y)[j]? = some z) : (j = k ∧ z = y) ∨ (j ≠ k ∧ f[j]? = some z) := by
  rw [List.getElem?_set] at hz
  split at hz
  · rename_i e
    split at hz
    · exact .inl ⟨e.symm, (Option.some.inj hz).symm⟩
    · cases hz
  · rename_i e; exact .inr ⟨Ne.symm e, hz⟩
theorem Rem.new (n : Nat) (hn : n ≤ 16) : Rem n (List.replicate n shutF) [] [] [] := by
  have hx : ∀ (j : Nat) (x : Fd), (List.replicate n shutF)[j]? = some x → x = shutF := fun j x h => (List.mem_replicate.1 (List.mem_of_getElem? h)).2
  have ok : okF (List.replicate n shutF) := by
    refine ⟨fun x hx => ?_, ?_, by simpa using hn⟩
    · rw [(List.mem_replicate.1 hx).2]; decide
    · rw [List.pairwise_replicate]; exact .inr fun _ => rfl
  refine ⟨ok, by simp, by simp [ND], by simp [ND], by simp [ND], fun j x h => by rw [hx j x h]; rfl, by simp, fun j x h => by rw [hx j x h]; rfl, fun j x h => by rw [hx j x h]; rfl, ?_⟩
  have : (List.replicate n shutF).filter isW = [] := List.filter_eq_nil_iff.2 fun x hx => by rw [(List.mem_replicate.1 hx).2]; decide
  rw [ctF, this]; rfl
/-- One descriptor turns. -/
theorem Rem.turn {n : Nat} {f : List Fd} {W W' : List (Int × Int)} {R O R' O' : List (Int × Bool)} (h : Rem n f W R O) {k : Nat} {x y : Fd} (hx : f[k]? = some x) (ok : okF (f.set k y))
    (nW : ND W') (nR : ND R') (nO : ND O') (gW : ∀ a, aget a W' = if a = (k : Int) then (if y.who = -1 then none else some y.who) else aget a W) (gR : ∀ a, mb R' a = if a = (k : Int) then y.rd else mb R a) (gO : ∀ a, mb O' a = if a = (k : Int) then y.op else mb O a)
    (cW : W'.length + (if x.who = -1 then 0 else 1) = W.length + (if y.who = -1 then 0 else 1)) : Rem n (f.set k y) W' R' O' := by
  have hk := lt_of_get hx
  refine ⟨ok, by rw [List.length_set]; exact h.len, nW, nR, nO, fun j z hz => ?_, fun p hp => ?_, fun j z hz => ?_, fun j z hz => ?_, ?_⟩
  · rw [gW]
    rcases set_get hx hz with ⟨rfl, rfl⟩ | ⟨e, hz⟩
    · rw [if_pos rfl]
    · rw [if_neg (by omega)]; exact h.gW j z hz
  · have hp2 := (aget_in nW).2 hp
    rw [gW] at hp2
    split at hp2
    · rename_i e; exact ⟨k, e, by rw [← h.len]; exact hk⟩
    · exact h.kW (p.1, p.2) ((aget_in h.nW).1 hp2)
  · rw [gR]
    rcases set_get hx hz with ⟨rfl, rfl⟩ | ⟨e, hz⟩
    · rw [if_pos rfl]
    · rw [if_neg (by omega)]; exact h.gR j z hz
  · rw [gO]
    rcases set_get hx hz with ⟨rfl, rfl⟩ | ⟨e, hz⟩
    · rw [if_pos rfl]
    · rw [if_neg (by omega)]; exact h.gO j z hz
  · have := ctF_set isW y hx
    have := h.cW
    have e1 : (if isW x = true then 1 else 0) = if x.who = -1 then 0 else 1 := by by_cases e : x.who = -1 <;> simp [isW, e]
    have e2 : (if isW y = true then 1 else 0) = if y.who = -1 then 0 else 1 := by by_cases e : y.who = -1 <;> simp [isW, e]
    omega
theorem mb_adel {l : List (Int × Bool)} (h : ND l) (a n : Int) : mb (adel a l) n = if n = a then false else mb l n := by
  unfold mb; rw [aget_adel h]; split <;> rfl
theorem Rem.inF {n : Nat} {f : List Fd} {W : List (Int × Int)} {R O : List (Int × Bool)} (h : Rem n f W R O) {k : Nat} (hk : k < n) : inF f k := ⟨h.ok, by omega, by rw [h.len]; omega⟩
theorem rd_who {f : List Fd} (h : okF f) {k : Nat} {x : Fd} (hx : f[k]? = some x) : x.rd = true → x.who = -1 := (okF_at h hx).2.2
/-- Opened. -/
theorem Rem.open {n : Nat} {f : List Fd} {W : List (Int × Int)} {R O : List (Int × Bool)} (h : Rem n f W R O) {k : Nat} {x : Fd} (hx : f[k]? = some x) (ho : x.op = false) : opE f k = 0 ∧ opL f k = f.set k openF ∧ Rem n (f.set k openF) W R (aput k true O) ∧ ctF isR (f.set k openF) = ctF isR f := by
  have hk := lt_of_get hx
  have hi := h.inF (k := k) (by rw [← h.len]; exact hk)
  have hg : getF f k = x := by simp [getF, List.getD_eq_getElem?_getD, hx]
  have e : opE f k = 0 := by rw [opE, if_pos hi, hg, ho]; rfl
  obtain ⟨_, _, hl, hs, hok⟩ := open_ok e
  rw [hg] at hs
  subst hs
  rw [hl] at hok
  rw [Int.toNat_natCast] at hl hok
  refine ⟨e, hl, h.turn hx hok h.nW h.nR (h.nO.aput _ _) (fun a => ?_) (fun a => ?_) (fun a => ?_) rfl, ?_⟩
  · split
    · rename_i e; rw [e, h.gW k _ hx]; rfl
    · rfl
  · split
    · rename_i e; rw [e, h.gR k _ hx]; rfl
    · rfl
  · rw [mb_aput]; rfl
  · have := ctF_set isR openF hx
    have e1 : (if isR shutF = true then 1 else 0) = 0 := rfl
    have e2 : (if isR openF = true then 1 else 0) = 0 := rfl
    omega
theorem Rem.openNo {n : Nat} {f : List Fd} {W : List (Int × Int)} {R O : List (Int × Bool)} (h : Rem n f W R O) {k : Nat} {x : Fd} (hx : f[k]? = some x) (ho : x.op = true) : opE f k = 6 := by
  have hk := lt_of_get hx
  have hi := h.inF (k := k) (by rw [← h.len]; exact hk)
  have hg : getF f k = x := by simp [getF, List.getD_eq_getElem?_getD, hx]
  rw [opE, if_pos hi, hg, ho]; rfl
theorem Rem.shutNo {n : Nat} {f : List Fd} {W : List (Int × Int)} {R O : List (Int × Bool)} (h : Rem n f W R O) {k : Nat} {x : Fd} (hx : f[k]? = some x) (ho : x.op = false) : shE f k = 5 ∧ x = shutF := by
  have hk := lt_of_get hx
  have hi := h.inF (k := k) (by rw [← h.len]; exact hk)
  have hg : getF f k = x := by simp [getF, List.getD_eq_getElem?_getD, hx]
  refine ⟨?_, (okF_at h.ok hx).2.1 ho⟩
  rw [shE, if_pos hi, hg, ho]; rfl
/-- Shut. -/
theorem Rem.shut {n : Nat} {f : List Fd} {W : List (Int × Int)} {R O : List (Int × Bool)} (h : Rem n f W R O) {k : Nat} {x : Fd} (hx : f[k]? = some x) (ho : x.op = true) : shE f k = 0 ∧ shW f k = x.who ∧ shL f k = f.set k shutF ∧ Rem n (f.set k shutF) (adel k W) (adel k R) (adel k O) ∧ ctF isR (f.set k shutF) ≤ ctF isR f := by
  have hk := lt_of_get hx
  have hi := h.inF (k := k) (by rw [← h.len]; exact hk)
  have hg : getF f k = x := by simp [getF, List.getD_eq_getElem?_getD, hx]
  have e : shE f k = 0 := by rw [shE, if_pos hi, hg, ho]; rfl
  obtain ⟨_, _, hl, _, hw, hok, _⟩ := shut_ok e
  rw [hg] at hw
  rw [hl] at hok
  rw [Int.toNat_natCast] at hl hok
  refine ⟨e, hw, hl, h.turn hx hok (h.nW.adel _) (h.nR.adel _) (h.nO.adel _) (fun a => ?_) (fun a => ?_) (fun a => ?_) ?_, ?_⟩
  · rw [aget_adel h.nW]; rfl
  · rw [mb_adel h.nR]; rfl
  · rw [mb_adel h.nO]; rfl
  · have := adel_len (k : Int) W
    rw [h.gW k x hx] at this
    by_cases e1 : x.who = -1
    · simp [e1, shutF] at this ⊢; exact this
    · simp [e1, shutF] at this ⊢; exact this
  · have := ctF_set isR shutF hx
    have e2 : (if isR shutF = true then 1 else 0) = 0 := rfl
    omega
/-- Fired. -/
theorem Rem.fire {n : Nat} {f : List Fd} {W : List (Int × Int)} {R O : List (Int × Bool)} (h : Rem n f W R O) {k : Nat} {x : Fd} (hx : f[k]? = some x) (ho : x.op = true) : shE f k = 0 ∧ shW f k = x.who ∧
    (x.who = -1 → fiL f k = f.set k ⟨true, true, -1⟩ ∧ Rem n (f.set k ⟨true, true, -1⟩) W (aput k true R) O ∧ ctF isR (f.set k ⟨true, true, -1⟩) ≤ ctF isR f + 1) ∧
    (x.who ≠ -1 → fiL f k = f.set k openF ∧ Rem n (f.set k openF) (adel k W) R O ∧ ctF isR (f.set k openF) = ctF isR f) := by
  have hk := lt_of_get hx
  have hi := h.inF (k := k) (by rw [← h.len]; exact hk)
  have hg : getF f k = x := by simp [getF, List.getD_eq_getElem?_getD, hx]
  have e : shE f k = 0 := by rw [shE, if_pos hi, hg, ho]; rfl
  obtain ⟨_, _, _, hl, hw, _, hok⟩ := shut_ok e
  rw [hg] at hw hl
  rw [hl] at hok
  rw [Int.toNat_natCast] at hl hok
  refine ⟨e, hw, fun hwho => ?_, fun hwho => ?_⟩
  · have hb : (x.who == -1) = true := by simpa using hwho
    rw [hb] at hl hok
    refine ⟨hl, h.turn hx hok h.nW (h.nR.aput _ _) h.nO (fun a => ?_) (fun a => ?_) (fun a => ?_) (by rw [hwho]), ?_⟩
    · split
      · rename_i e; rw [e, h.gW k _ hx, hwho]
      · rfl
    · rw [mb_aput]
    · split
      · rename_i e; rw [e, h.gO k _ hx, ho]
      · rfl
    · have := ctF_set isR ⟨true, true, -1⟩ hx
      have e2 : (if isR ⟨true, true, -1⟩ = true then 1 else 0) = 1 := rfl
      omega
  · have hb : (x.who == -1) = false := by simpa using hwho
    rw [hb] at hl hok
    have hr : x.rd = false := by
      cases e : x.rd with
      | false => rfl
      | true => exact absurd (rd_who h.ok hx e) hwho
    refine ⟨hl, h.turn hx hok (h.nW.adel _) h.nR h.nO (fun a => ?_) (fun a => ?_) (fun a => ?_) ?_, ?_⟩
    · rw [aget_adel h.nW]; rfl
    · split
      · rename_i e; rw [e, h.gR k _ hx, hr]; rfl
      · rfl
    · split
      · rename_i e; rw [e, h.gO k _ hx, ho]; rfl
      · rfl
    · have := adel_len (k : Int) W
      rw [h.gW k x hx] at this
      simp [hwho, openF] at this ⊢; exact this
    · have := ctF_set isR openF hx
      have e2 : (if isR openF = true then 1 else 0) = 0 := rfl
      have e3 : (if isR x = true then 1 else 0) = 0 := by simp [isR, hr]
      omega
/-- Armed. -/
theorem Rem.arm {n : Nat} {f : List Fd} {W : List (Int × Int)} {R O : List (Int × Bool)} (h : Rem n f W R O) {k : Nat} {x : Fd} (hx : f[k]? = some x) {id : Int} :
    let can := x.op && decide (id ≥ 0) && !(W.any fun p => p.2 == id) && !(x.who != -1)
    (can = false → arE f k id ≠ 0 ∧ arB f k id = false) ∧
    (can = true → arE f k id = 0 ∧ arB f k id = x.rd ∧
      (x.rd = true → arL f k id = f.set k openF ∧ Rem n (f.set k openF) W (adel k R) O ∧ ctF isR (f.set k openF) + 1 = ctF isR f) ∧
      (x.rd = false → arL f k id = f.set k ⟨true, false, id⟩ ∧ Rem n (f.set k ⟨true, false, id⟩) (aput k id W) R O ∧ ctF isR (f.set k ⟨true, false, id⟩) = ctF isR f)) := by
  have hk := lt_of_get hx
  have hi := h.inF (k := k) (by rw [← h.len]; exact hk)
  have hg : getF f k = x := by simp [getF, List.getD_eq_getElem?_getD, hx]
  intro can
  constructor
  · intro hc
    have hne : arE f k id ≠ 0 := by
      intro e
      obtain ⟨_, h0, ho, hh, hw, _⟩ := arm_ok e
      rw [hg] at ho hw
      have := h.has h0
      rw [hh] at this
      simp only [can, ho, this, hw, decide_eq_true h0] at hc
      revert hc; simp
    exact ⟨hne, by rw [arB, if_neg hne]⟩
  · intro hc
    simp only [can, Bool.and_eq_true, decide_eq_true_eq, Bool.not_eq_true', bne_eq_false_iff_eq] at hc
    obtain ⟨⟨⟨ho, h0⟩, hh⟩, hw⟩ := hc
    rw [h.has h0] at hh
    have e : arE f k id = 0 := by rw [arE, if_pos ⟨hi, h0⟩, hg, ho, hh, hw]; rfl
    obtain ⟨_, _, _, _, _, hl, hb, hok⟩ := arm_ok e
    rw [hg] at hl hb
    rw [hl] at hok
    rw [Int.toNat_natCast] at hl hok
    refine ⟨e, hb, fun hr => ?_, fun hr => ?_⟩
    · rw [armF, hr] at hl hok
      simp only [if_true] at hl hok
      refine ⟨hl, h.turn hx hok h.nW (h.nR.adel _) h.nO (fun a => ?_) (fun a => ?_) (fun a => ?_) (by rw [hw]; rfl), ?_⟩
      · split
        · rename_i e; rw [e, h.gW k _ hx, hw]; rfl
        · rfl
      · rw [mb_adel h.nR]; rfl
      · split
        · rename_i e; rw [e, h.gO k _ hx, ho]; rfl
        · rfl
      · have := ctF_set isR openF hx
        have e2 : (if isR openF = true then 1 else 0) = 0 := rfl
        have e3 : (if isR x = true then 1 else 0) = 1 := by simp [isR, hr]
        omega
    · rw [armF, hr] at hl hok
      simp only [Bool.false_eq_true, if_false] at hl hok
      have hid : id ≠ -1 := by omega
      refine ⟨hl, h.turn hx hok (h.nW.aput _ _) h.nR h.nO (fun a => ?_) (fun a => ?_) (fun a => ?_) ?_, ?_⟩
      · rw [aget_aput]; simp [hid]
      · split
        · rename_i e; rw [e, h.gR k _ hx, hr]
        · rfl
      · split
        · rename_i e; rw [e, h.gO k _ hx, ho]
        · rfl
      · rw [aput_len, h.gW k x hx, hw]; simp [hid]
      · have := ctF_set isR ⟨true, false, id⟩ hx
        have e2 : (if isR ⟨true, false, id⟩ = true then 1 else 0) = 0 := rfl
        have e3 : (if isR x = true then 1 else 0) = 0 := by simp [isR, hr]
        omega
end Go.Proofs.Ytgfkefekdmfcpaa
