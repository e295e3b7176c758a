/- A logical layer over the calculus of walks: values and stores, statements, operations. -/
import Derived.Below
import Derived.WalkKit
import Derived.Laws.OwnMore
import Derived.Laws.MakeOwn
import Derived.Laws.BytesString
import Derived.RangeFuncRecord
import Derived.Laws.IdiomRangeMap
import Derived.Deep.LoopGhost
import Derived.Sort.LoopGhostIn
import Derived.TacticsIn
import Derived.LoopNIn
import Derived.OrdersIn
import Derived.Laws.StructEq
import Derived.Laws.BytesArg
import Derived.Lib.ConvBytes
import Derived.MapKept
set_option linter.unusedVariables false
set_option linter.unusedSimpArgs false
namespace Go.Lw

/-- How a slice that is only read may stand: nil; with no room behind; with some; any of these. -/
inductive Kd where
  | nil | tight | loose | flat | any
  deriving DecidableEq

/-- A value that names nothing of our own: 'sc' a value as it is; 'ro' a slice that is only read, by what it holds. -/
inductive PV where
  | sc (v : Value)
  | ro (k : Kd) (sz : Nat) (rows : List (List PV))
  | rm (es : List (Value × PV))
  /-- The very map, that is only read. -/
  | rmx (V : Value) (es : List (Value × PV))
  deriving Inhabited

/-- A logical value: 'own' a view of an array of our own; 'ptr' a cell of an object of our own; 'rp' a cell of a slice that is only read. -/
inductive LV where
  | pv (p : PV)
  | own (id n off len : Nat)
  | ptr (id n i j : Nat)
  | rp (sz : Nat) (rows : List (List PV)) (i j : Nat)
  | agg (l : List LV)
  | tup (l : List LV)
  | fn (f : Fn) (l : List LV)
  | mp (id : Nat)
  deriving Inhabited

/-- Where an object of our own lies: its block (none: a nil slice), how many rows it has, and may have. -/
structure Loc where
  blk : Option Nat
  n : Nat
  cap : Nat
  sz : Nat
  e : TypeId

structure Env where
  f : Nat → Option Loc
  U : Nat → Prop
  F : Nat → Prop

def Env.Own (E : Env) (b : Nat) : Prop := ∃ id L, E.f id = some L ∧ L.blk = some b
def Prot (E : Env) (w : World) (b : Nat) : Prop := b < w.heap.size ∧ ¬ E.Own b ∧ ¬ E.F b

/-- The view of an array. -/
def Loc.isSlice (L : Loc) (off len : Nat) (V : Value) : Prop :=
  match L.blk with
  | none => (∃ a, V = .slice a 0 0) ∧ off = 0 ∧ len = 0
  | some b => off + len ≤ L.n ∧ ∃ a : Addr, V = .slice (some a) len (L.cap - off) ∧ (0 < L.cap - off → a = ⟨b, off * L.sz, none⟩)

/-- How a value that names nothing of our own stands. 'T': the blocks that stay. -/
inductive PRel (T : Nat → Prop) (w : World) : PV → Value → Prop
  | sc (v : Value) : PRel T w (.sc v) v
  | ronil (k : Kd) (sz : Nat) (hk : k = .nil ∨ k = .any ∨ k = .flat) : PRel T w (.ro k sz []) (.slice none 0 0)
  | ro (k : Kd) (sz : Nat) (rows : List (List PV)) (a : Addr) (cap : Nat) (g : Nat → Value)
      (hk : (k = .tight ∨ k = .flat) ∧ cap = rows.length ∨ k ≠ .nil ∧ k ≠ .tight ∧ k ≠ .flat ∧ rows.length ≤ cap) (hm : cap ≤ maxLen) (hs : ∀ r ∈ rows, r.length = sz)
      (hb : rows.flatten ≠ [] → a.spot = none ∧ T a.block)
      (hc : ∀ j, j < rows.flatten.length → w.cell? (a.add j) = some (g j) ∧ (g j).oneCell' = true)
      (hv : ∀ j (hj : j < rows.flatten.length), PRel T w rows.flatten[j] (g j)) : PRel T w (.ro k sz rows) (.slice (some a) rows.length cap)
  | rm (es : List (Value × PV)) (b : Nat) (kvs : Array MapEntry) (clock : Nat) (e : Nat → MapEntry) (hb : T b) (hh : w.heap[b]? = some (.map kvs clock)) (hl : kvs.size = es.length)
      (hk : ∀ j (hj : j < es.length), kvs[j]? = some (e j) ∧ (e j).key = es[j].1 ∧ (e j).val.oneCell' = true) (hc : ∀ (j : Nat) (e : MapEntry), kvs[j]? = some e → e.born < clock)
      (ho : ∀ (i j : Nat) (e e' : MapEntry), kvs[i]? = some e → kvs[j]? = some e' → i < j → e.born < e'.born)
      (hv : ∀ j (hj : j < es.length), PRel T w es[j].2 (e j).val) : PRel T w (.rm es) (.map (some b))
  | rmx (V : Value) (es : List (Value × PV)) (h : PRel T w (.rm es) V) : PRel T w (.rmx V es) V

inductive VRel (E : Env) (w : World) : LV → Value → Prop
  | pv (p : PV) (V : Value) (h : PRel (Prot E w) w p V) : VRel E w (.pv p) V
  | own (id n off len : Nat) (V : Value) (h1 : E.U id) (hp : ∃ a l c, V = .slice a l c) (h : ∀ L, E.f id = some L → n ≤ L.n ∧ (L.n = n → L.isSlice off len V)) : VRel E w (.own id n off len) V
  | ptr (id n i j : Nat) (V : Value) (h1 : E.U id) (hp : ∃ a, V = .pointer a)
      (h : ∀ L, E.f id = some L → n ≤ L.n ∧ (L.n = n → ∃ b, L.blk = some b ∧ V = .pointer (some ⟨b, i * L.sz + j, none⟩))) : VRel E w (.ptr id n i j) V
  | rp (sz : Nat) (rows : List (List PV)) (i j : Nat) (a : Addr) (g : Nat → Value) (hs : ∀ r ∈ rows, r.length = sz)
      (hb : a.spot = none ∧ Prot E w a.block)
      (hc : ∀ j, j < rows.flatten.length → w.cell? (a.add j) = some (g j) ∧ (g j).oneCell' = true)
      (hv : ∀ j (hj : j < rows.flatten.length), PRel (Prot E w) w rows.flatten[j] (g j)) : VRel E w (.rp sz rows i j) (.pointer (some (a.add (i * sz + j))))
  | agg (l : List LV) (Vs : List Value) (hl : l.length = Vs.length) (h : ∀ i (h1 : i < l.length) (h2 : i < Vs.length), VRel E w l[i] Vs[i]) : VRel E w (.agg l) (.agg Vs.toArray)
  | tup (l : List LV) (Vs : List Value) (hl : l.length = Vs.length) (h : ∀ i (h1 : i < l.length) (h2 : i < Vs.length), VRel E w l[i] Vs[i]) : VRel E w (.tup l) (.tuple Vs.toArray)
  | fn (f : Fn) (l : List LV) (Vs : List Value) (hl : l.length = Vs.length) (h : ∀ i (h1 : i < l.length) (h2 : i < Vs.length), VRel E w l[i] Vs[i]) : VRel E w (.fn f l) (.func f #[] Vs.toArray)
  | mp (id : Nat) (V : Value) (h1 : E.U id) (hp : ∃ r, V = .map r) (h : ∀ L, E.f id = some L → L.n = 0 → ∃ b, L.blk = some b ∧ V = .map (some b)) : VRel E w (.mp id) V

theorem addr_add_block (a : Addr) (n : Nat) : (a.add n).block = a.block := by unfold Addr.add; split <;> rfl

theorem cell_of_heap {w w' : World} {a : Addr} (h : w'.heap[a.block]? = w.heap[a.block]?) : w'.cell? a = w.cell? a := by
  unfold World.cell?; rw [h]

theorem PRel.mono {T T' : Nat → Prop} {w w' : World} (hx : ∀ b, T b → T' b ∧ w'.heap[b]? = w.heap[b]?) {p : PV} {V : Value} (h : PRel T w p V) : PRel T' w' p V := by
  induction h with
  | sc v => exact .sc v
  | ronil k sz hk => exact .ronil k sz hk
  | ro k sz rows a cap g hk hm hs hb hc hv ih =>
    refine .ro k sz rows a cap g hk hm hs (fun hn => ⟨(hb hn).1, (hx _ (hb hn).2).1⟩) (fun j hj => ?_) (fun j hj => ih j hj)
    have hp := hb (by intro e; rw [e] at hj; simp at hj)
    rw [cell_of_heap (w := w) (by rw [addr_add_block]; exact (hx _ hp.2).2)]
    exact hc j hj
  | rm es b kvs clock e hb hh hl hk hc ho hv ih => exact .rm es b kvs clock e (hx b hb).1 ((hx b hb).2.trans hh) hl hk hc ho (fun j hj => ih j hj)
  | rmx V es h ih => exact .rmx V es ih

mutual
/-- No number of an object of our own from n on stands in it. -/
def LV.under (n : Nat) : LV → Bool
  | .pv _ => true
  | .own id _ _ _ => decide (id < n)
  | .ptr id _ _ _ => decide (id < n)
  | .rp _ _ _ _ => true
  | .agg l => LV.unders n l
  | .tup l => LV.unders n l
  | .fn _ l => LV.unders n l
  | .mp id => decide (id < n)
def LV.unders (n : Nat) : List LV → Bool
  | [] => true
  | x :: r => x.under n && LV.unders n r
end
theorem unders_all (n : Nat) : ∀ l : List LV, LV.unders n l = l.all (·.under n)
  | [] => rfl
  | x :: r => by simp [LV.unders, unders_all n r]
theorem under_agg (n : Nat) (l : List LV) : (LV.agg l).under n = l.all (·.under n) := by rw [LV.under, unders_all]
theorem under_tup (n : Nat) (l : List LV) : (LV.tup l).under n = l.all (·.under n) := by rw [LV.under, unders_all]
theorem under_fn (n : Nat) (f : Fn) (l : List LV) : (LV.fn f l).under n = l.all (·.under n) := by rw [LV.under, unders_all]

/-- It stands as it stood where the objects that it names are as they were, and what stays stays. -/
theorem VRel.move {E E' : Env} {w w' : World} {n : Nat} (hf : ∀ id, id < n → E'.f id = E.f id) (hU : ∀ id, id < n → E.U id → E'.U id) (hp : ∀ b, Prot E w b → Prot E' w' b ∧ w'.heap[b]? = w.heap[b]?) {v : LV} {V : Value} (h : VRel E w v V) (hb : v.under n = true) : VRel E' w' v V := by
  induction h with
  | pv p V h => exact .pv p V (h.mono hp)
  | own id m off len V h1 h2 h =>
    have hi : id < n := by simpa [LV.under] using hb
    exact .own id m off len V (hU id hi h1) h2 (by rw [hf id hi]; exact h)
  | ptr id m i j V h1 h2 h =>
    have hi : id < n := by simpa [LV.under] using hb
    exact .ptr id m i j V (hU id hi h1) h2 (by rw [hf id hi]; exact h)
  | rp sz rows i j a g hs ht hc hv =>
    refine .rp sz rows i j a g hs ⟨ht.1, (hp _ ht.2).1⟩ (fun j hj => ?_) (fun j hj => (hv j hj).mono hp)
    rw [cell_of_heap (w := w) (by rw [addr_add_block]; exact (hp _ ht.2).2)]
    exact hc j hj
  | agg l Vs hl h ih =>
    rw [under_agg, List.all_eq_true] at hb
    exact .agg l Vs hl fun i h1 h2 => ih i h1 h2 (hb _ (List.getElem_mem h1))
  | tup l Vs hl h ih =>
    rw [under_tup, List.all_eq_true] at hb
    exact .tup l Vs hl fun i h1 h2 => ih i h1 h2 (hb _ (List.getElem_mem h1))
  | fn f l Vs hl h ih =>
    rw [under_fn, List.all_eq_true] at hb
    exact .fn f l Vs hl fun i h1 h2 => ih i h1 h2 (hb _ (List.getElem_mem h1))
  | mp id V h1 h2 h =>
    have hi : id < n := by simpa [LV.under] using hb
    exact .mp id V (hU id hi h1) h2 (by rw [hf id hi]; exact h)

/-- One environment and world grown into another: what is not our own stays; our own objects keep their place as long as they keep their number of rows, which never falls. -/
structure Ext (E : Env) (w : World) (E' : Env) (w' : World) : Prop where
  U : ∀ id, E.U id → E'.U id
  F : E'.F = E.F
  ids : ∀ id L', E'.f id = some L' → E.U id → ∃ L, E.f id = some L ∧ L.n ≤ L'.n ∧ (L.n = L'.n → L' = L)
  heap : ∀ b, b < w.heap.size → ¬ E.Own b → w'.heap[b]? = w.heap[b]? ∧ ¬ E'.Own b
  size : w.heap.size ≤ w'.heap.size
  os : w'.os = w.os
  output : w'.output = w.output

theorem Ext.refl (E : Env) (w : World) : Ext E w E w :=
  ⟨fun _ h => h, rfl, fun id L' h _ => ⟨L', h, Nat.le_refl _, fun _ => rfl⟩, fun b _ h => ⟨rfl, h⟩, Nat.le_refl _, rfl, rfl⟩

theorem Ext.trans {E E' E'' : Env} {w w' w'' : World} (h : Ext E w E' w') (k : Ext E' w' E'' w'') : Ext E w E'' w'' := by
  refine ⟨fun i hi => k.U i (h.U i hi), k.F.trans h.F, ?_, ?_, Nat.le_trans h.size k.size, k.os.trans h.os, k.output.trans h.output⟩
  · intro id L'' hL hid
    obtain ⟨L', h1, h2, h3⟩ := k.ids id L'' hL (h.U _ hid)
    obtain ⟨L, g1, g2, g3⟩ := h.ids id L' h1 hid
    refine ⟨L, g1, Nat.le_trans g2 h2, fun e => ?_⟩
    have e1 : L.n = L'.n := by omega
    have e2 : L'.n = L''.n := by omega
    rw [h3 e2, g3 e1]
  · intro b hb ho
    obtain ⟨h1, h2⟩ := h.heap b hb ho
    obtain ⟨k1, k2⟩ := k.heap b (Nat.lt_of_lt_of_le hb h.size) h2
    exact ⟨k1.trans h1, k2⟩

theorem Ext.prot {E E' : Env} {w w' : World} (h : Ext E w E' w') {b : Nat} (hp : Prot E w b) : Prot E' w' b ∧ w'.heap[b]? = w.heap[b]? := by
  obtain ⟨h1, h2, h3⟩ := hp
  obtain ⟨k1, k2⟩ := h.heap b h1 h2
  exact ⟨⟨Nat.lt_of_lt_of_le h1 h.size, k2, by rw [h.F]; exact h3⟩, k1⟩

theorem Ext.tag {E E' : Env} {w w' : World} (hx : Ext E w E' w') {id n : Nat} {R : Loc → Prop} (h1 : E.U id) (h : ∀ L, E.f id = some L → n ≤ L.n ∧ (L.n = n → R L)) :
    ∀ L, E'.f id = some L → n ≤ L.n ∧ (L.n = n → R L) := by
  intro L' hL
  obtain ⟨L, g1, g2, g3⟩ := hx.ids id L' hL h1
  obtain ⟨k1, k2⟩ := h L g1
  refine ⟨Nat.le_trans k1 g2, fun e => ?_⟩
  have e1 : L.n = L'.n := by omega
  rw [g3 e1] at e ⊢
  exact k2 e

theorem VRel.mono {E E' : Env} {w w' : World} (hx : Ext E w E' w') {v : LV} {V : Value} (h : VRel E w v V) : VRel E' w' v V := by
  induction h with
  | pv p V h => exact .pv p V (h.mono fun b hb => hx.prot hb)
  | own id n off len V h1 hp h => exact .own id n off len V (hx.U _ h1) hp (hx.tag h1 h)
  | ptr id n i j V h1 hp h => exact .ptr id n i j V (hx.U _ h1) hp (hx.tag h1 h)
  | rp sz rows i j a g hs hb hc hv =>
    refine .rp sz rows i j a g hs ⟨hb.1, (hx.prot hb.2).1⟩ (fun j hj => ?_) (fun j hj => (hv j hj).mono fun b hb => hx.prot hb)
    rw [cell_of_heap (w := w) (by rw [addr_add_block]; exact (hx.prot hb.2).2)]
    exact hc j hj
  | agg l Vs hl h ih => exact .agg l Vs hl ih
  | tup l Vs hl h ih => exact .tup l Vs hl ih
  | fn f l Vs hl h ih => exact .fn f l Vs hl ih
  | mp id V h1 hp h =>
    refine .mp id V (hx.U _ h1) hp fun L' hL hn => ?_
    obtain ⟨L, g1, g2, g3⟩ := hx.ids id L' hL h1
    have e1 : L.n = L'.n := by omega
    rw [g3 e1] at hn ⊢
    exact h L g1 hn

/-! ### Lists of pairs -/
def look {α : Type} (t : Nat) : List (Nat × α) → Option α
  | [] => none
  | (k, v) :: r => if k = t then some v else look t r
def upd {α : Type} (t : Nat) (x : α) : List (Nat × α) → List (Nat × α)
  | [] => [(t, x)]
  | (k, v) :: r => if k = t then (k, x) :: r else (k, v) :: upd t x r
theorem look_upd {α : Type} (t u : Nat) (x : α) : ∀ l : List (Nat × α), look u (upd t x l) = if t = u then some x else look u l
  | [] => by simp [upd, look]
  | (k, v) :: r => by
    by_cases e : k = t
    · subst e
      by_cases e2 : k = u <;> simp [upd, look, e2]
    · by_cases e2 : k = u
      · subst e2
        simp [upd, look, e, Ne.symm e]
      · simp [upd, look, e, e2, look_upd t u x r]
def del {α : Type} (t : Nat) : List (Nat × α) → List (Nat × α)
  | [] => []
  | (k, v) :: r => if k = t then del t r else (k, v) :: del t r
theorem look_del {α : Type} (t u : Nat) : ∀ l : List (Nat × α), look u (del t l) = if t = u then none else look u l
  | [] => by simp [del, look]
  | (k, v) :: r => by
    by_cases e : k = t
    · subst e
      by_cases e2 : k = u
      · subst e2; simp [del, look_del k k r]
      · simp [del, look, e2, look_del k u r]
    · by_cases e2 : k = u
      · subst e2
        simp [del, look, e, Ne.symm e]
      · simp [del, look, e, e2, look_del t u r]

theorem look_mem0 {α : Type} (t : Nat) (v : α) : ∀ l : List (Nat × α), look t l = some v → (t, v) ∈ l
  | [], h => by simp [look] at h
  | (k, u) :: r, h => by
    simp only [look] at h
    split at h
    · rename_i e; subst e; simp at h; subst h; simp
    · exact List.mem_cons_of_mem _ (look_mem0 t v r h)
theorem look_mapv {α β : Type} (f : α → β) (t : Nat) : ∀ l : List (Nat × α), look t (l.map fun p => (p.1, f p.2)) = (look t l).map f
  | [] => rfl
  | (k, u) :: r => by
    simp only [List.map_cons, look]
    split
    · rfl
    · exact look_mapv f t r

/-! ### Objects of our own -/
inductive LO where
  | arr (sz : Nat) (rows : List (List LV))
  | map (es : List (Value × LV))
  /-- The record of a range over a function: its block; its state; the jump that is pending; the frame's temporaries; the loop's variables, and its body. -/
  | loop (l : Nat) (st : LoopState) (pend : Option Code) (n : Nat) (m : List (Nat × LV)) (ps : Array Tmp) (assign body : Code)
  /-- What ranges over a map that is only read: what that holds, and which entries have been handed out. -/
  | iter (es : List (Value × PV)) (seen : List Nat)

structure LSt where
  nx : Nat
  m : List (Nat × LO)
def LSt.get (σ : LSt) (id : Nat) : Option LO := look id σ.m
def LSt.put (σ : LSt) (id : Nat) (o : LO) : LSt := ⟨if id < σ.nx then σ.nx else id + 1, upd id o σ.m⟩

def ArrAt (E : Env) (w : World) (L : Loc) (flat : List LV) : Prop :=
  (L.blk = none ∧ L.n = 0 ∧ L.cap = 0) ∨
  ∃ b C, L.blk = some b ∧ w.heap[b]? = some (.cells C L.e (0, 0)) ∧ L.n ≤ L.cap ∧ L.cap ≤ maxLen ∧ C.size = L.cap * L.sz ∧
    ∀ j (hj : j < flat.length), ∃ V, C[j]? = some V ∧ V.oneCell' = true ∧ VRel E w flat[j] V

def MapAt (E : Env) (w : World) (L : Loc) (es : List (Value × LV)) : Prop :=
  ∃ b kvs clock, L.blk = some b ∧ w.heap[b]? = some (.map kvs clock) ∧ kvs.size = es.length ∧
    (∀ j (hj : j < es.length), ∃ e, kvs[j]? = some e ∧ e.key = es[j].1 ∧ e.val.oneCell' = true ∧ VRel E w es[j].2 e.val) ∧
    (∀ (j : Nat) (e : MapEntry), kvs[j]? = some e → e.born < clock) ∧ (∀ (i j : Nat) (e e' : MapEntry), kvs[i]? = some e → kvs[j]? = some e' → i < j → e.born < e'.born)

def IterAt (E : Env) (w : World) (L : Loc) (es : List (Value × PV)) (seen : List Nat) : Prop :=
  ∃ b bm kvs clock since c0 seenA, ∃ e : Nat → MapEntry, L.blk = some b ∧ w.heap[b]? = some (.mapIter (some bm) since seenA c0) ∧ Prot E w bm ∧ w.heap[bm]? = some (.map kvs clock) ∧ kvs.size = es.length ∧
    (∀ j (hj : j < es.length), kvs[j]? = some (e j) ∧ (e j).key = es[j].1 ∧ (e j).val.oneCell' = true) ∧ (∀ (j : Nat) (e : MapEntry), kvs[j]? = some e → e.born < since) ∧ (since ≤ c0 ∧ c0 = clock) ∧
    (∀ (i j : Nat) (e e' : MapEntry), kvs[i]? = some e → kvs[j]? = some e' → i < j → e.born < e'.born) ∧
    (∀ j (hj : j < es.length), PRel (Prot E w) w es[j].2 (e j).val) ∧ seenA.toList = seen.map fun j => (e j).born

theorem IterAt.imp {E E' : Env} {w w' : World} (hp : ∀ b, Prot E w b → Prot E' w' b ∧ w'.heap[b]? = w.heap[b]?) {L : Loc} {es : List (Value × PV)} {seen : List Nat} (hb : ∀ b, L.blk = some b → w'.heap[b]? = w.heap[b]?) (h : IterAt E w L es seen) : IterAt E' w' L es seen := by
  obtain ⟨b, bm, kvs, clock, since, c0, seenA, e, g1, g2, g3, g4, g5, g6, g7, g8, g9, g10, g11⟩ := h
  exact ⟨b, bm, kvs, clock, since, c0, seenA, e, g1, (hb b g1).trans g2, (hp bm g3).1, (hp bm g3).2.trans g4, g5, g6, g7, g8, g9, fun j hj => (g10 j hj).mono hp, g11⟩

def ORel (E : Env) (w : World) (L : Loc) : LO → Prop
  | .arr sz rows => L.sz = sz ∧ L.n = rows.length ∧ (∀ r ∈ rows, r.length = sz) ∧ ArrAt E w L rows.flatten
  | .map es => L.n = 0 ∧ MapAt E w L es
  | .loop l st pend n m ps assign body => L.n = 0 ∧ L.blk = some l ∧ ∃ r : Loop, w.heap[l]? = some (.loop r) ∧ r.state = st ∧ r.pending = pend ∧ r.params = ps ∧ r.assign = assign ∧ r.body = body ∧ r.tmps.size = n ∧
      ∀ t v, look t m = some v → VRel E w v (r.tmps.getD t undef)
  | .iter es seen => L.n = 0 ∧ L.sz = 0 ∧ IterAt E w L es seen

theorem ORel.mono {E E' : Env} {w w' : World} (hx : Ext E w E' w') {L : Loc} {o : LO} (hb : ∀ b, L.blk = some b → w'.heap[b]? = w.heap[b]?) (h : ORel E w L o) : ORel E' w' L o := by
  cases o with
  | arr sz rows =>
    obtain ⟨h1, h2, h3, h4⟩ := h
    refine ⟨h1, h2, h3, ?_⟩
    rcases h4 with h4 | ⟨b, C, g1, g2, g3, g4, g5, g6⟩
    · exact .inl h4
    · refine .inr ⟨b, C, g1, (hb b g1).trans g2, g3, g4, g5, fun j hj => ?_⟩
      obtain ⟨V, k1, k2, k3⟩ := g6 j hj
      exact ⟨V, k1, k2, k3.mono hx⟩
  | map es =>
    obtain ⟨h1, b, kvs, clock, g1, g2, g3, g4, g5, g6⟩ := h
    refine ⟨h1, b, kvs, clock, g1, (hb b g1).trans g2, g3, fun j hj => ?_, g5, g6⟩
    obtain ⟨e, k1, k2, k3, k4⟩ := g4 j hj
    exact ⟨e, k1, k2, k3, k4.mono hx⟩
  | loop l st pend n m ps as bd =>
    obtain ⟨h1, h2, r, g1, g2, g3, g4, g5, g6, g7, g8⟩ := h
    exact ⟨h1, h2, r, (hb l h2).trans g1, g2, g3, g4, g5, g6, g7, fun t v hm => (g8 t v hm).mono hx⟩
  | iter es seen => exact ⟨h.1, h.2.1, h.2.2.imp (fun b hp => hx.prot hp) hb⟩

structure Sim (E : Env) (w : World) (σ : LSt) : Prop where
  fresh : ∀ id L, E.f id = some L → E.U id
  sep : ∀ id id' L L' b, E.f id = some L → E.f id' = some L' → L.blk = some b → L'.blk = some b → id = id'
  low : ∀ id L b, E.f id = some L → L.blk = some b → b < w.heap.size ∧ ¬ E.F b
  flow : ∀ b, E.F b → b < w.heap.size
  nx : ∀ id, E.U id → id < σ.nx
  obj : ∀ id o, σ.get id = some o → ∃ L, E.f id = some L ∧ ORel E w L o

def Env.put (E : Env) (id : Nat) (L : Loc) : Env := ⟨fun k => if k = id then some L else E.f k, fun k => k = id ∨ E.U k, E.F⟩

/-- An object of our own is written, grown or laid anew. -/
theorem Sim.put {E : Env} {w w' : World} {σ : LSt} (hS : Sim E w σ) {id : Nat} {L' : Loc} {o : LO}
    (hid : (∃ L, E.f id = some L ∧ (L' = L ∨ L.n < L'.n)) ∨ ¬ E.U id)
    (hw : ∀ k, k < w.heap.size → (∀ L, E.f id = some L → L.blk ≠ some k) → w'.heap[k]? = w.heap[k]?)
    (hblk : ∀ b, L'.blk = some b → (w.heap.size ≤ b ∧ b < w'.heap.size) ∨ (∃ L, E.f id = some L ∧ L.blk = some b))
    (size : w.heap.size ≤ w'.heap.size) (os : w'.os = w.os) (tape : w'.tape = w.tape) (output : w'.output = w.output)
    (hO : Ext E w (E.put id L') w' → ORel (E.put id L') w' L' o) :
    Ext E w (E.put id L') w' ∧ Sim (E.put id L') w' (σ.put id o) := by
  have hX : Ext E w (E.put id L') w' := by
    refine ⟨?_, rfl, ?_, ?_, size, os, output⟩
    · exact fun k hk => .inr hk
    · intro k L'' hk hkn
      simp only [Env.put] at hk
      split at hk
      · rename_i e
        subst e
        rcases hid with ⟨L, h1, h2⟩ | h
        · obtain rfl : L' = L'' := by simpa using hk
          refine ⟨L, h1, ?_, ?_⟩
          · rcases h2 with rfl | h2 <;> omega
          · intro e; rcases h2 with rfl | h2
            · rfl
            · omega
        · exact absurd hkn h
      · exact ⟨L'', hk, Nat.le_refl _, fun _ => rfl⟩
    · intro b hb ho
      refine ⟨hw b hb (fun L hL e => ho ⟨id, L, hL, e⟩), ?_⟩
      rintro ⟨k, L, hk, e⟩
      simp only [Env.put] at hk
      split at hk
      · obtain rfl : L' = L := by simpa using hk
        rcases hblk b e with ⟨h, _⟩ | ⟨L0, h1, h2⟩
        · omega
        · exact ho ⟨id, L0, h1, h2⟩
      · exact ho ⟨k, L, hk, e⟩
  refine ⟨hX, ?_, ?_, ?_, ?_, ?_, ?_⟩
  · intro k L hk
    simp only [Env.put] at hk ⊢
    split at hk
    · exact .inl ‹_›
    · exact .inr (hS.fresh k L hk)
  · intro i i' L L2 b h1 h2 e1 e2
    simp only [Env.put] at h1 h2
    split at h1 <;> split at h2
    · subst_vars; rfl
    · obtain rfl : L' = L := by simpa using h1
      subst_vars
      rcases hblk b e1 with ⟨h, _⟩ | ⟨L0, g1, g2⟩
      · have := (hS.low i' L2 b h2 e2).1; omega
      · exact hS.sep _ _ L0 L2 b g1 h2 g2 e2
    · obtain rfl : L' = L2 := by simpa using h2
      subst_vars
      rcases hblk b e2 with ⟨h, _⟩ | ⟨L0, g1, g2⟩
      · have := (hS.low i L b h1 e1).1; omega
      · exact hS.sep _ _ L L0 b h1 g1 e1 g2
    · exact hS.sep i i' L L2 b h1 h2 e1 e2
  · intro k L b hk e
    simp only [Env.put] at hk ⊢
    split at hk
    · obtain rfl : L' = L := by simpa using hk
      rcases hblk b e with ⟨h1, h2⟩ | ⟨L0, g1, g2⟩
      · exact ⟨h2, fun hF => by have := hS.flow b hF; omega⟩
      · have := hS.low id L0 b g1 g2
        exact ⟨by omega, this.2⟩
    · have := hS.low k L b hk e
      exact ⟨by omega, this.2⟩
  · intro b hF
    have := hS.flow b hF
    omega
  · rintro k (rfl | hk)
    · simp only [LSt.put]; split <;> omega
    · have := hS.nx k hk
      simp only [LSt.put]; split <;> omega
  · intro k o' hk
    simp only [LSt.get, LSt.put, look_upd] at hk
    split at hk
    · rename_i e
      subst e
      obtain rfl : o = o' := by simpa using hk
      exact ⟨L', by simp [Env.put], hO hX⟩
    · rename_i e
      obtain ⟨L, h1, h2⟩ := hS.obj k o' hk
      refine ⟨L, by simp [Env.put, h1, Ne.symm e], h2.mono hX ?_⟩
      intro b hb
      refine hw b (hS.low k L b h1 hb).1 (fun L0 h0 e0 => ?_)
      exact e (hS.sep id k L0 L b h0 h1 e0 hb)

/-- Only drawing: nothing turns. -/
theorem Sim.still {E : Env} {w w' : World} {σ : LSt} (hS : Sim E w σ) (hh : w'.heap = w.heap) (os : w'.os = w.os) (tape : w'.tape = w.tape) (output : w'.output = w.output) : Ext E w E w' ∧ Sim E w' σ := by
  have hX : Ext E w E w' := ⟨fun _ h => h, rfl, fun id L' h _ => ⟨L', h, Nat.le_refl _, fun _ => rfl⟩, fun b _ h => ⟨by rw [hh], h⟩, by rw [hh]; exact Nat.le_refl _, os, output⟩
  refine ⟨hX, hS.fresh, hS.sep, ?_, ?_, hS.nx, ?_⟩
  · rw [hh]; exact hS.low
  · rw [hh]; exact hS.flow
  · intro id o h
    obtain ⟨L, h1, h2⟩ := hS.obj id o h
    exact ⟨L, h1, h2.mono hX (fun b _ => by rw [hh])⟩

/-- Objects may be left out of sight. -/
theorem Sim.less {E : Env} {w : World} {σ σ' : LSt} (hS : Sim E w σ) (hn : σ'.nx = σ.nx) (h : ∀ id o, σ'.get id = some o → σ.get id = some o) : Sim E w σ' :=
  ⟨hS.fresh, hS.sep, hS.low, hS.flow, (by rw [hn]; exact hS.nx), fun id o ho => hS.obj id o (h id o ho)⟩

/-- An object is given away: from now on it is only read. -/
def Env.drop (E : Env) (id : Nat) : Env := ⟨fun k => if k = id then none else E.f k, E.U, E.F⟩
def LSt.drop (σ : LSt) (id : Nat) : LSt := ⟨σ.nx, del id σ.m⟩
theorem Ext.drop (E : Env) (w : World) (id : Nat) : Ext E w (E.drop id) w := by
  refine ⟨fun _ h => h, rfl, ?_, ?_, Nat.le_refl _, rfl, rfl⟩
  · intro k L h _
    simp only [Env.drop] at h
    split at h
    · cases h
    · exact ⟨L, h, Nat.le_refl _, fun _ => rfl⟩
  · intro b _ h
    refine ⟨rfl, ?_⟩
    rintro ⟨k, L, hk, e⟩
    simp only [Env.drop] at hk
    split at hk
    · cases hk
    · exact h ⟨k, L, hk, e⟩
theorem Sim.drop {E : Env} {w : World} {σ : LSt} (hS : Sim E w σ) (id : Nat) : Sim (E.drop id) w (σ.drop id) := by
  have hf : ∀ k L, (E.drop id).f k = some L → k ≠ id ∧ E.f k = some L := by
    intro k L h
    simp only [Env.drop] at h
    split at h
    · cases h
    · exact ⟨‹_›, h⟩
  refine ⟨fun k L h => hS.fresh k L (hf k L h).2, fun i i' L L' b h h' => hS.sep i i' L L' b (hf _ _ h).2 (hf _ _ h').2, fun k L b h => hS.low k L b (hf _ _ h).2, hS.flow, hS.nx, ?_⟩
  intro k o hk
  simp only [LSt.get, LSt.drop, look_del] at hk
  split at hk
  · cases hk
  · rename_i e
    obtain ⟨L, h1, h2⟩ := hS.obj k o hk
    exact ⟨L, by simp [Env.drop, h1, Ne.symm e], h2.mono (Ext.drop E w id) (fun _ _ => rfl)⟩

/-- The objects from n on are forgotten, and their numbers free again. -/
def Env.cut (E : Env) (n : Nat) : Env := ⟨fun k => if k < n then E.f k else none, fun k => k < n ∧ E.U k, E.F⟩
def LO.under (n : Nat) : LO → Bool
  | .arr _ rows => rows.all fun r => r.all (·.under n)
  | .map es => es.all fun e => e.2.under n
  | .loop _ _ _ _ m _ _ _ => m.all fun e => e.2.under n
  | .iter _ _ => true

theorem Env.cut_own {E : Env} {n b : Nat} (h : (E.cut n).Own b) : E.Own b := by
  obtain ⟨k, L, hk, e⟩ := h
  simp only [Env.cut] at hk
  split at hk
  · exact ⟨k, L, hk, e⟩
  · cases hk
theorem Env.cut_prot {E : Env} {w : World} {n b : Nat} (h : Prot E w b) : Prot (E.cut n) w b ∧ w.heap[b]? = w.heap[b]? :=
  ⟨⟨h.1, fun k => h.2.1 (Env.cut_own k), h.2.2⟩, rfl⟩
theorem VRel.cut {E : Env} {w : World} {n : Nat} {v : LV} {V : Value} (h : VRel E w v V) (hb : v.under n = true) : VRel (E.cut n) w v V :=
  h.move (E' := E.cut n) (n := n) (fun id hi => by simp [Env.cut, hi]) (fun id hi hu => ⟨hi, hu⟩) (fun b hp => E.cut_prot hp) hb
theorem ORel.cut {E : Env} {w : World} {n : Nat} {L : Loc} {o : LO} (h : ORel E w L o) (hb : o.under n = true) : ORel (E.cut n) w L o := by
  cases o with
  | arr sz rows =>
    obtain ⟨h1, h2, h3, h4⟩ := h
    refine ⟨h1, h2, h3, ?_⟩
    rcases h4 with h4 | ⟨b, C, g1, g2, g3, g4, g5, g6⟩
    · exact .inl h4
    · refine .inr ⟨b, C, g1, g2, g3, g4, g5, fun j hj => ?_⟩
      obtain ⟨V, k1, k2, k3⟩ := g6 j hj
      refine ⟨V, k1, k2, k3.cut ?_⟩
      simp only [LO.under, List.all_eq_true] at hb
      obtain ⟨r, hr, hm⟩ := List.mem_flatten.1 (List.getElem_mem hj)
      exact hb r hr _ hm
  | map es =>
    obtain ⟨h1, b, kvs, clock, g1, g2, g3, g4, g5, g6⟩ := h
    refine ⟨h1, b, kvs, clock, g1, g2, g3, fun j hj => ?_, g5, g6⟩
    obtain ⟨e, k1, k2, k3, k4⟩ := g4 j hj
    refine ⟨e, k1, k2, k3, k4.cut ?_⟩
    simp only [LO.under, List.all_eq_true] at hb
    exact hb _ (List.getElem_mem hj)
  | loop l st pend k m ps as bd =>
    obtain ⟨h1, h2, r, g1, g2, g3, g4, g5, g6, g7, g8⟩ := h
    simp only [LO.under, List.all_eq_true] at hb
    exact ⟨h1, h2, r, g1, g2, g3, g4, g5, g6, g7, fun t v hm => (g8 t v hm).cut (hb _ (look_mem0 t v m hm))⟩
  | iter es seen => exact ⟨h.1, h.2.1, h.2.2.imp (fun b hp => Env.cut_prot hp) (fun _ _ => rfl)⟩

theorem Ext.cut {E E' : Env} {w w' : World} (h : Ext E w E' w') {n : Nat} (hn : ∀ k, E.U k → k < n) : Ext E w (E'.cut n) w' := by
  refine ⟨fun k hk => ⟨hn k hk, h.U k hk⟩, h.F, ?_, fun b hb ho => ⟨(h.heap b hb ho).1, fun k => (h.heap b hb ho).2 (Env.cut_own k)⟩, h.size, h.os, h.output⟩
  intro id L hL hid
  simp only [Env.cut] at hL
  split at hL
  · exact h.ids id L hL hid
  · cases hL

theorem Sim.cut {E : Env} {w : World} {σ σ' : LSt} (hS : Sim E w σ) {n : Nat} (hn : σ'.nx = n) (h : ∀ id o, σ'.get id = some o → σ.get id = some o ∧ id < n ∧ o.under n = true) : Sim (E.cut n) w σ' := by
  have hf : ∀ k L, (E.cut n).f k = some L → k < n ∧ E.f k = some L := by
    intro k L h
    simp only [Env.cut] at h
    split at h
    · exact ⟨‹_›, h⟩
    · cases h
  refine ⟨fun k L h => ⟨(hf k L h).1, hS.fresh k L (hf k L h).2⟩, fun i i' L L' b h h' => hS.sep i i' L L' b (hf _ _ h).2 (hf _ _ h').2, fun k L b h => hS.low k L b (hf _ _ h).2, hS.flow, fun k hk => by rw [hn]; exact hk.1, ?_⟩
  intro id o ho
  obtain ⟨h1, h2, h3⟩ := h id o ho
  obtain ⟨L, g1, g2⟩ := hS.obj id o h1
  exact ⟨L, by simp [Env.cut, h2, g1], g2.cut h3⟩
end Go.Lw

set_option linter.unusedVariables false
set_option linter.unusedSimpArgs false
namespace Go.Lw

structure LAct where
  n : Nat
  m : List (Nat × LV)
def LAct.get (a : LAct) (t : Nat) : Option LV := look t a.m
def LAct.put (a : LAct) (d : Option Nat) (v : LV) : LAct := match d with | none => a | some d => ⟨a.n, upd d v a.m⟩

def AR (E : Env) (w : World) (a : LAct) (A : Act) : Prop := A.tmps.size = a.n ∧ ∀ t v, look t a.m = some v → VRel E w v (A.tmps.getD t undef)

theorem AR.mono {E E' : Env} {w w' : World} {a : LAct} {A : Act} (hx : Ext E w E' w') (h : AR E w a A) : AR E' w' a A := ⟨h.1, fun t v hv => (h.2 t v hv).mono hx⟩

theorem AR.put {E : Env} {w : World} {a : LAct} {A : Act} (h : AR E w a A) {d : Option Nat} {v : LV} {V : Value} (hd : ∀ k, d = some k → k < a.n) (hv : VRel E w v V) : AR E w (a.put d v) (A.put d V) := by
  cases d with
  | none => exact h
  | some d =>
    have hlt : d < A.tmps.size := by rw [h.1]; exact hd d rfl
    refine ⟨by simp [LAct.put, Act.put, h.1], fun t u hu => ?_⟩
    simp only [LAct.put, look_upd] at hu
    simp only [Act.put]
    split at hu
    · rename_i e
      subst e
      obtain rfl : v = u := by simpa using hu
      simpa [Array.getD_eq_getD_getElem?, Array.getElem?_setIfInBounds, hlt] using hv
    · rename_i e
      have := h.2 t u hu
      simpa [Array.getD_eq_getD_getElem?, Array.getElem?_setIfInBounds, e] using this

def Calm : Exit → Prop
  | .panic _ | .outgrown => False
  | _ => True

/-- The fence that lets all in; 'r': the round in which the activation is. -/
def wd (r : Option Nat) : Fence := { Fence.wide with round := r }
theorem wd_fn (r : Option Nat) (f : FuncId) : (wd r).fn f := trivial
theorem wd_depth {r : Option Nat} {n : Nat} : (wd r).depth.isSome = true → 1 ≤ n := by simp [wd, Fence.wide]
theorem calls_wd {r : Option Nat} {n : Nat} {P : Program} {f : FuncId} {args : Array Value} {w : World} {R : Ending → World → Prop} (h : Calls P f args w R) : CallsIn (wd r) n P f args w R := by
  have h := callsIn_wide (n := n).2 h
  exact h

/-- The marks of the loops over functions that an activation has come to: nothing is behind them. -/
def mark (r : Nat) : Deferred := { target := .collected r, args := #[] }
def Marks (E : Env) (w : World) (ds : List Deferred) : Prop := ∃ rs : List Nat, ds = rs.map mark ∧ rs.Nodup ∧ ∀ r ∈ rs, w.heap[r]? = some (.deferred (some [])) ∧ ¬ E.Own r
def More (w : World) (D ds : List Deferred) : Prop := ∃ ns : List Nat, ds = ns.map mark ++ D ∧ ∀ r ∈ ns, w.heap.size ≤ r
theorem Marks.nil (E : Env) (w : World) : Marks E w [] := ⟨[], rfl, List.nodup_nil, by simp⟩
theorem lt_of_heap {w : World} {r : Nat} {o : Obj} (h : w.heap[r]? = some o) : r < w.heap.size := (Array.getElem?_eq_some_iff.1 h).1
theorem Marks.mono {E E' : Env} {w w' : World} (hx : Ext E w E' w') {ds : List Deferred} (h : Marks E w ds) : Marks E' w' ds := by
  obtain ⟨rs, h1, h2, h3⟩ := h
  refine ⟨rs, h1, h2, fun r hr => ?_⟩
  obtain ⟨k1, k2⟩ := h3 r hr
  obtain ⟨g1, g2⟩ := hx.heap r (lt_of_heap k1) k2
  exact ⟨g1.trans k1, g2⟩
theorem Marks.less {E E' : Env} {w : World} {ds : List Deferred} (h : Marks E w ds) (hO : ∀ b, E'.Own b → E.Own b) : Marks E' w ds := by
  obtain ⟨rs, h1, h2, h3⟩ := h
  exact ⟨rs, h1, h2, fun r hr => ⟨(h3 r hr).1, fun h => (h3 r hr).2 (hO r h)⟩⟩
theorem More.refl (w : World) (D : List Deferred) : More w D D := ⟨[], rfl, by simp⟩
theorem More.trans {w w' : World} {D D' ds : List Deferred} (h : More w D D') (hs : w.heap.size ≤ w'.heap.size) (k : More w' D' ds) : More w D ds := by
  obtain ⟨n1, rfl, g1⟩ := h
  obtain ⟨n2, rfl, g2⟩ := k
  refine ⟨n2 ++ n1, by simp, fun r hr => ?_⟩
  rcases List.mem_append.1 hr with hr | hr
  · exact Nat.le_trans hs (g2 r hr)
  · exact g1 r hr

/-- What holds of logical states, as the calculus wants it. -/
def lift (E : Env) (w : World) (D : List Deferred) (Q : Exit → LAct → LSt → Prop) : Exit → Act → World → Prop := fun x A w' =>
  Calm x ∧ ∃ a σ E', Ext E w E' w' ∧ Sim E' w' σ ∧ AR E' w' a A ∧ (Marks E' w' A.defers ∧ More w D A.defers) ∧ Q x a σ
theorem lift_up {E E' : Env} {w w' : World} {D D' : List Deferred} {Q : Exit → LAct → LSt → Prop} (hx : Ext E w E' w') (hm : More w D D') {x : Exit} {A : Act} {w2 : World} (h : lift E' w' D' Q x A w2) : lift E w D Q x A w2 := by
  obtain ⟨hc, a2, σ2, E2, k1, k2, k3, k4, k5⟩ := h
  exact ⟨hc, a2, σ2, E2, hx.trans k1, k2, k3, ⟨k4.1, hm.trans hx.size k4.2⟩, k5⟩

/-- Is there a range over a function in it? -/
def ranges : Code → Bool
  | .seq a b => ranges a || ranges b
  | .cond _ a b => ranges a || ranges b
  | .block _ c => ranges c
  | .loop c => ranges c
  | .scope c => ranges c
  | .rangeFunc _ _ _ _ => true
  | _ => false

def LW (P : Program) (c : Code) (Q : Exit → LAct → LSt → Prop) (a : LAct) (σ : LSt) : Prop :=
  ∀ r E w A, (r = none ∨ ranges c = false) → Sim E w σ → AR E w a A → Marks E w A.defers → c.wpIn (wd r) 0 P (lift E w A.defers Q) A w

def thenQ (K : LAct → LSt → Prop) (Q : Exit → LAct → LSt → Prop) : Exit → LAct → LSt → Prop
  | .normal, a, σ => K a σ
  | e, a, σ => Q e a σ
def blockQ (id : Nat) (Q : Exit → LAct → LSt → Prop) : Exit → LAct → LSt → Prop
  | .exit k, a, σ => if k = id then Q .normal a σ else Q (.exit k) a σ
  | e, a, σ => Q e a σ

section
variable {P : Program} {Q : Exit → LAct → LSt → Prop} {a : LAct} {σ : LSt}

theorem LW.mono {c : Code} {Q' : Exit → LAct → LSt → Prop} (h : LW P c Q a σ) (hq : ∀ e a σ, Q e a σ → Q' e a σ) : LW P c Q' a σ :=
  fun r E w A h0 h1 h2 h3 => wpIn_mono (h r E w A h0 h1 h2 h3) fun e A' w' ⟨hc, a', σ', E', g1, g2, g3, g4, g5⟩ => ⟨hc, a', σ', E', g1, g2, g3, g4, hq _ _ _ g5⟩

theorem LW.skip (h : Q .normal a σ) : LW P .skip Q a σ := fun r E w A h0 h1 h2 h3 => wpIn_skip ⟨trivial, a, σ, E, .refl _ _, h1, h2, ⟨h3, .refl _ _⟩, h⟩
theorem LW.ret (h : Q .ret a σ) : LW P .ret Q a σ := fun r E w A h0 h1 h2 h3 => wpIn_ret ⟨trivial, a, σ, E, .refl _ _, h1, h2, ⟨h3, .refl _ _⟩, h⟩
theorem LW.exit {id : Nat} (h : Q (.exit id) a σ) : LW P (.exit id) Q a σ := fun r E w A h0 h1 h2 h3 => wpIn_exit ⟨trivial, a, σ, E, .refl _ _, h1, h2, ⟨h3, .refl _ _⟩, h⟩
theorem LW.label {l : Nat} (h : Q .normal a σ) : LW P (.label l) Q a σ := fun r E w A h0 h1 h2 h3 => wpIn_label ⟨trivial, a, σ, E, .refl _ _, h1, h2, ⟨h3, .refl _ _⟩, h⟩

/-- Behind a piece of code the next one goes on, and all that has grown since counts from the beginning. -/
theorem lift_then {r : Option Nat} {E : Env} {w : World} {D : List Deferred} {c : Code} {x : Exit} {A : Act} {w' : World} (h0 : r = none ∨ ranges c = false) (h : lift E w D (thenQ (fun a σ => LW P c Q a σ) Q) x A w') : Exit.then (c.wpIn (wd r) 0 P (lift E w D Q)) (lift E w D Q) x A w' := by
  obtain ⟨hc, a', σ', E', g1, g2, g3, g4, g5⟩ := h
  cases x with
  | normal => exact wpIn_mono (g5 r E' w' A h0 g2 g3 g4.1) fun e A2 w2 q => lift_up g1 g4.2 q
  | panic c => exact hc.elim
  | outgrown => exact hc.elim
  | exit id => exact ⟨hc, a', σ', E', g1, g2, g3, g4, g5⟩
  | goto l => exact ⟨hc, a', σ', E', g1, g2, g3, g4, g5⟩
  | ret => exact ⟨hc, a', σ', E', g1, g2, g3, g4, g5⟩

theorem no_l {r : Option Nat} {x y : Bool} (h : r = none ∨ (x || y) = false) : r = none ∨ x = false := h.imp id fun h => (Bool.or_eq_false_iff.1 h).1
theorem no_r {r : Option Nat} {x y : Bool} (h : r = none ∨ (x || y) = false) : r = none ∨ y = false := h.imp id fun h => (Bool.or_eq_false_iff.1 h).2

theorem LW.seq {x y : Code} (h : LW P x (thenQ (fun a σ => LW P y Q a σ) Q) a σ) : LW P (.seq x y) Q a σ :=
  fun r E w A h0 h1 h2 h3 => wpIn_seq (wpIn_mono (h r E w A (no_l h0) h1 h2 h3) fun _ _ _ q => lift_then (no_r h0) q)

/-- The same, what follows hidden behind a name. -/
theorem LW.seqk {x y : Code} (h : ∀ K : LAct → LSt → Prop, (∀ a σ, LW P y Q a σ → K a σ) → LW P x (thenQ K Q) a σ) : LW P (.seq x y) Q a σ :=
  LW.seq (h _ fun _ _ h => h)

theorem LW.cond {c : Operand} {x y : Code} {b : Bool} (hc : ∀ E w A, AR E w a A → A.eval c = .bool b) (ht : b = true → LW P x Q a σ) (hf : b = false → LW P y Q a σ) : LW P (.cond c x y) Q a σ := by
  intro r E w A h0 h1 h2 h3
  exact wpIn_cond_split (hc E w A h2) (fun h => ht h r E w A (no_l h0) h1 h2 h3) (fun h => hf h r E w A (no_r h0) h1 h2 h3)

theorem AR.bool {E : Env} {w : World} {A : Act} {t : Nat} {b : Bool} (h : AR E w a A) (hv : look t a.m = some (.pv (.sc (.bool b)))) : A.eval (.tmp t) = .bool b := by
  have := h.2 t _ hv
  generalize hg : A.tmps.getD t undef = V at this
  cases this with
  | pv p V h => cases h; exact hg

/-- A test, its value known or not. -/
theorem LW.condt {t : Nat} {x y : Code} {b : Bool} (hc : look t a.m = some (.pv (.sc (.bool b)))) (ht : b = true → LW P x Q a σ) (hf : b = false → LW P y Q a σ) : LW P (.cond (.tmp t) x y) Q a σ :=
  LW.cond (fun E w A h => h.bool hc) ht hf

theorem LW.block {id : Nat} {c : Code} (h : LW P c (blockQ id Q) a σ) : LW P (.block id c) Q a σ := by
  intro r E w A h0 h1 h2 h3
  refine wpIn_block (wpIn_mono (h r E w A h0 h1 h2 h3) ?_)
  rintro x A' w' ⟨hc, a', σ', E', g1, g2, g3, g4, g5⟩
  cases x with
  | exit k =>
    simp only [blockQ] at g5
    simp only [Exit.inBlock]
    split
    · rename_i e; rw [if_pos e] at g5; exact ⟨trivial, a', σ', E', g1, g2, g3, g4, g5⟩
    · rename_i e; rw [if_neg e] at g5; exact ⟨hc, a', σ', E', g1, g2, g3, g4, g5⟩
  | panic c => exact hc.elim
  | outgrown => exact hc.elim
  | normal => exact ⟨hc, a', σ', E', g1, g2, g3, g4, g5⟩
  | goto l => exact ⟨hc, a', σ', E', g1, g2, g3, g4, g5⟩
  | ret => exact ⟨hc, a', σ', E', g1, g2, g3, g4, g5⟩
end

/-- Of the state (a, σ) no more is known than (a', σ'); objects laid since may be forgotten with their numbers. -/
def Sub (a : LAct) (σ : LSt) (a' : LAct) (σ' : LSt) : Prop :=
  a'.n = a.n ∧ (∀ p ∈ a'.m, look p.1 a.m = some p.2 ∧ p.2.under σ'.nx = true) ∧ (∀ p ∈ σ'.m, σ.get p.1 = some p.2 ∧ p.1 < σ'.nx ∧ p.2.under σ'.nx = true)

theorem look_mem {α : Type} (t : Nat) (v : α) : ∀ l : List (Nat × α), look t l = some v → (t, v) ∈ l
  | [], h => by simp [look] at h
  | (k, u) :: r, h => by
    simp only [look] at h
    split at h
    · rename_i e; subst e; simp at h; subst h; simp
    · exact List.mem_cons_of_mem _ (look_mem t v r h)

theorem Sub.use' {a a' : LAct} {σ σ' : LSt} (h : Sub a σ a' σ') {E0 E : Env} {w0 w : World} {A : Act} (hx : Ext E0 w0 E w) (hn : ∀ k, E0.U k → k < σ'.nx) (hS : Sim E w σ) (hA : AR E w a A) :
    ∃ E', Ext E0 w0 E' w ∧ Sim E' w σ' ∧ AR E' w a' A ∧ ∀ b, E'.Own b → E.Own b := by
  refine ⟨E.cut σ'.nx, hx.cut hn, hS.cut rfl fun id o ho => ?_, ⟨hA.1.trans h.1.symm, fun t v hv => ?_⟩, fun b hb => Env.cut_own hb⟩
  · exact h.2.2 (id, o) (look_mem _ _ _ ho)
  · obtain ⟨h1, h2⟩ := h.2.1 (t, v) (look_mem _ _ _ hv)
    exact (hA.2 t v h1).cut h2

theorem Sub.use {a a' : LAct} {σ σ' : LSt} (h : Sub a σ a' σ') {E0 E : Env} {w0 w : World} {A : Act} (hx : Ext E0 w0 E w) (hn : ∀ k, E0.U k → k < σ'.nx) (hS : Sim E w σ) (hA : AR E w a A) :
    ∃ E', Ext E0 w0 E' w ∧ Sim E' w σ' ∧ AR E' w a' A := by
  refine ⟨E.cut σ'.nx, hx.cut hn, hS.cut rfl fun id o ho => ?_, ⟨hA.1.trans h.1.symm, fun t v hv => ?_⟩⟩
  · exact h.2.2 (id, o) (look_mem _ _ _ ho)
  · obtain ⟨h1, h2⟩ := h.2.1 (t, v) (look_mem _ _ _ hv)
    exact (hA.2 t v h1).cut h2

section
variable {P : Program} {Q : Exit → LAct → LSt → Prop} {a : LAct} {σ : LSt}

/-- Less may be known. -/
theorem LW.sub {c : Code} {a' : LAct} {σ' : LSt} (hs : Sub a σ a' σ') (hn : σ'.nx = σ.nx) (h : LW P c Q a' σ') : LW P c Q a σ := by
  intro r E w A h0 h1 h2 h3
  obtain ⟨E', g1, g2, g3⟩ := hs.use (Ext.refl E w) (by rw [hn]; exact h1.nx) h1 h2
  exact wpIn_mono (h r E' w A h0 g2 g3 (h3.mono g1)) fun x A' w' q => lift_up g1 (.refl _ _) q

/-- A LOOP: the states at its head are told by a variable 's'; a number falls. -/
theorem LW.loop {α : Type} {c : Code} (m : α → Nat) (ok : α → Prop) (A : α → LAct) (S : α → List (Nat × LO)) (s₀ : α) (h₀ : ok s₀) (hs : Sub a σ (A s₀) ⟨σ.nx, S s₀⟩)
    (round : ∀ s, ok s → ∀ K : LAct → LSt → Prop, (∀ a' σ', (∃ s', ok s' ∧ m s' < m s ∧ Sub a' σ' (A s') ⟨σ.nx, S s'⟩) → K a' σ') → LW P c (thenQ K Q) (A s) ⟨σ.nx, S s⟩) : LW P (.loop c) Q a σ := by
  intro r E w B h0 h1 h2 h3
  have hnx : ∀ k, E.U k → k < σ.nx := h1.nx
  refine wpIn_loop_ghost (fun n B' w' => ∃ s E', ok s ∧ m s = n ∧ Ext E w E' w' ∧ Sim E' w' ⟨σ.nx, S s⟩ ∧ AR E' w' (A s) B' ∧ Marks E' w' B'.defers ∧ More w B.defers B'.defers) (m s₀) ?_ ?_
  · obtain ⟨E', g1, g2, g3⟩ := hs.use (Ext.refl E w) hnx h1 h2
    exact ⟨s₀, E', h₀, rfl, g1, g2, g3, h3.mono g1, .refl _ _⟩
  · rintro n B' w' ⟨s, E', hok, rfl, g1, g2, g3, g4, g6⟩
    refine wpIn_mono (round s hok _ (fun _ _ h => h) r E' w' B' h0 g2 g3 g4) ?_
    rintro x A2 w2 q
    obtain ⟨hc, a2, σ2, E2, k1, k2, k3, k4, k5⟩ := lift_up g1 g6 q
    cases x with
    | normal =>
      obtain ⟨s', j1, j2, j3⟩ := k5
      obtain ⟨E3, l1, l2, l3, l4⟩ := j3.use' k1 hnx k2 k3
      exact ⟨m s', j2, s', E3, j1, rfl, l1, l2, l3, ⟨k4.1.less l4, k4.2⟩⟩
    | panic c => exact hc.elim
    | outgrown => exact hc.elim
    | exit id => exact ⟨hc, a2, σ2, E2, k1, k2, k3, k4, k5⟩
    | goto l => exact ⟨hc, a2, σ2, E2, k1, k2, k3, k4, k5⟩
    | ret => exact ⟨hc, a2, σ2, E2, k1, k2, k3, k4, k5⟩
end

/-! ### Operations -/
def LOps (P : Program) (ops : Array Oper) (Q : Exit → LAct → LSt → Prop) (rest : List Oper) (a : LAct) (σ : LSt) : Prop :=
  ∀ r E w A, Sim E w σ → AR E w a A → Marks E w A.defers → wpListIn (wd r) 0 P ops (lift E w A.defers Q) rest A w

/-- One operation that comes to a value. -/
def LOp (P : Program) (o : Oper) (a : LAct) (σ : LSt) (v : LV) (σ' : LSt) : Prop :=
  ∀ E w A, Sim E w σ → AR E w a A → ∃ V w' E', ((execOp A.eval o).run P w = .ok (.value V) w' ∨ (execOp A.eval o).run P w = .ok .skip w' ∧ V = undef) ∧ Ext E w E' w' ∧ Sim E' w' σ' ∧ VRel E' w' v V

/-- What the operation that a guard names came to. -/
def LAct.yield (ops : Array Oper) (a : LAct) (j : Nat) : Option (Option Bool) :=
  match ((ops[j]?).bind (·.dst)).bind fun d => look d a.m with
  | some (.pv (.sc (.bool b))) => some (some b)
  | some (.pv (.sc (.tuple _))) => some none
  | _ => none

def vundef : LV := .pv (.sc (.tuple #[]))
def wantIs (want : Bool) : Option Bool → Bool
  | some b => b == want
  | none => false

section
variable {P : Program} {ops : Array Oper} {Q : Exit → LAct → LSt → Prop} {rest : List Oper} {o : Oper} {a : LAct} {σ : LSt}

theorem LW.region {id : Nat} (h : LOps P ops Q ops.toList a σ) : LW P (.region id ops false) Q a σ := fun r E w A h0 h1 h2 h3 => wpIn_region_list (h r E w A h1 h2 h3)

theorem LOps.nil (h : Q .normal a σ) : LOps P ops Q [] a σ := fun r E w A h1 h2 h3 => ⟨trivial, a, σ, E, .refl _ _, h1, h2, ⟨h3, .refl _ _⟩, h⟩

theorem wpList_mono {r : Option Nat} (l : List Oper) : ∀ {A : Act} {w : World} {R R' : Exit → Act → World → Prop} (hq : ∀ e A w, R e A w → R' e A w), wpListIn (wd r) 0 P ops R l A w → wpListIn (wd r) 0 P ops R' l A w := by
  induction l with
  | nil => intro A w R R' hq h; exact hq _ _ _ h
  | cons o l ih =>
    intro A w R R' hq h
    simp only [wpListIn] at h ⊢
    split at h
    · rename_i hw
      rw [if_pos hw]
      refine ⟨fun _ _ => trivial, ?_⟩
      obtain ⟨_, h⟩ := h
      revert h
      generalize (o.semAt (wd r).round A.eval).run P w = res
      intro h
      unfold Oper.uponIn at h ⊢
      split at h
      · exact ih hq h
      · exact ih hq h
      · exact ih hq h
      · refine ⟨h.1, CallsIn.mono h.2 ?_⟩
        intro e w'' hr
        cases e with
        | returned v => exact ih hq hr
        | panicked c => exact hq _ _ _ hr
        | outgrown => obtain ⟨x, y, hz⟩ := hr; exact ⟨x, y, hq _ _ _ hz⟩
      · exact ⟨h.1, RowsIn.mono h.2 fun v w'' hr => ih hq hr⟩
      · refine ⟨h.1, RoundIn.mono h.2 ?_⟩
        intro e w'' hr
        cases e with
        | returned v => exact ih hq hr
        | panicked c => exact hq _ _ _ hr
        | outgrown => obtain ⟨x, y, hz⟩ := hr; exact ⟨x, y, hq _ _ _ hz⟩
      · exact hq _ _ _ h
      · exact h.elim
    · rename_i hw
      rw [if_neg hw]
      exact ⟨fun _ _ => trivial, ih hq h.2⟩

theorem LOps.lift {r : Option Nat} {E E' : Env} {w w' : World} {D D' : List Deferred} {A : Act} (hx : Ext E w E' w') (hm : More w D D') (h : wpListIn (wd r) 0 P ops (Lw.lift E' w' D' Q) rest A w') : wpListIn (wd r) 0 P ops (Lw.lift E w D Q) rest A w' :=
  wpList_mono rest (fun x A2 w2 q => lift_up hx hm q) h

theorem not_defer {ρ : Operand → Value} {o : Oper} {w w' : World} {nx : Next} (h : (execOp ρ o).run P w = .ok nx w') (hn : ∀ d, nx ≠ .defer d) : ∀ c, o.op ≠ .defer c := by
  intro c e
  simp only [execOp, e, Sem.run_bind] at h
  cases hr : (resolve ρ c o.type).run P w with
  | ok d w1 => rw [hr] at h; simp only [Result.andThen, Sem.run_pure, Result.ok.injEq] at h; exact hn d h.1.symm
  | halt x w1 => rw [hr] at h; simp [Result.andThen] at h
theorem sem_at {r : Option Nat} {ρ : Operand → Value} {o : Oper} {w w' : World} {nx : Next} (h : (execOp ρ o).run P w = .ok nx w') (hn : ∀ d, nx ≠ .defer d) : (o.semAt r ρ).run P w = .ok nx w' := by
  rw [Oper.semAt_eq r ρ o (not_defer h hn)]; exact h

theorem wpIn_value {r : Option Nat} {R : Exit → Act → World → Prop} {K : Act → World → Prop} {A : Act} {w w' : World} {V : Value} (hr : (execOp A.eval o).run P w = .ok (.value V) w' ∨ (execOp A.eval o).run P w = .ok .skip w' ∧ V = undef)
    (h : K (A.put o.dst V) w') : o.wpIn (wd r) 0 P A w K R := by
  refine ⟨fun _ _ => trivial, ?_⟩
  rcases hr with hr | ⟨hr, rfl⟩
  · rw [sem_at hr (by simp)]; exact h
  · rw [sem_at hr (by simp)]; exact h
theorem wpIn_enter {r : Option Nat} {R : Exit → Act → World → Prop} {K : Act → World → Prop} {A : Act} {w w' : World} {f : FuncId} {args : Array Value} (hr : (execOp A.eval o).run P w = .ok (.enter f args) w')
    (h : Calls P f args w' fun e w2 => ∃ V, e = .returned V ∧ K (A.put o.dst V) w2) : o.wpIn (wd r) 0 P A w K R := by
  refine ⟨fun _ _ => trivial, ?_⟩
  rw [sem_at hr (by simp), Oper.uponIn_enter]
  refine ⟨wd_depth, CallsIn.mono (calls_wd h) ?_⟩
  rintro e w2 ⟨V, rfl, hv⟩
  exact hv
/-- An operation that comes to a value. -/
theorem wpList_value {r : Option Nat} {R : Exit → Act → World → Prop} {A : Act} {w w' : World} {V : Value} (hw : Region.wanted o (yielded ops A.tmps) = true) (hr : (execOp A.eval o).run P w = .ok (.value V) w' ∨ (execOp A.eval o).run P w = .ok .skip w' ∧ V = undef)
    (h : wpListIn (wd r) 0 P ops R rest (A.put o.dst V) w') : wpListIn (wd r) 0 P ops R (o :: rest) A w := by
  simp only [wpListIn, hw, if_true]
  refine ⟨fun _ _ => trivial, ?_⟩
  rcases hr with hr | ⟨hr, rfl⟩
  · rw [sem_at hr (by simp)]; exact h
  · rw [sem_at hr (by simp)]; exact h
theorem wpList_pass {r : Option Nat} {R : Exit → Act → World → Prop} {A : Act} {w : World} (hw : Region.wanted o (yielded ops A.tmps) = false) (h : wpListIn (wd r) 0 P ops R rest (A.put o.dst undef) w) : wpListIn (wd r) 0 P ops R (o :: rest) A w := by
  simp only [wpListIn, hw]
  exact ⟨fun _ _ => trivial, h⟩
theorem wpList_enter {r : Option Nat} {R : Exit → Act → World → Prop} {A : Act} {w w' : World} {f : FuncId} {args : Array Value} (hw : Region.wanted o (yielded ops A.tmps) = true) (hr : (execOp A.eval o).run P w = .ok (.enter f args) w')
    (h : Calls P f args w' fun e w2 => ∃ V, e = .returned V ∧ wpListIn (wd r) 0 P ops R rest (A.put o.dst V) w2) : wpListIn (wd r) 0 P ops R (o :: rest) A w := by
  simp only [wpListIn, hw, if_true]
  refine ⟨fun _ _ => trivial, ?_⟩
  rw [sem_at hr (by simp), Oper.uponIn_enter]
  refine ⟨wd_depth, CallsIn.mono (calls_wd h) ?_⟩
  rintro e w2 ⟨V, rfl, hv⟩
  exact hv

/-- Is the operation carried out? -/
def wantedL (ops : Array Oper) (o : Oper) (a : LAct) : Option Bool :=
  match o.guard with
  | none => some true
  | some (j, want) => (a.yield ops j).map (wantIs want)

theorem wanted_of {E : Env} {w : World} {A : Act} (hA : AR E w a A) {b : Bool} (h : wantedL ops o a = some b) : Region.wanted o (yielded ops A.tmps) = b := by
  unfold wantedL at h
  unfold Region.wanted
  split at h <;> rename_i hg
  · rw [hg]; simpa using h
  · rename_i j want
    rw [hg]
    unfold LAct.yield at h
    unfold yielded
    cases hd : (ops[j]?).bind (·.dst) with
    | none => simp [hd] at h
    | some d =>
      simp only [hd, Option.bind_some] at h ⊢
      cases hl : look d a.m with
      | none => simp [hl] at h
      | some v =>
        rw [hl] at h
        split at h
        · rename_i b' hb
          obtain rfl : v = .pv (.sc (.bool b')) := by simpa using hb
          have hv : A.tmps.getD d undef = .bool b' := hA.bool hl
          have hlt : A.tmps[d]? = some (.bool b') := by
            rw [Array.getD_eq_getD_getElem?] at hv
            cases hx : A.tmps[d]? with
            | none => rw [hx] at hv; simp [undef] at hv
            | some x => rw [hx] at hv; simpa using hv
          rw [hlt]
          simp only [Option.map_some, Option.some.injEq, wantIs] at h
          rw [← h]
          cases b' <;> cases want <;> rfl
        · rename_i z hb
          obtain rfl : v = .pv (.sc (.tuple z)) := by simpa using hb
          have hv := hA.2 d _ hl
          simp only [Option.map_some, Option.some.injEq, wantIs] at h
          subst h
          have hv2 : A.tmps.getD d undef = .tuple z := by
            revert hv
            show VRel E w _ (A.tmps.getD d undef) → _
            generalize A.tmps.getD d undef = V
            intro hv
            cases hv with
            | pv _ _ h => cases h with | sc _ => rfl
          cases hx : A.tmps[d]? with
          | none => rfl
          | some x =>
            rw [Array.getD_eq_getD_getElem?, hx] at hv2
            simp only [Option.getD_some] at hv2
            subst hv2
            rfl
        · simp at h

theorem put_defers (A : Act) (d : Option Nat) (V : Value) : (A.put d V).defers = A.defers := by cases d <;> rfl
theorem defers_put {E : Env} {w : World} {A : Act} {d : Option Nat} {V : Value} (h : Marks E w A.defers) : Marks E w (A.put d V).defers := by rw [put_defers]; exact h

theorem LOps.skip (hw : wantedL ops o a = some false) (hd : ∀ k, o.dst = some k → k < a.n) (h : LOps P ops Q rest (a.put o.dst vundef) σ) : LOps P ops Q (o :: rest) a σ := by
  intro r E w A h1 h2 h3
  refine wpList_pass (wanted_of h2 hw) ?_
  have := h r E w _ h1 (h2.put hd (.pv _ _ (.sc _))) (defers_put h3)
  rw [put_defers] at this
  exact this

theorem LOps.step (hw : wantedL ops o a = some true) {v : LV} {σ' : LSt} (hd : ∀ k, o.dst = some k → k < a.n) (ho : LOp P o a σ v σ') (h : LOps P ops Q rest (a.put o.dst v) σ') : LOps P ops Q (o :: rest) a σ := by
  intro r E w A h1 h2 h3
  obtain ⟨V, w', E', hr, g1, g2, g3⟩ := ho E w A h1 h2
  refine wpList_value (wanted_of h2 hw) hr ?_
  have hn := h r E' w' (A.put o.dst V) g2 ((h2.mono g1).put hd g3) (defers_put (h3.mono g1))
  rw [put_defers] at hn
  exact LOps.lift g1 (.refl _ _) hn
end

/-! ### Calls -/
def ArgsR (E : Env) (w : World) (l : List LV) (Vs : List Value) : Prop := l.length = Vs.length ∧ ∀ i (h1 : i < l.length) (h2 : i < Vs.length), VRel E w l[i] Vs[i]

def LCalls (P : Program) (f : FuncId) (args : List LV) (Q : LV → LSt → Prop) (σ : LSt) : Prop :=
  ∀ E w Vs, Sim E w σ → ArgsR E w args Vs → Calls P f Vs.toArray w fun e w' => ∃ v V E' σ', e = .returned V ∧ Ext E w E' w' ∧ Sim E' w' σ' ∧ VRel E' w' v V ∧ Q v σ'

theorem LCalls.mono {P : Program} {f : FuncId} {args : List LV} {Q Q' : LV → LSt → Prop} {σ : LSt} (h : LCalls P f args Q σ) (hq : ∀ v σ, Q v σ → Q' v σ) : LCalls P f args Q' σ :=
  fun E w Vs h1 h2 => (h E w Vs h1 h2).mono fun e w' ⟨v, V, E', σ', g1, g2, g3, g4, g5⟩ => ⟨v, V, E', σ', g1, g2, g3, g4, hq _ _ g5⟩

/-- What a function hands back: its result variables (the machine's 'results'). -/
def resL (P : Program) (fn : Func) (a : LAct) (σ : LSt) (v : LV) : Prop :=
  ∀ E w A, Sim E w σ → AR E w a A → ∃ V, (results fn A.tmps).run P w = .ok V w ∧ VRel E w v V

/-- The state at a function's entry. -/
def enterA : Nat → List LV → List (Nat × LV)
  | _, [] => []
  | i, v :: r => (i, v) :: enterA (i + 1) r
theorem look_enterA (l : List LV) : ∀ i t, look t (enterA i l) = if i ≤ t then l[t - i]? else none := by
  induction l with
  | nil => intro i t; simp [enterA, look]
  | cons v r ih =>
    intro i t
    simp only [enterA, look, ih]
    by_cases e : i = t
    · subst e; simp
    · by_cases h : i ≤ t
      · rw [if_neg e, if_pos h, if_pos (by omega)]
        obtain ⟨k, hk⟩ : ∃ k, t - i = k + 1 := ⟨t - i - 1, by omega⟩
        rw [hk, show t - (i + 1) = k by omega]
        simp
      · rw [if_neg e, if_neg h, if_neg (by omega)]

/-- The marks' blocks are shut, one by one. -/
def shut : List Nat → World → World
  | [], w => w
  | r :: rs, w => shut rs (w.putObj r (.deferred none))
theorem leaves_shut {P : Program} {fn : Func} {tmps : Array Value} {R : Ending → World → Prop} : ∀ (rs : List Nat) (w : World), rs.Nodup → (∀ r ∈ rs, w.heap[r]? = some (.deferred (some []))) →
    LeavesIn (wd none) 0 P fn tmps R [] .returning (shut rs w) → LeavesInM (wd none) 0 P fn tmps R (rs.map mark) .returning w
  | [], w, _, _, h => h
  | r :: rs, w, hn, hh, h => by
    refine ⟨by simp, .inl ⟨r, w.putObj r (.deferred none), rfl, run_takeDeferred (hh r (by simp)), ?_⟩⟩
    refine leaves_shut rs _ (List.nodup_cons.1 hn).2 (fun q hq => ?_) h
    rw [World.putObj_heap_other (by rintro rfl; exact (List.nodup_cons.1 hn).1 hq)]
    exact hh q (by simp [hq])

/-- A block in which nothing lies turns: all stands as it stood. -/
theorem PRel.turn {T T' : Nat → Prop} {w w' : World} (hT : ∀ b, T b → T' b) (hh : ∀ b, T b → w'.heap[b]? = w.heap[b]? ∨ ∃ ds, w.heap[b]? = some (.deferred ds)) {p : PV} {V : Value} (h : PRel T w p V) : PRel T' w' p V := by
  induction h with
  | sc v => exact .sc v
  | ronil k sz hk => exact .ronil k sz hk
  | ro k sz rows a cap g hk hm hs hb hc hv ih =>
    refine .ro k sz rows a cap g hk hm hs (fun hn => ⟨(hb hn).1, hT _ (hb hn).2⟩) (fun j hj => ?_) (fun j hj => ih j hj)
    have hp := hb (by intro e; rw [e] at hj; simp at hj)
    have hcj := hc j hj
    rcases hh _ hp.2 with he | ⟨ds, he⟩
    · rw [cell_of_heap (w := w) (by rw [addr_add_block]; exact he)]
      exact hcj
    · have := hcj.1
      unfold World.cell? at this
      rw [addr_add_block, he] at this
      cases this
  | rm es b kvs clock e hb hl hk hz hc ho hv ih =>
    rcases hh b hb with he | ⟨ds, he⟩
    · exact .rm es b kvs clock e (hT b hb) (he.trans hl) hk hz hc ho (fun j hj => ih j hj)
    · rw [hl] at he; cases he
  | rmx V es h ih => exact .rmx V es ih
theorem VRel.turn {E : Env} {w w' : World} (hT : ∀ b, Prot E w b → Prot E w' b) (hh : ∀ b, Prot E w b → w'.heap[b]? = w.heap[b]? ∨ ∃ ds, w.heap[b]? = some (.deferred ds)) {v : LV} {V : Value} (h : VRel E w v V) : VRel E w' v V := by
  induction h with
  | pv p V h => exact .pv p V (h.turn hT hh)
  | own id m off len V h1 h2 h => exact .own id m off len V h1 h2 h
  | ptr id m i j V h1 h2 h => exact .ptr id m i j V h1 h2 h
  | rp sz rows i j a g hs ht hc hv =>
    refine .rp sz rows i j a g hs ⟨ht.1, hT _ ht.2⟩ (fun j hj => ?_) (fun j hj => (hv j hj).turn hT hh)
    have hcj := hc j hj
    rcases hh _ ht.2 with he | ⟨ds, he⟩
    · rw [cell_of_heap (w := w) (by rw [addr_add_block]; exact he)]
      exact hcj
    · have := hcj.1
      unfold World.cell? at this
      rw [addr_add_block, he] at this
      cases this
  | agg l Vs hl h ih => exact .agg l Vs hl fun i h1 h2 => ih i h1 h2
  | tup l Vs hl h ih => exact .tup l Vs hl fun i h1 h2 => ih i h1 h2
  | fn f l Vs hl h ih => exact .fn f l Vs hl fun i h1 h2 => ih i h1 h2
  | mp id V h1 h2 h => exact .mp id V h1 h2 h
theorem ORel.turn {E : Env} {w w' : World} (hT : ∀ b, Prot E w b → Prot E w' b) (hh : ∀ b, Prot E w b → w'.heap[b]? = w.heap[b]? ∨ ∃ ds, w.heap[b]? = some (.deferred ds)) {L : Loc} {o : LO} (hb : ∀ b, L.blk = some b → w'.heap[b]? = w.heap[b]?) (h : ORel E w L o) : ORel E w' L o := by
  cases o with
  | arr sz rows =>
    obtain ⟨h1, h2, h3, h4⟩ := h
    refine ⟨h1, h2, h3, ?_⟩
    rcases h4 with h4 | ⟨b, C, g1, g2, g3, g4, g5, g6⟩
    · exact .inl h4
    · refine .inr ⟨b, C, g1, (hb b g1).trans g2, g3, g4, g5, fun j hj => ?_⟩
      obtain ⟨V, k1, k2, k3⟩ := g6 j hj
      exact ⟨V, k1, k2, k3.turn hT hh⟩
  | map es =>
    obtain ⟨h1, b, kvs, clock, g1, g2, g3, g4, g5, g6⟩ := h
    refine ⟨h1, b, kvs, clock, g1, (hb b g1).trans g2, g3, fun j hj => ?_, g5, g6⟩
    obtain ⟨e, k1, k2, k3, k4⟩ := g4 j hj
    exact ⟨e, k1, k2, k3, k4.turn hT hh⟩
  | loop l st pend n m ps as bd =>
    obtain ⟨h1, h2, r, g1, g2, g3, g4, g5, g6, g7, g8⟩ := h
    exact ⟨h1, h2, r, (hb l h2).trans g1, g2, g3, g4, g5, g6, g7, fun t v hm => (g8 t v hm).turn hT hh⟩
  | iter es seen =>
    obtain ⟨h1, h2, b, bm, kvs, clock, since, c0, seenA, e, g1, g2, g3, g4, g5, g6, g7, g8, g9, g10, g11⟩ := h
    rcases hh bm g3 with he | ⟨ds, he⟩
    · exact ⟨h1, h2, b, bm, kvs, clock, since, c0, seenA, e, g1, (hb b g1).trans g2, hT bm g3, he.trans g4, g5, g6, g7, g8, g9, fun j hj => (g10 j hj).turn hT hh, g11⟩
    · rw [g4] at he; cases he
theorem shut_ok {E0 : Env} {w0 : World} {E : Env} {σ : LSt} {a : LAct} {A : Act} : ∀ (rs : List Nat) (w : World), rs.Nodup → (∀ r ∈ rs, w.heap[r]? = some (.deferred (some [])) ∧ ¬ E.Own r) → (∀ r ∈ rs, w0.heap.size ≤ r) →
    Ext E0 w0 E w → Sim E w σ → AR E w a A → Ext E0 w0 E (shut rs w) ∧ Sim E (shut rs w) σ ∧ AR E (shut rs w) a A
  | [], w, _, _, _, hx, hS, hA => ⟨hx, hS, hA⟩
  | r :: rs, w, hn, hh, hl, hx, hS, hA => by
    obtain ⟨k1, k2⟩ := hh r (by simp)
    have hsz : (w.putObj r (.deferred none)).heap.size = w.heap.size := World.putObj_size
    have hsame : ∀ b, b ≠ r → (w.putObj r (.deferred none)).heap[b]? = w.heap[b]? := fun b hb => World.putObj_heap_other hb
    have hT : ∀ b, Prot E w b → Prot E (w.putObj r (.deferred none)) b := fun b hp => ⟨by rw [hsz]; exact hp.1, hp.2.1, hp.2.2⟩
    have ht : ∀ b, Prot E w b → (w.putObj r (.deferred none)).heap[b]? = w.heap[b]? ∨ ∃ ds, w.heap[b]? = some (.deferred ds) := by
      intro b hp
      by_cases e : b = r
      · subst e; exact .inr ⟨_, k1⟩
      · exact .inl (hsame b e)
    refine shut_ok rs _ (List.nodup_cons.1 hn).2 (fun q hq => ?_) (fun q hq => hl q (by simp [hq])) ?_ ?_ ⟨hA.1, fun t v hv => (hA.2 t v hv).turn hT ht⟩
    · rw [hsame q (by rintro rfl; exact (List.nodup_cons.1 hn).1 hq)]
      exact hh q (by simp [hq])
    · refine ⟨hx.U, hx.F, hx.ids, fun b hb ho => ?_, by rw [hsz]; exact hx.size, hx.os, hx.output⟩
      have := hl r (by simp)
      rw [hsame b (by omega)]
      exact hx.heap b hb ho
    · refine ⟨hS.fresh, hS.sep, fun id L b h e => ?_, fun b hb => by rw [hsz]; exact hS.flow b hb, hS.nx, fun id o ho => ?_⟩
      · rw [hsz]; exact hS.low id L b h e
      · obtain ⟨L, g1, g2⟩ := hS.obj id o ho
        exact ⟨L, g1, g2.turn hT ht fun b hb => hsame b (by rintro rfl; exact k2 ⟨id, L, g1, hb⟩)⟩

theorem LCalls.body {P : Program} {f : FuncId} {fn : Func} {c : Code} {args : List LV} {Q : LV → LSt → Prop} {σ : LSt} (hf : P.funcs[f]? = some fn) (hb : fn.body = some c) (hn : args.length ≤ fn.ntmps)
    (h : LW P c (fun x a σ => (x = .normal ∨ x = .ret) ∧ ∃ v, resL P fn a σ v ∧ Q v σ) ⟨fn.ntmps, enterA 0 args⟩ σ) : LCalls P f args Q σ := by
  intro E w Vs h1 h2
  refine callsIn_wide.1 (callsIn_of_wp_marks (F := wd none) (n := 0) hf hb trivial (wpIn_mono (h none E w _ (.inl rfl) h1 ⟨?_, ?_⟩ (Marks.nil _ _)) ?_))
  · simp only [Array.size_append, List.size_toArray, Array.size_replicate]
    have := h2.1; omega
  · intro t v hv
    rw [look_enterA] at hv
    simp only [Nat.zero_le, if_true, Nat.sub_zero] at hv
    obtain ⟨ht, rfl⟩ := List.getElem?_eq_some_iff.1 hv
    have ht2 : t < Vs.length := by rw [← h2.1]; exact ht
    have := h2.2 t ht ht2
    simpa [Array.getD_eq_getD_getElem?, Array.getElem?_append, ht2] using this
  · rintro x A w' ⟨hc, a, σ', E', g1, g2, g3, ⟨⟨rs, q1, q2, q3⟩, ⟨ns, q4, q5⟩⟩, hx, v, hr, hq⟩
    have hrs : ∀ r ∈ rs, w.heap.size ≤ r := by
      have e : rs.map mark = ns.map mark := by rw [← q1, q4]; simp
      have : rs = ns := by
        have hj : ∀ (a b : Nat), mark a = mark b → a = b := by
          intro a b h; simpa [mark] using h
        exact List.map_inj_right (fun a b => hj a b) |>.1 e
      rw [this]; exact q5
    obtain ⟨s1, s2, s3⟩ := shut_ok (A := A) rs w' q2 q3 hrs g1 g2 g3
    obtain ⟨V, r1, r2⟩ := hr E' _ A s2 s3
    have hl : LeavesInM (wd none) 0 P fn A.tmps (fun e w' => ∃ v V E' σ', e = .returned V ∧ Ext E w E' w' ∧ Sim E' w' σ' ∧ VRel E' w' v V ∧ Q v σ') A.defers .returning w' := by
      rw [q1]
      exact leaves_shut rs w' q2 (fun r hr => (q3 r hr).1) (by simp only [LeavesIn]; exact ⟨V, r1, v, V, E', σ', rfl, s1, s2, r2, hq⟩)
    rcases hx with rfl | rfl
    · exact hl
    · exact hl

/-- A call among operations. -/
theorem LOps.call {P : Program} {ops : Array Oper} {Q : Exit → LAct → LSt → Prop} {rest : List Oper} {o : Oper} {a : LAct} {σ : LSt} (hw : wantedL ops o a = some true) (hd : ∀ k, o.dst = some k → k < a.n)
    {f : FuncId} {args : List LV} (he : ∀ E w A, Sim E w σ → AR E w a A → ∃ Vs, (execOp A.eval o).run P w = .ok (.enter f Vs.toArray) w ∧ ArgsR E w args Vs)
    (h : LCalls P f args (fun v σ' => LOps P ops Q rest (a.put o.dst v) σ') σ) : LOps P ops Q (o :: rest) a σ := by
  intro r E w A h1 h2 h3
  obtain ⟨Vs, hr, ha⟩ := he E w A h1 h2
  refine wpList_enter (wanted_of h2 hw) hr ((h E w Vs h1 ha).mono ?_)
  rintro e w' ⟨v, V, E', σ', rfl, g1, g2, g3, g4⟩
  refine ⟨V, rfl, ?_⟩
  have hn := g4 r E' w' (A.put o.dst V) g2 ((h2.mono g1).put hd g3) (defers_put (h3.mono g1))
  rw [put_defers] at hn
  exact LOps.lift g1 (.refl _ _) hn

/-- A call that is given nothing of our own, and gives nothing of its own back, leaves what we have alone. -/
theorem LCalls.frame {P : Program} {f : FuncId} {args : List LV} {Q : LV → Prop} (h : LCalls P f args (fun v _ => v.under 0 = true ∧ Q v) ⟨0, []⟩) (ha : args.all (·.under 0) = true) (σ : LSt) : LCalls P f args (fun v σ' => σ' = σ ∧ Q v) σ := by
  intro E w Vs h1 h2
  have h0 : Sim ⟨fun _ => none, fun _ => False, fun b => E.F b ∨ E.Own b⟩ w ⟨0, []⟩ := by
    refine ⟨by simp, by simp, by simp, ?_, by simp, by simp [LSt.get, look]⟩
    rintro b (hb | ⟨id, L, hL, e⟩)
    · exact h1.flow b hb
    · exact (h1.low id L b hL e).1
  have hown : ∀ b, ¬ Env.Own ⟨fun _ => none, fun _ => False, fun b => E.F b ∨ E.Own b⟩ b := by rintro b ⟨id, L, hL, e⟩; cases hL
  have hp : ∀ b, Prot E w b → Prot ⟨fun _ => none, fun _ => False, fun b => E.F b ∨ E.Own b⟩ w b ∧ w.heap[b]? = w.heap[b]? := by
    rintro b ⟨g1, g2, g3⟩
    exact ⟨⟨g1, hown b, fun k => k.elim g3 g2⟩, rfl⟩
  refine (h _ w Vs h0 ⟨h2.1, fun i i1 i2 => (h2.2 i i1 i2).move (n := 0) (by simp) (fun id hi => absurd hi (Nat.not_lt_zero _)) hp ?_⟩).mono ?_
  · rw [List.all_eq_true] at ha; exact ha _ (List.getElem_mem i1)
  · rintro e w' ⟨v, V, E', σ', rfl, g1, g2, g3, g4, g5⟩
    have hX : Ext E w E w' := by
      refine ⟨fun _ h => h, rfl, fun id L' h _ => ⟨L', h, Nat.le_refl _, fun _ => rfl⟩, fun b hb ho => ⟨(g1.heap b hb (hown b)).1, ho⟩, g1.size, g1.os, g1.output⟩
    have hheap : ∀ b, b < w.heap.size → w'.heap[b]? = w.heap[b]? := fun b hb => (g1.heap b hb (hown b)).1
    refine ⟨v, V, E, σ, rfl, hX, ?_, ?_, rfl, g5⟩
    · refine ⟨h1.fresh, h1.sep, fun id L b hL e => ?_, fun b hb => Nat.lt_of_lt_of_le (h1.flow b hb) g1.size, h1.nx, fun id o ho => ?_⟩
      · obtain ⟨k1, k2⟩ := h1.low id L b hL e
        exact ⟨Nat.lt_of_lt_of_le k1 g1.size, k2⟩
      · obtain ⟨L, k1, k2⟩ := h1.obj id o ho
        exact ⟨L, k1, k2.mono hX fun b hb => hheap b (h1.low id L b k1 hb).1⟩
    · refine g3.move (n := 0) (by simp) (fun id hi => absurd hi (Nat.not_lt_zero _)) ?_ g4
      rintro b ⟨k1, k2, k3⟩
      have hF : E'.F = fun b => E.F b ∨ E.Own b := g1.F
      rw [hF] at k3
      exact ⟨⟨k1, fun k => k3 (.inr k), fun k => k3 (.inl k)⟩, rfl⟩
end Go.Lw

set_option linter.unusedVariables false
set_option linter.unusedSimpArgs false
namespace Go.Lw

/-- A value of the machine's that names nothing, as a logical one. -/
def ofV : Value → LV
  | .agg cs => .agg (cs.toList.map fun v => .pv (.sc v))
  | v => .pv (.sc v)
theorem ofV_rel (E : Env) (w : World) (V : Value) : VRel E w (ofV V) V := by
  unfold ofV
  split
  · rename_i cs
    have : VRel E w (.agg (cs.toList.map fun v => .pv (.sc v))) (.agg cs.toList.toArray) := .agg _ _ (by simp) fun i h1 h2 => by
      simp only [List.getElem_map]; exact .pv _ _ (.sc _)
    simpa using this
  · exact .pv _ _ (.sc _)

def LAct.ev (a : LAct) : Operand → Option LV
  | .tmp t => look t a.m
  | .const v => some (ofV v)
  | .func f => some (.fn (.func f) [])
  | .global _ => none

theorem AR.ev {E : Env} {w : World} {a : LAct} {A : Act} (h : AR E w a A) {x : Operand} {v : LV} (hv : a.ev x = some v) : VRel E w v (A.eval x) := by
  cases x with
  | tmp t => exact h.2 t v hv
  | const c => simp only [LAct.ev, Option.some.injEq] at hv; subst hv; exact ofV_rel E w c
  | func f => simp only [LAct.ev, Option.some.injEq] at hv; subst hv; exact .fn _ [] [] rfl (by simp)
  | global g => cases hv

theorem VRel.sc_inv {E : Env} {w : World} {v V : Value} (h : VRel E w (.pv (.sc v)) V) : V = v := by
  cases h with
  | pv p V h => cases h; rfl

def LV.leaf : LV → Bool
  | .pv (.sc v) => v.oneCell'
  | .pv (.ro ..) => true
  | .pv (.rm ..) => true
  | .pv (.rmx ..) => true
  | .own .. | .ptr .. | .rp .. | .fn .. | .mp .. => true
  | .agg _ | .tup _ => false
def LV.cells : LV → List LV
  | .agg l => l
  | v => [v]

theorem VRel.leaf {E : Env} {w : World} {v : LV} {V : Value} (h : VRel E w v V) (hl : v.leaf = true) : V.oneCell' = true := by
  cases h with
  | pv p V h =>
    cases h with
    | sc => exact hl
    | ronil => rfl
    | ro => rfl
    | rm => rfl
    | rmx V es h => cases h; rfl
  | own id n off len V h1 hp h => obtain ⟨a, l, c, rfl⟩ := hp; rfl
  | ptr id n i j V h1 hp h => obtain ⟨a, rfl⟩ := hp; rfl
  | rp => rfl
  | fn => rfl
  | mp id V h1 hp h => obtain ⟨a, rfl⟩ := hp; rfl
  | agg => cases hl
  | tup => cases hl

theorem VRel.cells {E : Env} {w : World} {v : LV} {V : Value} (h : VRel E w v V) (hl : v.cells.all (·.leaf) = true) :
    ∃ Vs : List Value, V.cells = Vs.toArray ∧ v.cells.length = Vs.length ∧ (∀ i (h1 : i < v.cells.length) (h2 : i < Vs.length), VRel E w v.cells[i] Vs[i]) ∧ ∀ u ∈ Vs, u.oneCell' = true := by
  by_cases ha : ∃ l, v = .agg l
  · obtain ⟨l, rfl⟩ := ha
    cases h with
    | agg l Vs hn h =>
      refine ⟨Vs, rfl, hn, h, fun u hu => ?_⟩
      obtain ⟨i, hi, rfl⟩ := List.getElem_of_mem hu
      rw [List.all_eq_true] at hl
      exact (h i (by omega) hi).leaf (hl _ (List.getElem_mem _))
  · have hc : v.cells = [v] := by cases v <;> simp [LV.cells] at ha ⊢
    rw [hc] at hl ⊢
    have hv : v.leaf = true := by simpa using hl
    have h1 := h.leaf hv
    refine ⟨[V], ?_, rfl, ?_, ?_⟩
    · cases V <;> simp [Value.cells] <;> simp [Value.oneCell'] at h1
    · intro i i1 i2
      obtain rfl : i = 0 := by simpa using i1
      exact h
    · simpa using h1

theorem flatten_get {α : Type} (sz : Nat) : ∀ (rows : List (List α)), (∀ r ∈ rows, r.length = sz) → ∀ i j, j < sz → rows.flatten[i * sz + j]? = (rows[i]?).bind (fun r => r[j]?)
  | [], _, i, j, _ => by simp
  | r :: rows, h, 0, j, hj => by
    have hr := h r (by simp)
    simp [List.getElem?_append, hr, hj]
  | r :: rows, h, i + 1, j, hj => by
    have hr := h r (by simp)
    have ih := flatten_get sz rows (fun r hr => h r (by simp [hr])) i j hj
    rw [List.flatten_cons, List.getElem?_append_right (by rw [hr, Nat.add_mul]; omega), hr, show (i + 1) * sz + j - sz = i * sz + j by rw [Nat.add_mul]; omega, ih]
    simp
theorem flatten_len {α : Type} (sz : Nat) : ∀ (rows : List (List α)), (∀ r ∈ rows, r.length = sz) → rows.flatten.length = rows.length * sz
  | [], _ => by simp
  | r :: rows, h => by
    rw [List.flatten_cons, List.length_append, h r (by simp), flatten_len sz rows (fun r hr => h r (by simp [hr])), List.length_cons, Nat.add_mul]; omega

theorem cell_at {w : World} {b k : Nat} {C : Array Value} {e : TypeId} {fr : Nat × Nat} (h : w.heap[b]? = some (.cells C e fr)) : w.cell? ⟨b, k, none⟩ = C[k]? := by simp [World.cell?, h]

def isAggD : TypeDesc → Bool
  | .struct _ | .array _ _ => true
  | _ => false
def tagg (P : Program) (t : TypeId) : Option Bool := (P.underlying t).map isAggD
def tsize (P : Program) (t : TypeId) : Option Nat := (P.info? t).map (·.size)

theorem run_isAgg {P : Program} {t : TypeId} {b : Bool} (h : tagg P t = some b) (w : World) : (isAgg t).run P w = .ok b w := by
  unfold tagg at h
  cases hu : P.underlying t with
  | none => simp [hu] at h
  | some d =>
    simp only [hu, Option.map_some, Option.some.injEq] at h
    subst h
    simp only [isAgg, Sem.run_bind, run_underlying hu, Result.andThen_ok]
    cases d <;> rfl
theorem run_size {P : Program} {t : TypeId} {n : Nat} (h : tsize P t = some n) (w : World) : (Go.sizeOf t).run P w = .ok n w := by
  unfold tsize at h
  cases hu : P.info? t with
  | none => simp [hu] at h
  | some d =>
    simp only [hu, Option.map_some, Option.some.injEq] at h
    simp [Go.sizeOf, typeInfo, hu, h]

theorem run_loadVar1 {P : Program} {t : TypeId} (h : tagg P t = some false) {w : World} {a : Addr} {V : Value} (hc : w.cell? a = some V) : (loadVar t a).run P w = .ok V w := by
  simp only [loadVar, Sem.run_bind, run_isAgg h, Result.andThen_ok]
  simp [run_load, hc]
theorem run_loadVarA {P : Program} {t : TypeId} {n : Nat} (h : tagg P t = some true) (hs : tsize P t = some n) {w : World} {a : Addr} {Vs : List Value} (hn : Vs.length = n) (hc : ∀ j v, Vs[j]? = some v → w.cell? (a.add j) = some v) : (loadVar t a).run P w = .ok (.agg Vs.toArray) w := by
  subst hn
  simp only [loadVar, Sem.run_bind, run_isAgg h, Result.andThen_ok, if_true, run_size hs, run_loadCells_list w a Vs hc]
  simp

theorem addr_add (b o n : Nat) : (⟨b, o, none⟩ : Addr).add n = ⟨b, o + n, none⟩ := by unfold Addr.add; split <;> simp_all
theorem addr_none {a : Addr} (h : a.spot = none) : a = ⟨a.block, a.off, none⟩ := by cases a; simp_all

/-- Cells of an object of our own, read. -/
theorem obj_cells {E : Env} {w : World} {σ : LSt} (hS : Sim E w σ) {id sz : Nat} {rows : List (List LV)} (hg : σ.get id = some (.arr sz rows)) {i : Nat} {r : List LV} (hr : rows[i]? = some r) :
    ∃ L b C, E.f id = some L ∧ L.blk = some b ∧ L.sz = sz ∧ L.n = rows.length ∧ L.n ≤ L.cap ∧ L.cap ≤ maxLen ∧ w.heap[b]? = some (.cells C L.e (0, 0)) ∧ C.size = L.cap * sz ∧ r.length = sz ∧ (∀ r ∈ rows, r.length = sz) ∧
      ∀ j (hj : j < r.length), ∃ V, C[i * sz + j]? = some V ∧ V.oneCell' = true ∧ VRel E w r[j] V := by
  obtain ⟨L, h1, h2, h3, h4, h5⟩ := hS.obj id _ hg
  have hi : i < rows.length := (List.getElem?_eq_some_iff.1 hr).1
  rcases h5 with ⟨_, h5, _⟩ | ⟨b, C, g1, g2, g3, g4, g5, g6⟩
  · omega
  · have hlen : r.length = sz := h4 r (List.mem_of_getElem? hr)
    refine ⟨L, b, C, h1, g1, h2, h3, g3, g4, g2, by rw [g5, h2], hlen, h4, fun j hj => ?_⟩
    have hf := flatten_get sz rows h4 i j (by omega)
    rw [hr] at hf
    simp only [Option.bind_some, List.getElem?_eq_getElem hj] at hf
    obtain ⟨hlt, he⟩ := List.getElem?_eq_some_iff.1 hf
    obtain ⟨V, k1, k2, k3⟩ := g6 _ hlt
    rw [he] at k3
    exact ⟨V, k1, k2, k3⟩

/-- A pointer into an object of our own that is as long as it was. -/
theorem ptr_val {E : Env} {w : World} {σ : LSt} (hS : Sim E w σ) {id sz n i j : Nat} {rows : List (List LV)} {V : Value} (hv : VRel E w (.ptr id n i j) V) (hg : σ.get id = some (.arr sz rows)) (hn : rows.length = n) (hpos : 0 < n) :
    ∃ L b, E.f id = some L ∧ L.blk = some b ∧ V = .pointer (some ⟨b, i * sz + j, none⟩) := by
  obtain ⟨L, h1, h2, h3, h4, h5⟩ := hS.obj id _ hg
  cases hv with
  | ptr _ _ _ _ V g1 g2 g3 =>
    obtain ⟨k1, k2⟩ := g3 L h1
    obtain ⟨b, e1, e2⟩ := k2 (by omega)
    exact ⟨L, b, h1, e1, by rw [e2, h2]⟩

/-! ### load -/
def partL (ag : Bool) (s : Nat) (r : List LV) (j : Nat) : Option LV :=
  if ag then if j + s ≤ r.length then some (.agg ((r.drop j).take s)) else none else r[j]?

theorem load_ptr {P : Program} {t : TypeId} {ag : Bool} {s : Nat} (hag : tagg P t = some ag) (hs : tsize P t = some s) {E : Env} {w : World} {σ : LSt} (hS : Sim E w σ) {id sz n i j : Nat} {rows : List (List LV)} {V : Value}
    (hv : VRel E w (.ptr id n i j) V) (hg : σ.get id = some (.arr sz rows)) (hn : rows.length = n) {r : List LV} (hr : rows[i]? = some r) {v : LV} (hp : partL ag s r j = some v) : ∃ U, (Instr.loadAt t V).run P w = .ok U w ∧ VRel E w v U := by
  have hi : i < rows.length := (List.getElem?_eq_some_iff.1 hr).1
  obtain ⟨L, b, C, h1, h2, h3, h4, h5, h6, h7, h8, h9, h10, h11⟩ := obj_cells hS hg hr
  obtain ⟨L', b', k1, k2, rfl⟩ := ptr_val hS hv hg hn (by omega)
  obtain rfl : L = L' := by rw [h1] at k1; simpa using k1
  obtain rfl : b = b' := by rw [h2] at k2; simpa using k2
  unfold partL at hp
  cases ag with
  | false =>
    simp only [Bool.false_eq_true, if_false] at hp
    obtain ⟨hj, rfl⟩ := List.getElem?_eq_some_iff.1 hp
    obtain ⟨U, u1, u2, u3⟩ := h11 j hj
    refine ⟨U, ?_, u3⟩
    simp only [Instr.loadAt, Instr.sureAddr, Sem.run_bind, Sem.run_pure, Result.andThen_ok]
    exact run_loadVar1 hag (by rw [cell_at h7, u1])
  | true =>
    simp only [if_true] at hp
    split at hp
    case isFalse => cases hp
    rename_i hle
    simp only [Option.some.injEq] at hp
    subst hp
    refine ⟨.agg ((List.range s).map fun k => (C[i * sz + j + k]?).getD undef).toArray, ?_, ?_⟩
    · simp only [Instr.loadAt, Instr.sureAddr, Sem.run_bind, Sem.run_pure, Result.andThen_ok]
      refine run_loadVarA hag hs (by simp) fun k v hk => ?_
      simp only [List.getElem?_map] at hk
      have hks : k < s := by
        rcases Nat.lt_or_ge k s with h | h
        · exact h
        · rw [List.getElem?_eq_none (by simpa using h)] at hk; simp at hk
      rw [List.getElem?_range hks] at hk
      simp only [Option.map_some, Option.some.injEq] at hk
      obtain ⟨U, u1, u2, u3⟩ := h11 (j + k) (by omega)
      rw [addr_add, cell_at h7, ← hk, show i * sz + j + k = i * sz + (j + k) by omega, u1]; rfl
    · refine .agg _ _ (by simp; omega) fun k k1 k2 => ?_
      have hks : k < s := by simp at k2; exact k2
      obtain ⟨U, u1, u2, u3⟩ := h11 (j + k) (by omega)
      simp only [List.getElem_map, List.getElem_range, show i * sz + j + k = i * sz + (j + k) by omega, u1, Option.getD_some, List.getElem_take, List.getElem_drop]
      exact u3

def partP (ag : Bool) (s : Nat) (r : List PV) (j : Nat) : Option LV :=
  if ag then if j + s ≤ r.length then some (.agg (((r.drop j).take s).map .pv)) else none else (r[j]?).map .pv

theorem load_rp {P : Program} {t : TypeId} {ag : Bool} {s : Nat} (hag : tagg P t = some ag) (hs : tsize P t = some s) {E : Env} {w : World} {sz i j : Nat} {rows : List (List PV)} {V : Value}
    (hv : VRel E w (.rp sz rows i j) V) {r : List PV} (hr : rows[i]? = some r) {v : LV} (hp : partP ag s r j = some v) : ∃ U, (Instr.loadAt t V).run P w = .ok U w ∧ VRel E w v U := by
  cases hv with
  | rp _ _ _ _ a g h1 h2 h3 h4 =>
    have hlen : r.length = sz := h1 r (List.mem_of_getElem? hr)
    have hcell : ∀ k, k < r.length → ∃ U, w.cell? (a.add (i * sz + k)) = some U ∧ ∃ h : k < r.length, PRel (Prot E w) w r[k] U := by
      intro k hk
      have hf := flatten_get sz rows h1 i k (by omega)
      rw [hr] at hf
      simp only [Option.bind_some, List.getElem?_eq_getElem hk] at hf
      obtain ⟨hlt, he⟩ := List.getElem?_eq_some_iff.1 hf
      have := h4 _ hlt
      rw [he] at this
      exact ⟨_, (h3 _ hlt).1, hk, this⟩
    rw [addr_none h2.1] at hcell ⊢
    simp only [addr_add] at hcell ⊢
    unfold partP at hp
    cases ag with
    | false =>
      simp only [Bool.false_eq_true, if_false] at hp
      cases hj : r[j]? with
      | none => simp [hj] at hp
      | some p =>
        simp only [hj, Option.map_some, Option.some.injEq] at hp
        subst hp
        obtain ⟨hj', rfl⟩ := List.getElem?_eq_some_iff.1 hj
        obtain ⟨U, u1, _, u2⟩ := hcell j hj'
        refine ⟨U, ?_, .pv _ _ u2⟩
        simp only [Instr.loadAt, Instr.sureAddr, Sem.run_bind, Sem.run_pure, Result.andThen_ok]
        exact run_loadVar1 hag u1
    | true =>
      simp only [if_true] at hp
      split at hp
      case isFalse => cases hp
      rename_i hle
      simp only [Option.some.injEq] at hp
      subst hp
      refine ⟨.agg ((List.range s).map fun k => (w.cell? ⟨a.block, a.off + (i * sz + j) + k, none⟩).getD undef).toArray, ?_, ?_⟩
      · simp only [Instr.loadAt, Instr.sureAddr, Sem.run_bind, Sem.run_pure, Result.andThen_ok]
        refine run_loadVarA hag hs (by simp) fun k v hk => ?_
        simp only [List.getElem?_map] at hk
        have hks : k < s := by
          rcases Nat.lt_or_ge k s with h | h
          · exact h
          · rw [List.getElem?_eq_none (by simpa using h)] at hk; simp at hk
        rw [List.getElem?_range hks] at hk
        simp only [Option.map_some, Option.some.injEq] at hk
        obtain ⟨U, u1, _, u2⟩ := hcell (j + k) (by omega)
        rw [addr_add, ← hk, show a.off + (i * sz + j) + k = a.off + (i * sz + (j + k)) by omega, u1]; rfl
      · refine .agg _ _ (by simp; omega) fun k k1 k2 => ?_
        have hks : k < s := by simp at k2; exact k2
        obtain ⟨U, u1, _, u2⟩ := hcell (j + k) (by omega)
        simp only [List.getElem_map, List.getElem_range, show a.off + (i * sz + j) + k = a.off + (i * sz + (j + k)) by omega, u1, Option.getD_some, List.getElem_take, List.getElem_drop]
        exact .pv _ _ u2
end Go.Lw

set_option linter.unusedVariables false
set_option linter.unusedSimpArgs false
namespace Go.Lw

/-! ### A new object -/
/-- A new block of cells: an object of our own. -/
theorem new_obj {E : Env} {w : World} {σ : LSt} (hS : Sim E w σ) {sz cap : Nat} {e : TypeId} {rows : List (List LV)} {C : Array Value} (hrow : ∀ r ∈ rows, r.length = sz) (hcap : rows.length ≤ cap) (hm : cap ≤ maxLen) (hC : C.size = cap * sz)
    (hv : ∀ j (hj : j < rows.flatten.length), ∃ V, C[j]? = some V ∧ V.oneCell' = true ∧ VRel E w rows.flatten[j] V) {w0 : World} (h0 : w0.heap = w.heap) (os : w0.os = w.os) (tape : w0.tape = w.tape) (output : w0.output = w.output) :
    let L : Loc := ⟨some w.heap.size, rows.length, cap, sz, e⟩
    Ext E w (E.put σ.nx L) (w0.alloc (.cells C e)) ∧ Sim (E.put σ.nx L) (w0.alloc (.cells C e)) (σ.put σ.nx (.arr sz rows)) ∧ (E.put σ.nx L).f σ.nx = some L ∧ (E.put σ.nx L).U σ.nx := by
  intro L
  have hnew : (w0.alloc (.cells C e)).heap[w.heap.size]? = some (.cells C e (0, 0)) := by
    show (w0.heap.push _)[w.heap.size]? = _
    rw [h0, Array.getElem?_push, if_pos rfl]
  have := hS.put (w' := w0.alloc (.cells C e)) (id := σ.nx) (L' := L) (o := .arr sz rows) (.inr fun h => Nat.lt_irrefl _ (hS.nx _ h))
    (fun k hk _ => by show (w0.heap.push _)[k]? = _; rw [h0, Array.getElem?_push, if_neg (by omega)])
    (fun b hb => .inl (by simp only [L, Option.some.injEq] at hb; subst hb; simp [h0]))
    (by simp [h0]) os tape output
    (fun hX => ⟨rfl, rfl, hrow, .inr ⟨w.heap.size, C, rfl, hnew, hcap, hm, hC, fun j hj => by
      obtain ⟨V, g1, g2, g3⟩ := hv j hj
      exact ⟨V, g1, g2, g3.mono hX⟩⟩⟩)
  exact ⟨this.1, this.2, by simp [Env.put], .inl rfl⟩

theorem ptr_new {E : Env} {w : World} {id n cap sz : Nat} {b : Nat} {e : TypeId} (h : E.f id = some ⟨some b, n, cap, sz, e⟩) (hx : E.U id) : VRel E w (.ptr id n 0 0) (.pointer (some ⟨b, 0, none⟩)) := by
  refine .ptr _ _ _ _ _ hx ⟨_, rfl⟩ fun L hL => ?_
  rw [h] at hL
  obtain rfl := Option.some.inj hL
  exact ⟨Nat.le_refl _, fun _ => ⟨b, rfl, by simp⟩⟩

theorem own_new {E : Env} {w : World} {id n cap sz : Nat} {b : Nat} {e : TypeId} (h : E.f id = some ⟨some b, n, cap, sz, e⟩) (hx : E.U id) : VRel E w (.own id n 0 n) (.slice (some ⟨b, 0, none⟩) n cap) := by
  refine .own _ _ _ _ _ hx ⟨_, _, _, rfl⟩ fun L hL => ?_
  rw [h] at hL
  obtain rfl := Option.some.inj hL
  exact ⟨Nat.le_refl _, fun _ => by simp [Loc.isSlice]⟩

/-- 'box': a variable of its own. -/
theorem box_sound {P : Program} {e : TypeId} {E : Env} {w : World} {σ : LSt} (hS : Sim E w σ) {v : LV} {V : Value} (hv : VRel E w v V) (hl : v.cells.all (·.leaf) = true) :
    ∃ U w' E', (Instr.box e V).run P w = .ok U w' ∧ Ext E w E' w' ∧ Sim E' w' (σ.put σ.nx (.arr v.cells.length [v.cells])) ∧ VRel E' w' (.ptr σ.nx 1 0 0) U := by
  obtain ⟨Vs, h1, h2, h3, h4⟩ := hv.cells hl
  have := new_obj hS (sz := v.cells.length) (cap := 1) (e := e) (rows := [v.cells]) (C := Vs.toArray) (by simp) (by simp) (by simp [maxLen]) (by simp [h2]) (by
    intro j hj
    simp only [List.flatten_cons, List.flatten_nil, List.append_nil] at hj ⊢
    exact ⟨Vs[j], by simp [h2 ▸ hj], h4 _ (List.getElem_mem _), h3 j hj (h2 ▸ hj)⟩) (w0 := w) rfl rfl rfl rfl
  obtain ⟨g1, g2, g3, g4⟩ := this
  refine ⟨.pointer (some ⟨w.heap.size, 0, none⟩), _, _, ?_, g1, g2, ptr_new g3 g4⟩
  simp only [Instr.box, newVar, newRow, h1, Sem.run_bind, Sem.run_pure, Result.andThen_ok]
  rfl

def tzero (P : Program) (t : TypeId) : Option Value := (P.info? t).bind (·.zero)
theorem run_zero {P : Program} {t : TypeId} {z : Value} (h : tzero P t = some z) (w : World) : (zeroValue t).run P w = .ok z w := by
  unfold tzero at h
  cases hu : P.info? t with
  | none => simp [hu] at h
  | some d => simp only [hu, Option.bind_some] at h; simp [zeroValue, typeInfo, hu, h]

theorem alloc_sound {P : Program} {e : TypeId} {z : Value} (hz : tzero P e = some z) {E : Env} {w : World} {σ : LSt} (hS : Sim E w σ) (hl : (ofV z).cells.all (·.leaf) = true) :
    ∃ U w' E', (Instr.alloc e true (.tuple #[])).run P w = .ok U w' ∧ Ext E w E' w' ∧ Sim E' w' (σ.put σ.nx (.arr (ofV z).cells.length [(ofV z).cells])) ∧ VRel E' w' (.ptr σ.nx 1 0 0) U := by
  obtain ⟨U, w', E', h1, h2⟩ := box_sound (P := P) (e := e) hS (ofV_rel E w z) hl
  refine ⟨U, w', E', ?_, h2⟩
  simp only [Instr.alloc, Sem.run_bind, run_zero hz, Result.andThen_ok]
  simpa [Instr.box, Sem.run_bind] using h1

/-! ### Writing -/
def splice (r : List LV) (j : Nat) (cs : List LV) : List LV := r.take j ++ cs ++ r.drop (j + cs.length)

theorem splice_len {r : List LV} {j : Nat} {cs : List LV} (h : j + cs.length ≤ r.length) : (splice r j cs).length = r.length := by simp [splice]; omega

theorem flatten_set {α : Type} (sz : Nat) : ∀ (rows : List (List α)) (i : Nat) (r' : List α), (∀ r ∈ rows, r.length = sz) → r'.length = sz → i < rows.length → (rows.set i r').flatten = rows.flatten.take (i * sz) ++ r' ++ rows.flatten.drop (i * sz + sz)
  | [], i, r', _, _, h => by simp at h
  | r :: rows, 0, r', h, h', _ => by
    have hr := h r (by simp)
    simp [List.drop_append, hr]
  | r :: rows, i + 1, r', h, h', hi => by
    have hr := h r (by simp)
    have ih := flatten_set sz rows i r' (fun r hr => h r (by simp [hr])) h' (by simpa using hi)
    simp only [List.set_cons_succ, List.flatten_cons, ih]
    rw [List.take_append, List.drop_append]
    have e1 : (i + 1) * sz - r.length = i * sz := by rw [hr, Nat.add_mul]; omega
    have e2 : (i + 1) * sz + sz - r.length = i * sz + sz := by rw [hr, Nat.add_mul]; omega
    rw [e1, e2, List.take_of_length_le (l := r) (by rw [hr, Nat.add_mul]; omega), List.drop_of_length_le (l := r) (by rw [hr, Nat.add_mul]; omega)]
    simp

theorem flatten_splice (sz : Nat) (rows : List (List LV)) (i j : Nat) (r cs : List LV) (h : ∀ r ∈ rows, r.length = sz) (hr : rows[i]? = some r) (hj : j + cs.length ≤ sz) :
    (rows.set i (splice r j cs)).flatten = rows.flatten.take (i * sz + j) ++ cs ++ rows.flatten.drop (i * sz + j + cs.length) := by
  have hi : i < rows.length := (List.getElem?_eq_some_iff.1 hr).1
  have hlen : r.length = sz := h r (List.mem_of_getElem? hr)
  rw [flatten_set sz rows i (splice r j cs) h (by rw [splice_len (by omega), hlen]) hi]
  have hF : rows.flatten.drop (i * sz) = r ++ rows.flatten.drop (i * sz + sz) := by
    apply List.ext_getElem?
    intro k
    rw [List.getElem?_drop, List.getElem?_append]
    by_cases hk : k < r.length
    · rw [if_pos hk, flatten_get sz rows h i k (by omega), hr]; rfl
    · rw [if_neg hk, List.getElem?_drop]; congr 1; omega
  have h1 : rows.flatten.take (i * sz + j) = rows.flatten.take (i * sz) ++ r.take j := by
    rw [List.take_add, hF, List.take_append_of_le_length (by omega)]
  have h2 : rows.flatten.drop (i * sz + j + cs.length) = r.drop (j + cs.length) ++ rows.flatten.drop (i * sz + sz) := by
    rw [← List.drop_append_of_le_length (by omega), ← hF, List.drop_drop]; congr 1; omega
  rw [h1, h2]
  simp [splice, List.append_assoc]

theorem store_sound {P : Program} {t : TypeId} {s : Nat} (hs : tsize P t = some s) {E : Env} {w : World} {σ : LSt} (hS : Sim E w σ) {id sz n i j : Nat} {rows : List (List LV)} {V : Value}
    (hv : VRel E w (.ptr id n i j) V) (hg : σ.get id = some (.arr sz rows)) (hn : rows.length = n) {r : List LV} (hr : rows[i]? = some r) {x : LV} {X : Value} (hx : VRel E w x X) (hl : x.cells.all (·.leaf) = true) (hxs : x.cells.length = s) (hj : j + s ≤ r.length) :
    ∃ w' E', (Instr.storeAt t V X).run P w = .ok () w' ∧ Ext E w E' w' ∧ Sim E' w' (σ.put id (.arr sz (rows.set i (splice r j x.cells)))) := by
  have hi : i < rows.length := (List.getElem?_eq_some_iff.1 hr).1
  obtain ⟨L, b, C, h1, h2, h3, h4, h5, h6, h7, h8, h9, h10, h11⟩ := obj_cells hS hg hr
  obtain ⟨L', b', k1, k2, rfl⟩ := ptr_val hS hv hg hn (by omega)
  obtain rfl : L = L' := by rw [h1] at k1; simpa using k1
  obtain rfl : b = b' := by rw [h2] at k2; simpa using k2
  obtain ⟨Vs, v1, v2, v3, v4⟩ := hx.cells hl
  have hfit : i * sz + j + Vs.length ≤ C.size := by
    rw [h8]
    have : (i + 1) * sz ≤ L.cap * sz := Nat.mul_le_mul_right _ (by omega)
    rw [Nat.add_mul] at this
    omega
  have hrun := run_storeCells_at P b (i * sz + j) L.e Vs 0 C w h7 (by simpa using hfit) v4
  simp only [Nat.add_zero] at hrun
  obtain ⟨L2, q1, q2, q3, q4, q5⟩ := hS.obj id _ hg
  obtain rfl : L = L2 := by rw [h1] at q1; simpa using q1
  have hput := hS.put (w' := w.setRow b (C.toList.take (i * sz + j) ++ Vs ++ C.toList.drop (i * sz + j + Vs.length)).toArray) (id := id) (L' := L) (o := .arr sz (rows.set i (splice r j x.cells)))
    (.inl ⟨L, h1, .inl rfl⟩) (fun k _ hne => setRow_other w b k _ (fun e => hne L h1 (by rw [h2, e]))) (fun b' hb => .inr ⟨L, h1, hb⟩) (by simp) rfl rfl rfl
    (fun hX => by
      refine ⟨h3, by simp [h4], ?_, .inr ⟨b, _, h2, setRow_heap w b C _ L.e _ h7, h5, h6, ?_, ?_⟩⟩
      · intro r' hr'
        rcases List.mem_or_eq_of_mem_set hr' with h | rfl
        · exact h10 r' h
        · rw [splice_len (by omega), h9]
      · simp only [List.size_toArray, List.length_append, List.length_take, List.length_drop, Array.length_toList]; rw [h3]; omega
      · intro k hk
        have hfl := flatten_splice sz rows i j r x.cells h10 hr (by omega)
        have hget : (rows.set i (splice r j x.cells)).flatten[k]? = if i * sz + j ≤ k ∧ k < i * sz + j + Vs.length then x.cells[k - (i * sz + j)]? else rows.flatten[k]? := by
          have hfr : rows.flatten.length = rows.length * sz := flatten_len sz _ h10
          have hisz : i * sz + sz ≤ rows.length * sz := by
            have : (i + 1) * sz ≤ rows.length * sz := Nat.mul_le_mul_right _ (by omega)
            rw [Nat.add_mul] at this; omega
          rw [hfl]
          simp only [List.getElem?_append, List.length_append, List.length_take, List.getElem?_take, List.getElem?_drop]
          have e1 : min (i * sz + j) rows.flatten.length = i * sz + j := by omega
          rw [e1]
          by_cases c1 : k < i * sz + j
          · rw [if_pos (by omega), if_pos c1, if_pos c1, if_neg (by omega)]
          · by_cases c2 : k < i * sz + j + Vs.length
            · rw [if_pos (by omega), if_neg c1, if_pos (by omega)]
            · rw [if_neg (by omega), if_neg (by omega)]
              congr 1; omega
        have hCk : (C.toList.take (i * sz + j) ++ Vs ++ C.toList.drop (i * sz + j + Vs.length)).toArray[k]? = if i * sz + j ≤ k ∧ k < i * sz + j + Vs.length then Vs[k - (i * sz + j)]? else C[k]? := by
          simp only [List.getElem?_toArray, List.getElem?_append, List.length_append, List.length_take, List.getElem?_take, List.getElem?_drop, Array.length_toList, Array.getElem?_toList]
          have e1 : min (i * sz + j) C.size = i * sz + j := by omega
          rw [e1]
          by_cases c1 : k < i * sz + j
          · rw [if_pos (by omega), if_pos c1, if_pos c1, if_neg (by omega)]
          · by_cases c2 : k < i * sz + j + Vs.length
            · rw [if_pos (by omega), if_neg c1, if_pos (by omega)]
            · rw [if_neg (by omega), if_neg (by omega)]
              congr 1; omega
        have hk' : (rows.set i (splice r j x.cells)).flatten[k]? = some _ := List.getElem?_eq_getElem hk
        rw [hget] at hk'
        rw [hCk]
        by_cases c : i * sz + j ≤ k ∧ k < i * sz + j + Vs.length
        · rw [if_pos c] at hk' ⊢
          have hlt : k - (i * sz + j) < Vs.length := by omega
          rw [List.getElem?_eq_getElem (by omega)] at hk'
          refine ⟨Vs[k - (i * sz + j)], List.getElem?_eq_getElem hlt, v4 _ (List.getElem_mem _), ?_⟩
          rw [← Option.some.inj hk']
          exact (v3 _ (by omega) hlt).mono hX
        · rw [if_neg c] at hk' ⊢
          rcases q5 with ⟨e, _⟩ | ⟨b2, C2, g1, g2, g3, g4, g5, g6⟩
          · rw [h2] at e; cases e
          · obtain rfl : b = b2 := by rw [h2] at g1; simpa using g1
            obtain rfl : C = C2 := by rw [h7] at g2; simpa using g2
            obtain ⟨hlt, he⟩ := List.getElem?_eq_some_iff.1 hk'
            obtain ⟨U, u1, u2, u3⟩ := g6 k hlt
            rw [he] at u3
            exact ⟨U, u1, u2, u3.mono hX⟩)
  refine ⟨_, _, ?_, hput.1, hput.2⟩
  simp only [Instr.storeAt, Instr.sureAddr, Sem.run_bind, Sem.run_pure, Result.andThen_ok, storeVar, run_size hs, v1]
  simp only [List.size_toArray, ← v2, hxs, ne_eq, not_true_eq_false, if_false, List.toList_toArray]
  have hs' : s = Vs.length := by omega
  subst hs'
  simpa [Sem.run_bind] using hrun
end Go.Lw

set_option linter.unusedVariables false
set_option linter.unusedSimpArgs false
namespace Go.Lw

theorem Vs_get {E : Env} {w : World} {l : List LV} {Vs : List Value} (hl : l.length = Vs.length) (h : ∀ i (h1 : i < l.length) (h2 : i < Vs.length), VRel E w l[i] Vs[i]) {k : Nat} {v : LV} (hk : l[k]? = some v) : ∃ V, Vs[k]? = some V ∧ VRel E w v V := by
  obtain ⟨h1, rfl⟩ := List.getElem?_eq_some_iff.1 hk
  exact ⟨Vs[k]'(by omega), List.getElem?_eq_getElem (by omega), h k h1 (by omega)⟩

/-! ### Fields and parts -/
def tfield (P : Program) (t : TypeId) (f : Nat) : Option (Nat × TypeId) :=
  match P.underlying t with
  | some (.struct fs) => (fs[f]?).map fun x => (x.offset, x.type)
  | _ => none
theorem tfield_inv {P : Program} {t : TypeId} {f off : Nat} {ft : TypeId} (h : tfield P t f = some (off, ft)) : ∃ fs fd, P.underlying t = some (.struct fs) ∧ fs[f]? = some fd ∧ fd.offset = off ∧ fd.type = ft := by
  unfold tfield at h
  split at h
  · rename_i fs hu
    cases hf : fs[f]? with
    | none => simp [hf] at h
    | some fd => simp [hf] at h; exact ⟨fs, fd, hu, hf, h.1, h.2⟩
  · cases h

theorem run_fieldAt {P : Program} {t : TypeId} {f off s : Nat} {ft : TypeId} (h : tfield P t f = some (off, ft)) (hs : tsize P ft = some s) (hpos : 0 < s) (a : Addr) (w : World) : (Instr.fieldAt t (.pointer (some a)) f).run P w = .ok (.pointer (some (a.add off))) w := by
  obtain ⟨fs, fd, h1, h2, rfl, rfl⟩ := tfield_inv h
  simp only [Instr.fieldAt, Sem.run_bind, run_underlying h1, Result.andThen_ok]
  simp only [h2, Instr.sureAddr, fieldPlace, Sem.run_bind, Sem.run_pure, Result.andThen_ok, run_size hs]
  rw [if_neg (by omega)]
  simp

theorem run_part {P : Program} {t : TypeId} {ag : Bool} {s : Nat} (hag : tagg P t = some ag) (hs : tsize P t = some s) {E : Env} {w : World} {l : List LV} {Vs : List Value} (hl : l.length = Vs.length) (h : ∀ i (h1 : i < l.length) (h2 : i < Vs.length), VRel E w l[i] Vs[i])
    {off : Nat} {v : LV} (hp : partL ag s l off = some v) : ∃ U, (part t Vs.toArray off).run P w = .ok U w ∧ VRel E w v U := by
  unfold partL at hp
  cases ag with
  | false =>
    simp only [Bool.false_eq_true, if_false] at hp
    obtain ⟨V, h1, h2⟩ := Vs_get hl h hp
    refine ⟨V, ?_, h2⟩
    simp only [part, Sem.run_bind, run_isAgg hag, Result.andThen_ok]
    simp [h1]
  | true =>
    simp only [if_true] at hp
    split at hp
    case isFalse => cases hp
    simp only [Option.some.injEq] at hp
    subst hp
    refine ⟨.agg ((Vs.drop off).take s).toArray, ?_, .agg _ _ (by simp [hl]) fun i h1 h2 => ?_⟩
    · simp only [part, Sem.run_bind, run_isAgg hag, Result.andThen_ok, if_true, run_size hs]
      simp [List.take_drop, Nat.add_comm]
    · simp only [List.getElem_take, List.getElem_drop]
      exact h _ _ _

theorem field_sound {P : Program} {t : TypeId} {f off s : Nat} {ft : TypeId} {ag : Bool} (h : tfield P t f = some (off, ft)) (hag : tagg P ft = some ag) (hs : tsize P ft = some s) {E : Env} {w : World} {l : List LV} {V : Value} (hv : VRel E w (.agg l) V) {v : LV} (hp : partL ag s l off = some v) :
    ∃ U, (Instr.field t V f).run P w = .ok U w ∧ VRel E w v U := by
  cases hv with
  | agg l Vs hl hr =>
    obtain ⟨fs, fd, h1, h2, rfl, rfl⟩ := tfield_inv h
    obtain ⟨U, u1, u2⟩ := run_part hag hs hl hr hp
    refine ⟨U, ?_, u2⟩
    simp only [Instr.field, Sem.run_bind, run_underlying h1, Result.andThen_ok, h2, asAgg, Sem.run_pure]
    exact u1

theorem extract_sound {P : Program} {E : Env} {w : World} {l : List LV} {V : Value} (hv : VRel E w (.tup l) V) {k : Nat} {v : LV} (hk : l[k]? = some v) : ∃ U, (Instr.extract V k).run P w = .ok U w ∧ VRel E w v U := by
  cases hv with
  | tup l Vs hl hr =>
    obtain ⟨U, u1, u2⟩ := Vs_get hl hr hk
    refine ⟨U, ?_, u2⟩
    simp [Instr.extract, u1]

/-! ### What a slice holds -/
def srcRows (sz : Nat) (σ : LSt) : LV → Option (List (List LV))
  | .pv (.ro _ s rows) => if s = sz then some (rows.map (·.map .pv)) else none
  | .pv (.sc (.slice none 0 0)) => some []
  | .own id n off len =>
    match σ.get id with
    | some (.arr s rows) => if s = sz ∧ rows.length = n ∧ off + len ≤ n then some ((rows.drop off).take len) else none
    | _ => none
  | _ => none

structure SrcAt (E : Env) (w : World) (sz : Nat) (rows : List (List LV)) (a : Option Addr) (Vs : List Value) : Prop where
  row : ∀ r ∈ rows, r.length = sz
  len : Vs.length = rows.length * sz
  at_ : Vs ≠ [] → ∃ b o, a = some ⟨b, o, none⟩ ∧ ∀ j u, Vs[j]? = some u → w.cell? ⟨b, o + j, none⟩ = some u
  one : ∀ u ∈ Vs, u.oneCell' = true
  rel : ∀ j (h1 : j < rows.flatten.length) (h2 : j < Vs.length), VRel E w rows.flatten[j] Vs[j]

theorem flatten_map {α β : Type} (f : α → β) (rows : List (List α)) : (rows.map (·.map f)).flatten = rows.flatten.map f := by
  rw [List.map_flatten]

theorem src_sound {E : Env} {w : World} {σ : LSt} (hS : Sim E w σ) {sz : Nat} {v : LV} {V : Value} (hv : VRel E w v V) {rows : List (List LV)} (h : srcRows sz σ v = some rows) :
    ∃ a c Vs, V = .slice a rows.length c ∧ rows.length ≤ c ∧ SrcAt E w sz rows a Vs := by
  unfold srcRows at h
  split at h
  · rename_i k s rows0
    split at h
    case isFalse => cases h
    simp only [Option.some.injEq] at h
    subst_vars
    cases hv with
    | pv p V h =>
      cases h with
      | ronil k sz hk => exact ⟨none, 0, [], rfl, by simp, ⟨by simp, by simp, by simp, by simp, by simp⟩⟩
      | ro k sz rows a cap g hk hm hs hb hc hv =>
        refine ⟨some a, cap, (List.range rows0.flatten.length).map g, by rw [List.length_map], by rw [List.length_map]; rcases hk with ⟨_, h⟩ | ⟨_, _, _, h⟩ <;> omega, ?_⟩
        refine ⟨fun r hr => by
          obtain ⟨r0, h0, rfl⟩ := List.mem_map.1 hr
          rw [List.length_map]; exact hs r0 h0, by rw [List.length_map, List.length_map, List.length_range, flatten_len s rows0 hs], fun hn => ?_, ?_, ?_⟩
        · have hne : rows0.flatten ≠ [] := by intro e; rw [e] at hn; simp at hn
          obtain ⟨h1, h2⟩ := hb hne
          refine ⟨a.block, a.off, by rw [← addr_none h1], fun j u hj => ?_⟩
          have hlt : j < rows0.flatten.length := by
            rcases Nat.lt_or_ge j rows0.flatten.length with h | h
            · exact h
            · rw [List.getElem?_eq_none (by simpa using h)] at hj; cases hj
          simp only [List.getElem?_map, List.getElem?_range hlt, Option.map_some, Option.some.injEq] at hj
          have := (hc j hlt).1
          rw [addr_none h1, addr_add] at this
          rw [this, hj]
        · intro u hu
          simp only [List.mem_map, List.mem_range] at hu
          obtain ⟨j, hj, rfl⟩ := hu
          exact (hc j hj).2
        · intro j h1 h2
          simp only [flatten_map, List.length_map] at h1
          simp only [flatten_map, List.getElem_map, List.getElem_range]
          exact .pv _ _ (hv j h1)
  · simp only [Option.some.injEq] at h
    subst h
    obtain rfl := hv.sc_inv
    exact ⟨none, 0, [], rfl, by simp, ⟨by simp, by simp, by simp, by simp, by simp⟩⟩
  · rename_i id n off len
    split at h
    case h_2 => cases h
    rename_i s rows0 hg
    split at h
    case isFalse => cases h
    rename_i hc
    obtain ⟨rfl, rfl, hle⟩ := hc
    simp only [Option.some.injEq] at h
    subst h
    obtain ⟨L, h1, h2, h3, h4, h5⟩ := hS.obj id _ hg
    have hlen : ((rows0.drop off).take len).length = len := by simp; omega
    rw [hlen]
    cases hv with
    | own _ _ _ _ V g1 g2 g3 =>
      obtain ⟨k1, k2⟩ := g3 L h1
      have hsl := k2 (by omega)
      unfold Loc.isSlice at hsl
      rcases h5 with ⟨e, e2, e3⟩ | ⟨b, C, e1, e2, e3, e4, e5, e6⟩
      · rw [e] at hsl
        obtain ⟨⟨a, rfl⟩, rfl, rfl⟩ := hsl
        exact ⟨a, 0, [], rfl, by simp, ⟨by simp, by simp, by simp, by simp, by simp⟩⟩
      · rw [e1] at hsl
        obtain ⟨q1, a, rfl, q2⟩ := hsl
        refine ⟨some a, _, (List.range (len * s)).map fun j => (C[off * s + j]?).getD undef, rfl, by omega, ?_⟩
        have hfl : ∀ j, j < len * s → ∃ U, C[off * s + j]? = some U ∧ U.oneCell' = true ∧ ∃ h : off * s + j < rows0.flatten.length, VRel E w rows0.flatten[off * s + j] U := by
          intro j hj
          have hlt : off * s + j < rows0.flatten.length := by
            rw [flatten_len s _ h4]
            have : (off + len) * s ≤ rows0.length * s := Nat.mul_le_mul_right _ hle
            rw [Nat.add_mul] at this; omega
          obtain ⟨U, u1, u2, u3⟩ := e6 _ hlt
          exact ⟨U, u1, u2, hlt, u3⟩
        have hfd : ((rows0.drop off).take len).flatten = (rows0.flatten.drop (off * s)).take (len * s) := by
          apply List.ext_getElem?
          intro k
          by_cases hs0 : s = 0
          · subst hs0
            have z1 : ((rows0.drop off).take len).flatten = [] := List.eq_nil_of_length_eq_zero (by rw [flatten_len 0 _ (fun r hr => h4 r (List.mem_of_mem_drop (List.mem_of_mem_take hr)))]; simp)
            rw [z1]; simp
          · have hk := Nat.div_add_mod k s
            have hm := Nat.mod_lt k (show 0 < s by omega)
            rw [Nat.mul_comm] at hk
            rw [← hk, flatten_get s _ (fun r hr => h4 r (List.mem_of_mem_drop (List.mem_of_mem_take hr))) _ _ hm, List.getElem?_take, List.getElem?_take, List.getElem?_drop, List.getElem?_drop]
            have e : off * s + (k / s * s + k % s) = (off + k / s) * s + k % s := by rw [Nat.add_mul]; omega
            rw [e, flatten_get s _ h4 _ _ hm]
            by_cases c : k / s < len
            · have : k / s * s + k % s < len * s := by
                have : (k / s + 1) * s ≤ len * s := Nat.mul_le_mul_right _ c
                rw [Nat.add_mul] at this; omega
              rw [if_pos c, if_pos this]
            · have : ¬ (k / s * s + k % s < len * s) := by
                have : len * s ≤ k / s * s := Nat.mul_le_mul_right _ (by omega)
                omega
              rw [if_neg c, if_neg this]; rfl
        refine ⟨fun r hr => h4 r (List.mem_of_mem_drop (List.mem_of_mem_take hr)), by simp [hlen], fun hn => ?_, ?_, ?_⟩
        · have hpos : 0 < len * s := by
            rcases Nat.eq_zero_or_pos (len * s) with h | h
            · rw [h] at hn; simp at hn
            · exact h
          have hlp : 0 < len := Nat.pos_of_mul_pos_right hpos
          refine ⟨b, off * L.sz, by rw [q2 (by omega)], fun j u hj => ?_⟩
          have hlt : j < len * s := by
            rcases Nat.lt_or_ge j (len * s) with h | h
            · exact h
            · rw [List.getElem?_eq_none (by simpa using h)] at hj; cases hj
          simp only [List.getElem?_map, List.getElem?_range hlt, Option.map_some, Option.some.injEq] at hj
          obtain ⟨U, u1, _⟩ := hfl j hlt
          rw [cell_at e2, h2, ← hj, u1]; rfl
        · intro u hu
          simp only [List.mem_map, List.mem_range] at hu
          obtain ⟨j, hj, rfl⟩ := hu
          obtain ⟨U, u1, u2, _⟩ := hfl j hj
          rw [u1]; exact u2
        · intro j h1 h2
          simp only [List.length_map, List.length_range] at h2
          obtain ⟨U, u1, u2, h3, u3⟩ := hfl j h2
          simp only [List.getElem_map, List.getElem_range, u1, Option.getD_some]
          have : ((rows0.drop off).take len).flatten[j] = rows0.flatten[off * s + j] := by
            apply Option.some.inj
            rw [← List.getElem?_eq_getElem, ← List.getElem?_eq_getElem, hfd, List.getElem?_take, if_pos h2, List.getElem?_drop]
          rw [this]; exact u3
  · cases h

theorem len_sound {P : Program} {t e ty : TypeId} (ht : P.underlying t = some (.slice e)) {E : Env} {w : World} {σ : LSt} (hS : Sim E w σ) {sz : Nat} {v : LV} {V : Value} (hv : VRel E w v V) {rows : List (List LV)} (h : srcRows sz σ v = some rows) :
    (Builtin.len_ #[t] ty #[V]).run P w = .ok (.int .i64 rows.length) w := by
  obtain ⟨a, c, Vs, rfl, _⟩ := src_sound hS hv h
  simp [Builtin.len_, run_underlying ht, goInt]
end Go.Lw

set_option linter.unusedVariables false
set_option linter.unusedSimpArgs false
namespace Go.Lw

def telem (P : Program) (t : TypeId) : Option TypeId :=
  match P.underlying t with
  | some (.slice e) => some e
  | _ => none
theorem telem_inv {P : Program} {t e : TypeId} (h : telem P t = some e) : P.underlying t = some (.slice e) := by
  unfold telem at h
  split at h
  · rename_i hu; simp at h; subst h; exact hu
  · cases h

/-! ### Elements -/
theorem index_ro {P : Program} {t e : TypeId} {sz : Nat} (ht : telem P t = some e) (hs : tsize P e = some sz) (hpos : 0 < sz) {E : Env} {w : World} {k : Kd} {rows : List (List PV)} {V : Value} (hv : VRel E w (.pv (.ro k sz rows)) V) {ik : IntKind} {i : Int} (h0 : 0 ≤ i) (h1 : i < rows.length) :
    ∃ U, (Instr.indexAt t V (.int ik i)).run P w = .ok U w ∧ VRel E w (.rp sz rows i.toNat 0) U := by
  have hu := telem_inv ht
  cases hv with
  | pv p V h =>
    cases h with
    | ronil => simp at h1; omega
    | ro k sz rows a cap g hk hm hs' hb hc hv =>
      have hne : rows.flatten ≠ [] := by
        intro he
        have := flatten_len sz rows hs'
        rw [he] at this
        have hp : 0 < rows.length * sz := Nat.mul_pos (by omega) hpos
        simp at this; omega
      refine ⟨.pointer (some (a.add (i.toNat * sz))), ?_, by simpa using VRel.rp sz rows i.toNat 0 a g hs' (hb hne) hc hv⟩
      simp only [Instr.indexAt, asIntOf, Sem.run_bind, Sem.run_pure, Result.andThen_ok, run_underlying hu]
      rw [if_pos ⟨h0, h1⟩]
      simp [run_size hs]

theorem own_val {E : Env} {w : World} {σ : LSt} (hS : Sim E w σ) {id sz n off len : Nat} {rows : List (List LV)} {V : Value} (hv : VRel E w (.own id n off len) V) (hg : σ.get id = some (.arr sz rows)) (hn : rows.length = n) :
    ∃ L, E.f id = some L ∧ L.sz = sz ∧ L.n = n ∧ L.isSlice off len V := by
  obtain ⟨L, h1, h2, h3, h4, h5⟩ := hS.obj id _ hg
  cases hv with
  | own _ _ _ _ V g1 g2 g3 =>
    obtain ⟨k1, k2⟩ := g3 L h1
    exact ⟨L, h1, h2, by omega, k2 (by omega)⟩

theorem index_own {P : Program} {t e : TypeId} {sz : Nat} (ht : telem P t = some e) (hs : tsize P e = some sz) {E : Env} {w : World} {σ : LSt} (hS : Sim E w σ) {id n off len : Nat} {rows : List (List LV)} {V : Value} (hv : VRel E w (.own id n off len) V) (hg : σ.get id = some (.arr sz rows)) (hn : rows.length = n)
    {ik : IntKind} {i : Int} (h0 : 0 ≤ i) (h1 : i < len) (hle : off + len ≤ n) : ∃ U, (Instr.indexAt t V (.int ik i)).run P w = .ok U w ∧ VRel E w (.ptr id n (off + i.toNat) 0) U := by
  have hu := telem_inv ht
  obtain ⟨L, l1, l2, l3, l4⟩ := own_val hS hv hg hn
  have hx : E.U id := by cases hv; assumption
  obtain ⟨L', q1, q2, q3, q4, q5⟩ := hS.obj id _ hg
  obtain rfl : L = L' := by rw [l1] at q1; simpa using q1
  unfold Loc.isSlice at l4
  rcases q5 with ⟨e, e2, e3⟩ | ⟨b, C, e1, e2, e3, e4, e5, e6⟩
  · rw [e] at l4; obtain ⟨_, _, rfl⟩ := l4; simp at h1; omega
  · rw [e1] at l4
    obtain ⟨r1, a, rfl, r2⟩ := l4
    obtain rfl := r2 (by omega)
    refine ⟨.pointer (some (Addr.add ⟨b, off * L.sz, none⟩ (i.toNat * sz))), ?_, ?_⟩
    · simp only [Instr.indexAt, asIntOf, Sem.run_bind, Sem.run_pure, Result.andThen_ok, run_underlying hu]
      rw [if_pos ⟨h0, h1⟩]
      simp [run_size hs]
    · refine .ptr _ _ _ _ _ hx ⟨_, rfl⟩ fun L' hL => ?_
      obtain rfl : L = L' := by rw [l1] at hL; simpa using hL
      exact ⟨by omega, fun _ => ⟨b, e1, by rw [addr_add, Nat.add_mul, l2]; simp⟩⟩

/-! ### Parts of slices -/
theorem run_sliceBounds {P : Program} {w : World} {len cap l h : Nat} {lk hk : IntKind} (h1 : l ≤ h) (h2 : h ≤ cap) : (Instr.sliceBounds true len cap (some (.int lk l)) (some (.int hk h)) none).run P w = .ok (l, h, cap) w := by
  simp [Instr.sliceBounds, Instr.sliceBound, asIntOf, Sem.run_bind, h1, h2]

/-- The bounds of a part, as given or left out. -/
def loB (lo : Option Value) : Option Nat :=
  match lo with
  | none => some 0
  | some (.int _ i) => if 0 ≤ i then some i.toNat else none
  | _ => none
def hiB (len : Nat) (hi : Option Value) : Option Nat :=
  match hi with
  | none => some len
  | some (.int _ i) => if 0 ≤ i then some i.toNat else none
  | _ => none

theorem run_bounds {P : Program} {w : World} {len cap l h : Nat} {lo hi : Option Value} (hl : loB lo = some l) (hh : hiB len hi = some h) (h1 : l ≤ h) (h2 : h ≤ len) (hc : len ≤ cap) : (Instr.sliceBounds true len cap lo hi none).run P w = .ok (l, h, cap) w := by
  unfold loB at hl
  unfold hiB at hh
  have e1 : ∀ i : Int, 0 ≤ i → i.toNat = l → (0 ≤ i ∧ i ≤ (h : Int)) := fun i a b => ⟨a, by omega⟩
  have e2 : ∀ i : Int, 0 ≤ i → i.toNat = h → (0 ≤ i ∧ i ≤ (cap : Int)) := fun i a b => ⟨a, by omega⟩
  cases lo with
  | none =>
    simp only [Option.some.injEq] at hl
    subst hl
    cases hi with
    | none => simp only [Option.some.injEq] at hh; subst hh; simp [Instr.sliceBounds]
    | some v =>
      cases v <;> simp only [reduceCtorEq] at hh
      split at hh <;> simp only [Option.some.injEq, reduceCtorEq] at hh
      rename_i i hi0
      have := e2 i hi0 hh
      simp [Instr.sliceBounds, Instr.sliceBound, asIntOf, Sem.run_bind, this, hh]
  | some u =>
    cases u <;> simp only [reduceCtorEq] at hl
    split at hl <;> simp only [Option.some.injEq, reduceCtorEq] at hl
    rename_i i hi0
    have t1 := e1 i hi0 hl
    cases hi with
    | none => simp only [Option.some.injEq] at hh; subst hh; simp [Instr.sliceBounds, Instr.sliceBound, asIntOf, Sem.run_bind, t1, hl]
    | some v =>
      cases v <;> simp only [reduceCtorEq] at hh
      split at hh <;> simp only [Option.some.injEq, reduceCtorEq] at hh
      rename_i j hj0
      have t2 := e2 j hj0 hh
      have t3 := t1
      rw [← hh] at t3
      have t4 : i ≤ (j.toNat : Int) := t3.2
      simp [Instr.sliceBounds, Instr.sliceBound, asIntOf, Sem.run_bind, t2, hh, t1, hl]

theorem flatten_drop_take {α : Type} (s : Nat) (rows : List (List α)) (h4 : ∀ r ∈ rows, r.length = s) (off len : Nat) : ((rows.drop off).take len).flatten = (rows.flatten.drop (off * s)).take (len * s) := by
  apply List.ext_getElem?
  intro k
  by_cases hs0 : s = 0
  · subst hs0
    have z1 : ((rows.drop off).take len).flatten = [] := List.eq_nil_of_length_eq_zero (by rw [flatten_len 0 _ (fun r hr => h4 r (List.mem_of_mem_drop (List.mem_of_mem_take hr)))]; simp)
    rw [z1]; simp
  · have hk := Nat.div_add_mod k s
    have hm := Nat.mod_lt k (show 0 < s by omega)
    rw [Nat.mul_comm] at hk
    rw [← hk, flatten_get s _ (fun r hr => h4 r (List.mem_of_mem_drop (List.mem_of_mem_take hr))) _ _ hm, List.getElem?_take, List.getElem?_take, List.getElem?_drop, List.getElem?_drop]
    have e : off * s + (k / s * s + k % s) = (off + k / s) * s + k % s := by rw [Nat.add_mul]; omega
    rw [e, flatten_get s _ h4 _ _ hm]
    by_cases c : k / s < len
    · have : k / s * s + k % s < len * s := by
        have : (k / s + 1) * s ≤ len * s := Nat.mul_le_mul_right _ c
        rw [Nat.add_mul] at this; omega
      rw [if_pos c, if_pos this]
    · have : ¬ (k / s * s + k % s < len * s) := by
        have : len * s ≤ k / s * s := Nat.mul_le_mul_right _ (by omega)
        omega
      rw [if_neg c, if_neg this]; rfl

theorem run_slice {P : Program} {t e : TypeId} {sz : Nat} (ht : telem P t = some e) (hs : tsize P e = some sz) {w : World} {a : Option Addr} {len cap l h : Nat} {lo hi : Option Value} (hl : loB lo = some l) (hh : hiB len hi = some h) (h1 : l ≤ h) (h2 : h ≤ len) (hc : len ≤ cap) :
    (Instr.sliceAt t (.slice a len cap) lo hi none).run P w = .ok (.slice (if cap = l then a else a.map (·.add (l * sz))) (h - l) (cap - l)) w := by
  have hu := telem_inv ht
  simp only [Instr.sliceAt, Sem.run_bind, run_underlying hu, Result.andThen_ok, Instr.slice, run_bounds hl hh h1 h2 hc, run_size hs, Sem.run_pure]

theorem slice_ro {P : Program} {t e : TypeId} {sz : Nat} (ht : telem P t = some e) (hs : tsize P e = some sz) {E : Env} {w : World} {k : Kd} {rows : List (List PV)} {V : Value} (hv : VRel E w (.pv (.ro k sz rows)) V) {lo hi : Option Value} {l h : Nat} (hl : loB lo = some l) (hh : hiB rows.length hi = some h) (h1 : l ≤ h) (h2 : h ≤ rows.length) :
    ∃ U, (Instr.sliceAt t V lo hi none).run P w = .ok U w ∧ VRel E w (.pv (.ro .any sz ((rows.drop l).take (h - l)))) U := by
  cases hv with
  | pv p V hp =>
    cases hp with
    | ronil k sz hk =>
      simp only [List.length_nil, Nat.le_zero_eq] at h2 hh
      subst h2
      obtain rfl : l = 0 := by omega
      refine ⟨_, run_slice (a := none) (cap := 0) ht hs hl hh (by omega) (by omega) (by omega), ?_⟩
      exact .pv _ _ (.ronil _ _ (.inr (.inl rfl)))
    | ro k sz rows a cap g hk hm hs' hb hc hv =>
      have hcap : rows.length ≤ cap := by rcases hk with ⟨_, h⟩ | ⟨_, _, _, h⟩ <;> omega
      refine ⟨_, run_slice (a := some a) ht hs hl hh h1 h2 hcap, .pv _ _ ?_⟩
      have hrow : ∀ r ∈ (rows.drop l).take (h - l), r.length = sz := fun r hr => hs' r (List.mem_of_mem_drop (List.mem_of_mem_take hr))
      have hlen : ((rows.drop l).take (h - l)).length = h - l := by simp; omega
      have hfl := flatten_drop_take sz rows hs' l (h - l)
      by_cases e : cap = l
      · rw [if_pos e]
        have hz : h - l = 0 := by omega
        have := PRel.ro (T := Prot E w) (w := w) .any sz ((rows.drop l).take (h - l)) a (cap - l) g (.inr ⟨by simp, by simp, by simp, by omega⟩) (by omega) hrow
          (fun hn => by rw [hz] at hn; simp at hn) (fun j hj => by rw [hz] at hj; simp at hj) (fun j hj => by simp [hz] at hj)
        rw [hlen] at this
        exact this
      · rw [if_neg e]
        have hcell : ∀ j, j < ((rows.drop l).take (h - l)).flatten.length → l * sz + j < rows.flatten.length := by
          intro j hj
          rw [hfl] at hj
          simp only [List.length_take, List.length_drop] at hj
          omega
        have := PRel.ro (T := Prot E w) (w := w) .any sz ((rows.drop l).take (h - l)) (a.add (l * sz)) (cap - l) (fun j => g (l * sz + j)) (.inr ⟨by simp, by simp, by simp, by omega⟩) (by omega) hrow
          (fun hn => by
            have hne : rows.flatten ≠ [] := by intro e0; rw [hfl, e0] at hn; simp at hn
            obtain ⟨b1, b2⟩ := hb hne
            refine ⟨?_, by rw [addr_add_block]; exact b2⟩
            rw [addr_none b1, addr_add])
          (fun j hj => by
            have hlt := hcell j hj
            have hne : rows.flatten ≠ [] := by intro e0; rw [e0] at hlt; simp at hlt
            have := hc _ hlt
            rw [addr_none (hb hne).1] at this ⊢
            simpa only [addr_add, Nat.add_assoc] using this)
          (fun j hj => by
            have hlt := hcell j hj
            have : ((rows.drop l).take (h - l)).flatten[j] = rows.flatten[l * sz + j] := by
              apply Option.some.inj
              rw [← List.getElem?_eq_getElem, ← List.getElem?_eq_getElem, hfl, List.getElem?_take, if_pos (by rw [hfl] at hj; simp at hj; omega), List.getElem?_drop]
            rw [this]; exact hv _ hlt)
        rw [hlen] at this
        exact this

theorem slice_own {P : Program} {t e : TypeId} {sz : Nat} (ht : telem P t = some e) (hs : tsize P e = some sz) {E : Env} {w : World} {σ : LSt} (hS : Sim E w σ) {id n off len : Nat} {rows : List (List LV)} {V : Value} (hv : VRel E w (.own id n off len) V) (hg : σ.get id = some (.arr sz rows)) (hn : rows.length = n) (hle : off + len ≤ n)
    {lo hi : Option Value} {l h : Nat} (hl : loB lo = some l) (hh : hiB len hi = some h) (h1 : l ≤ h) (h2 : h ≤ len) : ∃ U, (Instr.sliceAt t V lo hi none).run P w = .ok U w ∧ VRel E w (.own id n (off + l) (h - l)) U := by
  obtain ⟨L, l1, l2, l3, l4⟩ := own_val hS hv hg hn
  have hx : E.U id := by cases hv; assumption
  obtain ⟨L', q1, q2, q3, q4, q5⟩ := hS.obj id _ hg
  obtain rfl : L = L' := by rw [l1] at q1; simpa using q1
  have hsl := l4
  unfold Loc.isSlice at hsl
  have fin : ∀ U, (∃ a l c, U = .slice a l c) → L.isSlice (off + l) (h - l) U → VRel E w (.own id n (off + l) (h - l)) U := fun U hp hU => by
    refine .own _ _ _ _ _ hx hp fun L' hL => ?_
    obtain rfl : L = L' := by rw [l1] at hL; simpa using hL
    exact ⟨by omega, fun _ => hU⟩
  rcases q5 with ⟨e, e2, e3⟩ | ⟨b, C, e1, e2, e3, e4, e5, e6⟩
  · rw [e] at hsl; obtain ⟨⟨a, rfl⟩, rfl, rfl⟩ := hsl
    obtain rfl : h = 0 := by omega
    obtain rfl : l = 0 := by omega
    refine ⟨_, run_slice ht hs hl hh (by omega) (by omega) (by omega), fin _ ⟨_, _, _, rfl⟩ ?_⟩
    unfold Loc.isSlice; rw [e]; exact ⟨⟨a, by simp⟩, rfl, rfl⟩
  · rw [e1] at hsl
    obtain ⟨r1, a, rfl, r2⟩ := hsl
    refine ⟨_, run_slice ht hs hl hh (by omega) (by omega) (by omega), fin _ ⟨_, _, _, rfl⟩ ?_⟩
    unfold Loc.isSlice; rw [e1]
    refine ⟨by omega, ?_⟩
    by_cases e : L.cap - off = l
    · rw [if_pos e]; exact ⟨a, by rw [show L.cap - off - l = L.cap - (off + l) by omega], fun hp => by omega⟩
    · rw [if_neg e]
      refine ⟨a.add (l * sz), by rw [show L.cap - off - l = L.cap - (off + l) by omega]; rfl, fun hp => ?_⟩
      obtain rfl := r2 (by omega)
      rw [addr_add, Nat.add_mul, l2]

/-- 's[:0:0]'. -/
theorem slice_zero {P : Program} {t e : TypeId} {sz : Nat} (ht : telem P t = some e) (hs : tsize P e = some sz) {E : Env} {w : World} {V : Value} {a : Option Addr} {len cap : Nat} (hV : V = .slice a len cap) {lo : Option Value} {hk mk : IntKind} (hl : loB lo = some 0) :
    (Instr.sliceAt t V lo (some (.int hk 0)) (some (.int mk 0))).run P w = .ok (.slice a 0 0) w := by
  have hu := telem_inv ht
  subst hV
  have hb : (Instr.sliceBounds true len cap lo (some (.int hk 0)) (some (.int mk 0))).run P w = .ok (0, 0, 0) w := by
    unfold loB at hl
    cases lo with
    | none => simp [Instr.sliceBounds, Instr.sliceBound, asIntOf, Sem.run_bind]
    | some v =>
      cases v <;> simp only [reduceCtorEq] at hl
      split at hl <;> simp only [Option.some.injEq, reduceCtorEq] at hl
      rename_i i hi0
      have : i = 0 := by omega
      subst this
      simp [Instr.sliceBounds, Instr.sliceBound, asIntOf, Sem.run_bind]
  simp only [Instr.sliceAt, Sem.run_bind, run_underlying hu, Result.andThen_ok, Instr.slice, hb, run_size hs, Sem.run_pure]
  simp
end Go.Lw

set_option linter.unusedVariables false
set_option linter.unusedSimpArgs false
namespace Go.Lw

def tbytes (P : Program) (t : TypeId) : Option Nat := (P.info? t).map (·.bytes)

theorem info_of {P : Program} {t : TypeId} {sz by_ : Nat} {z : Value} (hs : tsize P t = some sz) (hb : tbytes P t = some by_) (hz : tzero P t = some z) : ∃ i, P.info? t = some i ∧ i.size = sz ∧ i.bytes = by_ ∧ i.zero = some z := by
  unfold tsize at hs; unfold tbytes at hb; unfold tzero at hz
  cases h : P.info? t with
  | none => simp [h] at hs
  | some i => simp [h] at hs hb hz; exact ⟨i, rfl, hs, hb, hz⟩

/-- Nothing appended: the slice itself. -/
theorem run_append_zero {P : Program} {t ty e : TypeId} {i : TypeInfo} (ht : P.underlying t = some (.slice e)) (hi : P.info? e = some i) {w : World} (a b : Option Addr) (n cap c : Nat) (hc : n ≤ cap) : (Builtin.append_ #[t, t] ty #[.slice a n cap, .slice b 0 c]).run P w = .ok (.slice a n cap) w := by
  have hf : (Builtin.firstCells i.size 0 (.slice b 0 c)).run P w = .ok #[] w := by
    cases b with
    | none => simp [Builtin.firstCells]
    | some b => simp [Builtin.firstCells, loadCells, loadCellsFrom]
  cases a with
  | none => simp [Builtin.append_, run_underlying ht, Go.sizeOf, typeInfo, hi, Builtin.lenOf, hc, hf]
  | some a => simp [Builtin.append_, run_underlying ht, Go.sizeOf, typeInfo, hi, Builtin.lenOf, hc, hf, storeCells]

/-- The result of an append that lays a new block. -/
theorem grown_ok {w : World} {news olds : List Value} {z : Value} {need old : Nat} {e : TypeId} {sz : Nat} (hz : z.cells.size = sz) (hl : olds.length + news.length = need * sz) (hn : need ≤ maxLen) :
    need ≤ grownCap w need old e ∧ grownCap w need old e ≤ maxLen ∧ (olds.toArray ++ news.toArray ++ Builtin.zeroCells z.cells (grownCap w need old e - need)).size = grownCap w need old e * sz ∧
      ∀ (j : Nat) (v : Value), (olds ++ news)[j]? = some v → (olds.toArray ++ news.toArray ++ Builtin.zeroCells z.cells (grownCap w need old e - need))[j]? = some v := by
  have h1 := grownCap_ge w need old e
  have h2 := grownCap_le_maxLen w need old e hn
  refine ⟨h1, h2, ?_, ?_⟩
  · simp only [Array.size_append, List.size_toArray, size_zeroCells, hz, hl]
    rw [← Nat.add_mul]; congr 1; omega
  · intro j v hj
    rw [Array.getElem?_append_left]
    · rw [← hj, ← Array.getElem?_toList]; simp
    · have := (List.getElem?_eq_some_iff.1 hj).1
      simpa using this

theorem flatten_append_rel {E : Env} {w : World} {r1 r2 : List (List LV)} {V1 V2 : List Value} {sz : Nat} (h1 : ∀ r ∈ r1, r.length = sz) (l1 : V1.length = r1.length * sz)
    (k1 : ∀ j (h1 : j < r1.flatten.length) (h2 : j < V1.length), VRel E w r1.flatten[j] V1[j]) (k2 : ∀ j (h1 : j < r2.flatten.length) (h2 : j < V2.length), VRel E w r2.flatten[j] V2[j]) (hl2 : r2.flatten.length = V2.length) :
    ∀ j (hj : j < (r1 ++ r2).flatten.length), ∃ V, (V1 ++ V2)[j]? = some V ∧ VRel E w (r1 ++ r2).flatten[j] V := by
  intro j hj
  have e1 : r1.flatten.length = V1.length := by rw [flatten_len sz r1 h1, l1]
  have hf : (r1 ++ r2).flatten = r1.flatten ++ r2.flatten := by simp
  have hj2 : j < (r1.flatten ++ r2.flatten).length := by rw [← hf]; exact hj
  have hget : (r1 ++ r2).flatten[j] = (r1.flatten ++ r2.flatten)[j] := by
    apply Option.some.inj
    rw [← List.getElem?_eq_getElem, ← List.getElem?_eq_getElem, hf]
  rw [hget]
  by_cases c : j < V1.length
  · refine ⟨V1[j], by rw [List.getElem?_append_left c, List.getElem?_eq_getElem c], ?_⟩
    rw [List.getElem_append_left (by omega)]
    exact k1 j (by omega) c
  · have hj3 : j - V1.length < V2.length := by simp only [List.length_append] at hj2; omega
    refine ⟨V2[j - V1.length], by rw [List.getElem?_append_right (by omega), List.getElem?_eq_getElem hj3], ?_⟩
    rw [List.getElem_append_right (by omega)]
    have := k2 (j - r1.flatten.length) (by omega) (by omega)
    simp only [e1] at this ⊢
    exact this

theorem SrcAt.src {E : Env} {w : World} {sz : Nat} {rows : List (List LV)} {a : Option Addr} {Vs : List Value} (hA : SrcAt E w sz rows a Vs) (hpos : 0 < sz) (h0 : 0 < rows.length) : ∃ b', a = some b' ∧ ∀ (j : Nat) (u : Value), Vs[j]? = some u → w.cell? (b'.add j) = some u := by
  have hne : Vs ≠ [] := by
    intro e0
    have := hA.len; rw [e0] at this
    have hp : 0 < rows.length * sz := Nat.mul_pos h0 hpos
    simp at this; omega
  obtain ⟨b, o, rfl, h⟩ := hA.at_ hne
  exact ⟨_, rfl, fun j u hj => by rw [addr_add]; exact h j u hj⟩

theorem run_append_room' {P : Program} (w : World) (t ty e e' : TypeId) (i : TypeInfo) (ht : P.underlying t = some (.slice e)) (hi : P.info? e = some i)
    (g sLen sCap : Nat) (cur : Array Value) (hg : w.heap[g]? = some (.cells cur e' (0, 0)))
    (a : Addr) (m c : Nat) (news : List Value) (hl : news.length = m * i.size) (hnews : ∀ j u, news[j]? = some u → w.cell? (a.add j) = some u) (h1 : ∀ u ∈ news, u.oneCell' = true)
    (hroom : sLen + m ≤ sCap) (hfit : sLen * i.size + news.length ≤ cur.size) :
    (Builtin.append_ #[t, t] ty #[.slice (some ⟨g, 0, none⟩) sLen sCap, .slice (some a) m c]).run P w =
      .ok (.slice (some ⟨g, 0, none⟩) (sLen + m) sCap) (w.setRow g (cur.toList.take (sLen * i.size) ++ news ++ cur.toList.drop (sLen * i.size + news.length)).toArray) := by
  have hf := run_firstCells_some (P := P) w i.size m a m c news hl hnews
  have hst := run_storeCells_at P g (sLen * i.size) e' news 0 cur w hg (by simpa using hfit) h1
  simp only [Nat.add_zero] at hst
  simp [Builtin.append_, run_underlying ht, Go.sizeOf, typeInfo, hi, Builtin.lenOf, hroom, hf, Addr.add_lit, hst]

/-- An object of our own at a slice that has no room at all: 'append' to nil, to 's[:0:0]'. -/
theorem append_none {P : Program} {t ty e : TypeId} {sz by_ : Nat} {z : Value} (ht : telem P t = some e) (hs : tsize P e = some sz) (hb : tbytes P e = some by_) (hz : tzero P e = some z) (hzs : z.cells.size = sz) (hpos : 0 < sz)
    {E : Env} {w : World} {σ : LSt} (hS : Sim E w σ) {a : Option Addr} {id : Nat} (hid : (∃ L, E.f id = some L ∧ L.blk = none ∧ L.n = 0 ∧ L.cap = 0 ∧ L.sz = sz) ∨ id = σ.nx)
    {x : LV} {X : Value} (hx : VRel E w x X) {rows : List (List LV)} (hr : srcRows sz σ x = some rows) (hm : rows.length ≤ maxLen) (hby : rows.length * by_ ≤ 140737488355328) :
    ∃ U w' E', (Builtin.append_ #[t, t] ty #[.slice a 0 0, X]).run P w = .ok U w' ∧ Ext E w E' w' ∧ Sim E' w' (σ.put id (.arr sz rows)) ∧ VRel E' w' (.own id rows.length 0 rows.length) U := by
  obtain ⟨i, i1, i2, i3, i4⟩ := info_of hs hb hz
  have hu := telem_inv ht
  obtain ⟨b, c, Vs, rfl, hc, hA⟩ := src_sound hS hx hr
  have hfl : rows.flatten.length = Vs.length := by rw [flatten_len sz rows hA.row, hA.len]
  have finish : ∀ (L' : Loc) (w' : World) (U : Value), (∃ a l c, U = .slice a l c) → (Ext E w (E.put id L') w' ∧ Sim (E.put id L') w' (σ.put id (.arr sz rows))) → L'.n = rows.length → L'.isSlice 0 rows.length U → VRel (E.put id L') w' (.own id rows.length 0 rows.length) U := by
    intro L' w' U hp _ hn hsl
    refine .own _ _ _ _ _ ?_ hp fun L hL => ?_
    · exact .inl rfl
    · have : L' = L := by simpa [Env.put] using hL
      subst this
      exact ⟨by omega, fun _ => hsl⟩
  by_cases h0 : rows.length = 0
  · have hrows : rows = [] := List.eq_nil_of_length_eq_zero h0
    subst hrows
    have hrun := run_append_zero (ty := ty) hu i1 (w := w) a b 0 0 c (Nat.le_refl _)
    obtain ⟨L', q1, q2, q3, q4, q5⟩ : ∃ L' : Loc, ((∃ L, E.f id = some L ∧ (L' = L ∨ L.n < L'.n)) ∨ ¬ E.U id) ∧ L'.blk = none ∧ L'.n = 0 ∧ L'.cap = 0 ∧ L'.sz = sz := by
      rcases hid with ⟨L, h1, h2, h3, h4, h5⟩ | h
      · exact ⟨L, .inl ⟨L, h1, .inl rfl⟩, h2, h3, h4, h5⟩
      · exact ⟨⟨none, 0, 0, sz, e⟩, .inr (by rw [h]; exact fun h => Nat.lt_irrefl _ (hS.nx _ h)), rfl, rfl, rfl, rfl⟩
    have hput := hS.put (w' := w) (id := id) (L' := L') (o := .arr sz []) q1
      (fun _ _ _ => rfl) (by rw [q2]; simp) (Nat.le_refl _) rfl rfl rfl (fun _ => ⟨q5, q3, by simp, .inl ⟨q2, q3, q4⟩⟩)
    exact ⟨_, _, _, hrun, hput.1, hput.2, finish _ _ _ ⟨_, _, _, rfl⟩ hput q3 (by unfold Loc.isSlice; rw [q2]; exact ⟨⟨a, rfl⟩, rfl, rfl⟩)⟩
  · obtain ⟨hge, hle, hsize, hget⟩ := grown_ok (w := w) (news := Vs) (olds := []) (need := rows.length) (old := 0) (e := e) hzs (by simp [hA.len]) hm
    obtain ⟨b', rfl, hcell⟩ := hA.src hpos (by omega)
    have hrun : (Builtin.append_ #[t, t] ty #[.slice a 0 0, .slice (some b') rows.length c]).run P w = .ok (.slice (some ⟨w.heap.size, 0, none⟩) rows.length (grownCap w rows.length 0 e)) (w.drew.alloc (.cells (([] : List Value).toArray ++ Vs.toArray ++ Builtin.zeroCells z.cells (grownCap w rows.length 0 e - rows.length)) e)) := by
      cases a with
      | none =>
        have := run_append_nil (P := P) w t ty e i z hu i1 i4 b' rows.length c Vs (by rw [hA.len, i2]) hcell (by omega) (by simp only [maxLen] at hm; omega) (by rw [i3]; omega)
        rw [this]; simp
      | some a =>
        have := run_append_grow (P := P) w t ty e i z hu i1 i4 a 0 0 [] (by simp) (by simp) b' rows.length c Vs (by rw [hA.len, i2]) hcell (by omega) (by simp only [maxLen] at hm; omega) (by
          rw [i3]; exact growslice_fits (by omega) (by simpa using hby))
        simpa using this
    have hnew : (w.drew.alloc (.cells (([] : List Value).toArray ++ Vs.toArray ++ Builtin.zeroCells z.cells (grownCap w rows.length 0 e - rows.length)) e)).heap[w.heap.size]? = some (.cells (([] : List Value).toArray ++ Vs.toArray ++ Builtin.zeroCells z.cells (grownCap w rows.length 0 e - rows.length)) e (0, 0)) := heap_alloc_new w.drew _
    have hput := hS.put (w' := w.drew.alloc (.cells (([] : List Value).toArray ++ Vs.toArray ++ Builtin.zeroCells z.cells (grownCap w rows.length 0 e - rows.length)) e)) (id := id) (L' := ⟨some w.heap.size, rows.length, grownCap w rows.length 0 e, sz, e⟩) (o := .arr sz rows)
      (by rcases hid with ⟨L, h1, h2, h3, h4, h5⟩ | h
          · exact .inl ⟨L, h1, .inr (by show L.n < rows.length; omega)⟩
          · exact .inr (by rw [h]; exact fun h => Nat.lt_irrefl _ (hS.nx _ h)))
      (fun k hk _ => by show (w.heap.push _)[k]? = _; rw [Array.getElem?_push, if_neg (by omega)]) (fun b hb => .inl (by simp only [Option.some.injEq] at hb; subst hb; simp)) (by simp) rfl rfl rfl
      (fun hX => ⟨rfl, rfl, hA.row, .inr ⟨w.heap.size, _, rfl, hnew, hge, hle, hsize, fun j hj => by
        have hlt : j < Vs.length := by omega
        exact ⟨Vs[j], hget j _ (by simp [hlt]), hA.one _ (List.getElem_mem _), (hA.rel j hj hlt).mono hX⟩⟩⟩)
    exact ⟨_, _, _, hrun, hput.1, hput.2, finish _ _ _ ⟨_, _, _, rfl⟩ hput rfl ⟨by simp, ⟨w.heap.size, 0, none⟩, by simp, fun _ => by simp⟩⟩

theorem grow_fin {P : Program} {t ty e : TypeId} {sz : Nat} {E : Env} {w : World} {σ : LSt} (hS : Sim E w σ) {id n : Nat} {L : Loc} (l1 : E.f id = some L) (l3 : L.n = n) (hidlt : E.U id) {old rows : List (List LV)} (hn : old.length = n) (h0 : ¬ rows.length = 0)
    (hrow : ∀ r ∈ old ++ rows, r.length = sz) {K : Nat} (hge : n + rows.length ≤ K) (hle : K ≤ maxLen) {Cn : Array Value} (hsize : Cn.size = K * sz) {S X : Value}
    (hrun : (Builtin.append_ #[t, t] ty #[S, X]).run P w = .ok (.slice (some ⟨w.heap.size, 0, none⟩) (n + rows.length) K) (w.drew.alloc (.cells Cn e)))
    (hcell : ∀ E' w', Ext E w E' w' → ∀ j (hj : j < (old ++ rows).flatten.length), ∃ V, Cn[j]? = some V ∧ V.oneCell' = true ∧ VRel E' w' (old ++ rows).flatten[j] V) :
    ∃ U w' E', (Builtin.append_ #[t, t] ty #[S, X]).run P w = .ok U w' ∧ Ext E w E' w' ∧ Sim E' w' (σ.put id (.arr sz (old ++ rows))) ∧ VRel E' w' (.own id (n + rows.length) 0 (n + rows.length)) U := by
  have hnew : (w.drew.alloc (.cells Cn e)).heap[w.heap.size]? = some (.cells Cn e (0, 0)) := heap_alloc_new w.drew _
  have hput := hS.put (w' := w.drew.alloc (.cells Cn e)) (id := id) (L' := ⟨some w.heap.size, n + rows.length, K, sz, e⟩) (o := .arr sz (old ++ rows))
    (.inl ⟨L, l1, .inr (by show L.n < n + rows.length; omega)⟩)
    (fun k hk _ => by show (w.heap.push _)[k]? = _; rw [Array.getElem?_push, if_neg (by omega)]) (fun b hb => .inl (by simp only [Option.some.injEq] at hb; subst hb; simp)) (by simp) rfl rfl rfl
    (fun hX => ⟨rfl, by rw [List.length_append, hn], hrow, .inr ⟨w.heap.size, Cn, rfl, hnew, hge, hle, hsize, hcell _ _ hX⟩⟩)
  refine ⟨_, _, _, hrun, hput.1, hput.2, .own _ _ _ _ _ ?_ ⟨_, _, _, rfl⟩ fun L2 hL => ?_⟩
  · exact .inl rfl
  · have : (⟨some w.heap.size, n + rows.length, K, sz, e⟩ : Loc) = L2 := by simpa [Env.put] using hL
    subst this
    exact ⟨Nat.le_refl _, fun _ => ⟨by simp, ⟨w.heap.size, 0, none⟩, by simp, fun _ => by simp⟩⟩

set_option maxHeartbeats 1000000 in
/-- 'append' to the whole of an array of our own. -/
theorem append_own {P : Program} {t ty e : TypeId} {sz by_ : Nat} {z : Value} (ht : telem P t = some e) (hs : tsize P e = some sz) (hb : tbytes P e = some by_) (hz : tzero P e = some z) (hzs : z.cells.size = sz) (hpos : 0 < sz)
    {E : Env} {w : World} {σ : LSt} (hS : Sim E w σ) {id n : Nat} {V : Value} (hv : VRel E w (.own id n 0 n) V) {old : List (List LV)} (hg : σ.get id = some (.arr sz old)) (hn : old.length = n)
    {x : LV} {X : Value} (hx : VRel E w x X) {rows : List (List LV)} (hr : srcRows sz σ x = some rows) (hm : n + rows.length ≤ maxLen) (hby : (n + rows.length) * by_ ≤ 140737488355328) :
    ∃ U w' E', (Builtin.append_ #[t, t] ty #[V, X]).run P w = .ok U w' ∧ Ext E w E' w' ∧ Sim E' w' (σ.put id (.arr sz (old ++ rows))) ∧ VRel E' w' (.own id (n + rows.length) 0 (n + rows.length)) U := by
  obtain ⟨L, l1, l2, l3, l4⟩ := own_val hS hv hg hn
  have hidlt := hS.fresh _ _ l1
  obtain ⟨L', q1, q2, q3, q4, q5⟩ := hS.obj id _ hg
  obtain rfl : L = L' := by rw [l1] at q1; simpa using q1
  have hsl := l4
  unfold Loc.isSlice at hsl
  rcases q5 with ⟨e0, e1, e2⟩ | ⟨b, C, e1, e2, e3, e4, e5, e6⟩
  · rw [e0] at hsl
    obtain ⟨⟨a, rfl⟩, _, hn0⟩ := hsl
    subst hn0
    have hold : old = [] := List.eq_nil_of_length_eq_zero (by omega)
    subst hold
    obtain ⟨U, w', E', h1, h2, h3, h4⟩ := append_none (ty := ty) ht hs hb hz hzs hpos hS (a := a) (id := id) (.inl ⟨L, l1, e0, e1, e2, l2⟩) hx hr (by simpa using hm) (by simpa using hby)
    exact ⟨U, w', E', h1, h2, by simpa using h3, by simpa using h4⟩
  · rw [e1] at hsl
    obtain ⟨r1, a, rfl, r2⟩ := hsl
    obtain ⟨i, i1, i2, i3, i4⟩ := info_of hs hb hz
    have hu := telem_inv ht
    obtain ⟨xb, c, Vs, rfl, hc, hA⟩ := src_sound hS hx hr
    have hfl : rows.flatten.length = Vs.length := by rw [flatten_len sz rows hA.row, hA.len]
    have finish : ∀ (L' : Loc) (w' : World) (U : Value), (∃ a l c, U = .slice a l c) → L'.n = n + rows.length → L'.isSlice 0 (n + rows.length) U → VRel (E.put id L') w' (.own id (n + rows.length) 0 (n + rows.length)) U := by
      intro L' w' U hp hn' hsl
      refine .own _ _ _ _ _ ?_ hp fun L hL => ?_
      · exact .inl rfl
      · have : L' = L := by simpa [Env.put] using hL
        subst this
        exact ⟨by omega, fun _ => hsl⟩
    have hrow : ∀ r ∈ old ++ rows, r.length = sz := by
      intro r h
      rcases List.mem_append.1 h with h | h
      · exact q4 r h
      · exact hA.row r h
    have hofl : old.flatten.length = n * sz := by rw [flatten_len sz old q4, hn]
    -- the old cells
    have hCold : ∀ j (hj : j < n * sz), ∃ V, (C.toList.take (n * sz))[j]? = some V ∧ V.oneCell' = true ∧ C[j]? = some V := by
      intro j hj
      obtain ⟨V, v1, v2, _⟩ := e6 j (by omega)
      exact ⟨V, by rw [List.getElem?_take, if_pos hj, Array.getElem?_toList, v1], v2, v1⟩
    have hCs : n * sz ≤ C.size := by rw [e5, l2]; exact Nat.mul_le_mul_right _ (by omega)
    have holdlen : (C.toList.take (n * sz)).length = n * sz := by simp; omega
    have hrel1 : ∀ (E' : Env) (w' : World), Ext E w E' w' → ∀ j (h1 : j < old.flatten.length) (h2 : j < (C.toList.take (n * sz)).length), VRel E' w' old.flatten[j] (C.toList.take (n * sz))[j] := by
      intro E' w' hX j h1 h2
      obtain ⟨V, v1, v2, v3⟩ := e6 j h1
      have : (C.toList.take (n * sz))[j] = V := by
        apply Option.some.inj
        rw [← List.getElem?_eq_getElem, List.getElem?_take, if_pos (by omega), Array.getElem?_toList, v1]
      rw [this]; exact v3.mono hX
    by_cases h0 : rows.length = 0
    · have hrows : rows = [] := List.eq_nil_of_length_eq_zero h0
      subst hrows
      have hrun := run_append_zero (ty := ty) hu i1 (w := w) (some a) xb n (L.cap - 0) c (by omega)
      have hput := hS.put (w' := w) (id := id) (L' := L) (o := .arr sz (old ++ [])) (.inl ⟨L, l1, .inl rfl⟩) (fun _ _ _ => rfl) (fun b hb => .inr ⟨L, l1, hb⟩) (Nat.le_refl _) rfl rfl rfl
        (fun hX => by rw [List.append_nil]; exact (show ORel E w L (.arr sz old) from ⟨q2, q3, q4, .inr ⟨b, C, e1, e2, e3, e4, e5, e6⟩⟩).mono hX fun _ _ => rfl)
      exact ⟨_, _, _, hrun, hput.1, hput.2, finish _ _ _ ⟨_, _, _, rfl⟩ (by simpa using l3) (by simpa using l4)⟩
    · obtain ⟨b', rfl, hcell⟩ := hA.src hpos (by omega)
      by_cases hroom : n + rows.length ≤ L.cap
      · obtain rfl := r2 (by omega)
        have hfit : n * i.size + Vs.length ≤ C.size := by
          rw [i2, hA.len, e5, l2, ← Nat.add_mul]; exact Nat.mul_le_mul_right _ hroom
        have hrun := run_append_room' (P := P) w t ty e L.e i hu i1 b n L.cap C e2 b' rows.length c Vs (by rw [hA.len, i2]) hcell hA.one hroom hfit
        rw [i2] at hrun
        have hput := hS.put (w' := w.setRow b (C.toList.take (n * sz) ++ Vs ++ C.toList.drop (n * sz + Vs.length)).toArray) (id := id) (L' := { L with n := n + rows.length }) (o := .arr sz (old ++ rows))
          (.inl ⟨L, l1, .inr (by show L.n < n + rows.length; omega)⟩) (fun k _ hne => setRow_other w b k _ (fun e => hne L l1 (by rw [e1, e]))) (fun b' hb => .inr ⟨L, l1, hb⟩) (by simp) rfl rfl rfl
          (fun hX => ⟨l2, by simp [hn], hrow, .inr ⟨b, _, e1, setRow_heap w b C _ L.e _ e2, hroom, e4, by
            simp only [List.size_toArray, List.length_append, holdlen, List.length_drop, Array.length_toList]; rw [i2] at hfit; rw [← e5]; omega, fun j hj => by
              obtain ⟨V, v1, v2⟩ := flatten_append_rel (r2 := rows) (V2 := Vs) q4 (by rw [holdlen, hn]) (hrel1 _ _ hX) (fun j k1 k2 => (hA.rel j k1 k2).mono hX) hfl j hj
              refine ⟨V, ?_, ?_, v2⟩
              · have hj' := (List.getElem?_eq_some_iff.1 v1).1
                rw [List.getElem?_toArray, List.getElem?_append_left hj', v1]
              · rcases Nat.lt_or_ge j (n * sz) with c | c
                · obtain ⟨V', w1, w2, _⟩ := hCold j c
                  rw [List.getElem?_append_left (by omega), w1] at v1
                  rw [← Option.some.inj v1]; exact w2
                · rw [List.getElem?_append_right (by omega)] at v1
                  exact hA.one _ (List.mem_of_getElem? v1)⟩⟩)
        have hfin := finish { L with n := n + rows.length } (w.setRow b (C.toList.take (n * sz) ++ Vs ++ C.toList.drop (n * sz + Vs.length)).toArray) (.slice (some ⟨b, 0, none⟩) (n + rows.length) L.cap) ⟨_, _, _, rfl⟩ rfl (by
          unfold Loc.isSlice
          simp only [e1]
          exact ⟨by omega, ⟨b, 0, none⟩, by simp, fun _ => by simp⟩)
        simp only [Nat.zero_mul, Nat.sub_zero]
        exact ⟨_, _, _, hrun, hput.1, hput.2, hfin⟩
      · have holds : ∀ j v, (C.toList.take (n * sz))[j]? = some v → w.cell? (a.add j) = some v := by
          intro j v hj
          have hlt : j < n * sz := by have := (List.getElem?_eq_some_iff.1 hj).1; omega
          have hpn : 0 < n := Nat.pos_of_mul_pos_right (by omega : 0 < n * sz)
          obtain rfl := r2 (by omega)
          rw [addr_add, cell_at e2, ← hj, List.getElem?_take, if_pos hlt, Array.getElem?_toList]; simp
        obtain ⟨hge, hle, hsize, hget⟩ := grown_ok (w := w) (news := Vs) (olds := C.toList.take (n * sz)) (need := n + rows.length) (old := L.cap - 0) (e := e) hzs (by rw [holdlen, hA.len, Nat.add_mul]) hm
        have hrun := run_append_grow (P := P) w t ty e i z hu i1 i4 a n (L.cap - 0) (C.toList.take (n * sz)) (by rw [holdlen, i2]) holds b' rows.length c Vs (by rw [hA.len, i2]) hcell (by omega) (by simp only [maxLen] at hm; omega) (by rw [i3]; exact growslice_fits (by omega) hby)
        generalize hK : grownCap w (n + rows.length) (L.cap - 0) e = K at hge hle hsize hget hrun
        generalize hCn : (C.toList.take (n * sz)).toArray ++ Vs.toArray ++ Builtin.zeroCells z.cells (K - (n + rows.length)) = Cn at hsize hget hrun
        exact grow_fin hS l1 l3 hidlt hn h0 hrow hge hle hsize hrun (fun E' w' hX j hj => by
              obtain ⟨V, v1, v2⟩ := flatten_append_rel (r2 := rows) (V2 := Vs) q4 (by rw [holdlen, hn]) (hrel1 _ _ hX) (fun j k1 k2 => (hA.rel j k1 k2).mono hX) hfl j hj
              refine ⟨V, hget j V v1, ?_, v2⟩
              rcases Nat.lt_or_ge j (n * sz) with c | c
              · obtain ⟨V', w1, w2, _⟩ := hCold j c
                rw [List.getElem?_append_left (by omega), w1] at v1
                rw [← Option.some.inj v1]; exact w2
              · rw [List.getElem?_append_right (by omega)] at v1
                exact hA.one _ (List.mem_of_getElem? v1))

/-- 'make'. -/
theorem make_sound {P : Program} {t e : TypeId} {sz by_ : Nat} {z : Value} (ht : telem P t = some e) (hs : tsize P e = some sz) (hb : tbytes P e = some by_) (hz : tzero P e = some z) (hzs : (ofV z).cells.length = sz) (hzl : (ofV z).cells.all (·.leaf) = true)
    {E : Env} {w : World} {σ : LSt} (hS : Sim E w σ) {kl kc : IntKind} {n : Nat} (hm : n ≤ maxLen) (hby : by_ * n ≤ 281474976710656) :
    ∃ U w' E', (Instr.makeSlice t (.int kl n) (.int kc n)).run P w = .ok U w' ∧ Ext E w E' w' ∧ Sim E' w' (σ.put σ.nx (.arr sz (List.replicate n (ofV z).cells))) ∧ VRel E' w' (.own σ.nx n 0 n) U := by
  obtain ⟨i, i1, i2, i3, i4⟩ := info_of hs hb hz
  have hu := telem_inv ht
  obtain ⟨Zs, y1, y2, y3, y4⟩ := (ofV_rel E w z).cells hzl
  have hzc : z.cells.size = sz := by rw [y1]; simp; omega
  have hrun := run_make (P := P) w t e i z hu i1 i4 kl kc n n (by omega) (Int.le_refl _) (by
    rw [i3]
    have h : ((by_ * n : Nat) : Int) ≤ 281474976710656 := by omega
    rwa [Int.natCast_mul] at h) (by simp only [maxLen] at hm; omega)
  simp only [Int.toNat_natCast, i2] at hrun
  have hnew := new_obj hS (sz := sz) (cap := n) (e := e) (rows := List.replicate n (ofV z).cells) (C := madeCells z.cells (n * sz)) (by simp [hzs]) (by simp) hm (size_madeCells _ _) (by
    intro j hj
    have hrl : ∀ r ∈ List.replicate n (ofV z).cells, r.length = sz := by simp [hzs]
    have hj' : j < n * sz := by rw [flatten_len sz _ hrl] at hj; simpa using hj
    have hsp : 0 < sz := Nat.pos_of_mul_pos_left (by omega : 0 < n * sz)
    have hmod := Nat.mod_lt j hsp
    have hdm := Nat.div_add_mod j sz
    rw [Nat.mul_comm] at hdm
    have hq : j / sz < n := by
      rcases Nat.lt_or_ge (j / sz) n with h | h
      · exact h
      · have : n * sz ≤ j / sz * sz := Nat.mul_le_mul_right _ h
        omega
    have hget : (List.replicate n (ofV z).cells).flatten[j]? = (ofV z).cells[j % sz]? := by
      conv => lhs; rw [← hdm]
      rw [flatten_get sz _ hrl _ _ hmod, List.getElem?_replicate, if_pos hq]; rfl
    have hz2 : j % sz < Zs.length := by omega
    refine ⟨Zs[j % sz], ?_, y4 _ (List.getElem_mem _), ?_⟩
    · simp only [madeCells, Array.getElem?_map, Array.getElem?_range, hj', if_true, Option.map_some, hzc]
      rw [y1]; simp [hz2]
    · have h1 := y3 (j % sz) (by omega) hz2
      have : (List.replicate n (ofV z).cells).flatten[j] = (ofV z).cells[j % sz]'(by omega) := by
        apply Option.some.inj
        rw [← List.getElem?_eq_getElem, ← List.getElem?_eq_getElem, hget]
      rw [this]; exact h1) (w0 := w) rfl rfl rfl rfl
  simp only [List.length_replicate] at hnew
  exact ⟨_, _, _, hrun, hnew.1, hnew.2.1, own_new hnew.2.2.1 hnew.2.2.2⟩
end Go.Lw

set_option linter.unusedVariables false
set_option linter.unusedSimpArgs false
namespace Go.Lw

def isBoolD : TypeDesc → Bool
  | .bool => true
  | _ => false
theorem isBoolD_inv {P : Program} {t : TypeId} (h : (P.underlying t).map isBoolD = some true) : P.underlying t = some .bool := by
  cases hu : P.underlying t with
  | none => simp [hu] at h
  | some d => cases d <;> simp [hu, isBoolD] at h ⊢

/-- An operation on two numbers, bools or strings. -/
def shlI (k : IntKind) (a b : Int) : Int := k.wrap (a * 2 ^ (min b.toNat k.bits))
def bandI (k : IntKind) (a b : Int) : Int := k.wrap (BitVec.ofInt k.bits a &&& BitVec.ofInt k.bits b).toNat
def borI (k : IntKind) (a b : Int) : Int := k.wrap (BitVec.ofInt k.bits a ||| BitVec.ofInt k.bits b).toNat
def bxorI (k : IntKind) (a b : Int) : Int := k.wrap (BitVec.ofInt k.bits a ^^^ BitVec.ofInt k.bits b).toNat
def lbin (P : Program) (op : BinOp) (t : TypeId) (x y : Value) : Option Value :=
  match x, y with
  | .int k a, .int k' b =>
    match op with
    | .shl => if 0 ≤ b then some (.int k (shlI k a b)) else none
    | .shr => if 0 ≤ b then some (.int k (a.fdiv (2 ^ (min b.toNat k.bits)))) else none
    | .add => if k = k' then some (.int k (k.wrap (a + b))) else none
    | .sub => if k = k' then some (.int k (k.wrap (a - b))) else none
    | .mul => if k = k' then some (.int k (k.wrap (a * b))) else none
    | .quo => if k = k' then if b = 0 then none else some (.int k (k.wrap (a.tdiv b))) else none
    | .rem => if k = k' then if b = 0 then none else some (.int k (a.tmod b)) else none
    | .and => if k = k' then some (.int k (bandI k a b)) else none
    | .or => if k = k' then some (.int k (borI k a b)) else none
    | .xor => if k = k' then some (.int k (bxorI k a b)) else none
    | .eql => if k = k' then some (.bool (a == b)) else none
    | .neq => if k = k' then some (.bool (a != b)) else none
    | .lss => if k = k' then some (.bool (decide (a < b))) else none
    | .leq => if k = k' then some (.bool (decide (a ≤ b))) else none
    | .gtr => if k = k' then some (.bool (decide (a > b))) else none
    | .geq => if k = k' then some (.bool (decide (a ≥ b))) else none
    | _ => none
  | .bool a, .bool b =>
    if (P.underlying t).map isBoolD = some true then
      match op with
      | .eql => some (.bool (a == b))
      | .neq => some (.bool (!(a == b)))
      | _ => none
    else none
  | .string a, .string b =>
    match op with
    | .eql => some (.bool (a.toList == b.toList))
    | .neq => some (.bool !(a.toList == b.toList))
    | _ => none
  | _, _ => none

def binO (op : BinOp) (t : TypeId) (x y : Operand) (X Y : Value) : Sem Value := do eqGuard op t x y X Y; binOp op t X Y

theorem lbin_sound {P : Program} {op : BinOp} {t : TypeId} {x y : Operand} {X Y V : Value} (h : lbin P op t X Y = some V) (w : World) : (binO op t x y X Y).run P w = .ok V w := by
  unfold lbin at h
  split at h
  · rename_i k a k' b
    have hg : (eqGuard op t x y (.int k a) (.int k' b)).run P w = .ok () w := by cases op <;> simp [eqGuard]
    simp only [binO, Sem.run_bind, hg, Result.andThen_ok]
    cases op <;> simp only [reduceCtorEq] at h
    case shl => split at h <;> simp only [Option.some.injEq, reduceCtorEq] at h; subst h; simp only [binOp, Op.shift]; rw [if_neg (by omega)]; rfl
    case shr => split at h <;> simp only [Option.some.injEq, reduceCtorEq] at h; subst h; simp only [binOp, Op.shift]; rw [if_neg (by omega)]; rfl
    all_goals
      split at h
      case isFalse => cases h
      rename_i hk
      subst hk
    case h_1.quo.isTrue => split at h <;> simp only [Option.some.injEq, reduceCtorEq] at h; subst h; simp only [binOp, Op.intDiv, ne_eq, not_true_eq_false, if_false]; rw [if_neg (by assumption)]; rfl
    case h_1.rem.isTrue => split at h <;> simp only [Option.some.injEq, reduceCtorEq] at h; subst h; simp only [binOp, Op.intDiv, ne_eq, not_true_eq_false, if_false]; rw [if_neg (by assumption)]; rfl
    all_goals
      simp only [Option.some.injEq] at h
      subst h
      simp [binOp, Op.intArith, Op.intCmp, Op.intBits, bandI, borI, bxorI]
  · rename_i a b
    split at h
    case isFalse => cases h
    rename_i hu
    have hu := isBoolD_inv hu
    cases op <;> simp only [reduceCtorEq, Option.some.injEq] at h <;> subst h <;> simp [binO, eqGuard, binOp, Op.equal, Op.maxDepth, run_equalIn_bool' w _ t a b hu]
  · cases op <;> simp only [reduceCtorEq, Option.some.injEq] at h <;> subst h <;> simp [binO, eqGuard, binOp, Op.stringOp]
  · cases h

/-- A slice, a function, a pointer held against nil. -/
def nilTest (σ : LSt) : LV → Option Bool
  | .pv (.ro .nil _ _) => some true
  | .pv (.ro .tight _ _) => some false
  | .pv (.ro .loose _ _) => some false
  | .pv (.sc (.slice none _ _)) => some true
  | _ => none

theorem run_equalIn_nil {P : Program} (d : Nat) {t e : TypeId} (hu : P.underlying t = some (.slice e)) (a : Option Addr) (l c : Nat) (w : World) : (Op.equalIn (d + 1) t (.slice a l c) (.slice none 0 0)).run P w = .ok a.isNone w := by
  cases a <;> simp [Op.equalIn, run_underlying hu]

theorem nil_sound {P : Program} {op : BinOp} {t e : TypeId} (ht : telem P t = some e) {x y : Operand} {E : Env} {w : World} {σ : LSt} {v : LV} {V : Value} (hv : VRel E w v V) {b : Bool} (hb : nilTest σ v = some b) (hop : op = .eql ∨ op = .neq) :
    (binO op t x y V (.slice none 0 0)).run P w = .ok (.bool (if op = .eql then b else !b)) w := by
  have hu := telem_inv ht
  obtain ⟨a, l, c, rfl, ha⟩ : ∃ a l c, V = .slice a l c ∧ a.isNone = b := by
    unfold nilTest at hb
    split at hb <;> simp only [Option.some.injEq, reduceCtorEq] at hb <;> subst hb
    · cases hv with
      | pv p V h =>
        cases h with
        | ronil => exact ⟨none, 0, 0, rfl, rfl⟩
        | ro k sz rows a cap g hk => rcases hk with ⟨h, _⟩ | ⟨h, _⟩ <;> simp at h
    · cases hv with
      | pv p V h =>
        cases h with
        | ronil k sz hk => rcases hk with h | h | h <;> simp at h
        | ro k sz rows a cap g hk => exact ⟨some a, _, _, rfl, rfl⟩
    · cases hv with
      | pv p V h =>
        cases h with
        | ronil k sz hk => rcases hk with h | h | h <;> simp at h
        | ro k sz rows a cap g hk => exact ⟨some a, _, _, rfl, rfl⟩
    · obtain rfl := hv.sc_inv; exact ⟨none, _, _, rfl, rfl⟩
  subst ha
  have he : (Op.equal t (.slice a l c) (.slice none 0 0)).run P w = .ok a.isNone w := run_equalIn_nil 9999 hu a l c w
  rcases hop with rfl | rfl
  · simp only [binO, eqGuard, Sem.run_bind]
    simp [binOp, Sem.run_bind, he]
  · simp only [binO, eqGuard, Sem.run_bind]
    simp [binOp, Sem.run_bind, he]

/-! ### Structs held against one another -/
def scEq : TypeDesc → Value → Value → Option Bool
  | .int _, .int k a, .int k' b => if k = k' then some (a == b) else none
  | .bool, .bool a, .bool b => some (a == b)
  | .string, .string a, .string b => some (a.toList == b.toList)
  | _, _, _ => none
def teq (P : Program) (t : TypeId) : Option (List (Nat × TypeDesc)) :=
  match P.underlying t with
  | some (.struct fs) => if P.stoodInHeld t = false ∧ P.eqGuardType P.depth t = false ∧ fs.toList.all (fun f => f.name != "_") then fs.toList.mapM fun f => (P.underlying f.type).map fun d => (f.offset, d) else none
  | _ => none
def scOf : Option LV → Option Value
  | some (.pv (.sc v)) => some v
  | _ => none
def fieldsEq : List (Nat × TypeDesc) → List LV → List LV → Option Bool
  | [], _, _ => some true
  | (o, d) :: fs, xs, ys =>
    match scOf xs[o]?, scOf ys[o]? with
    | some u, some v =>
      match scEq d u v, fieldsEq fs xs ys with
      | some b, some c => some (b && c)
      | _, _ => none
    | _, _ => none

theorem scOf_inv {x : Option LV} {v : Value} (h : scOf x = some v) : x = some (.pv (.sc v)) := by
  unfold scOf at h
  split at h
  · simp only [Option.some.injEq] at h; subst h; rfl
  · cases h

theorem run_part_sc {P : Program} {t : TypeId} {d : TypeDesc} (hu : P.underlying t = some d) (hd : isAggD d = false) {E : Env} {w : World} {l : List LV} {Vs : List Value} (hl : l.length = Vs.length) (h : ∀ i (h1 : i < l.length) (h2 : i < Vs.length), VRel E w l[i] Vs[i])
    {off : Nat} {v : Value} (hp : l[off]? = some (.pv (.sc v))) : (part t Vs.toArray off).run P w = .ok v w := by
  obtain ⟨V, h1, h2⟩ := Vs_get hl h hp
  obtain rfl := h2.sc_inv
  have hag : tagg P t = some false := by simp [tagg, hu, hd]
  simp only [part, Sem.run_bind, run_isAgg hag, Result.andThen_ok]
  simp [h1]

theorem eqFields_sound {P : Program} {E : Env} {w : World} {l1 l2 : List LV} {V1 V2 : List Value} (e1 : l1.length = V1.length) (h1 : ∀ i (h1 : i < l1.length) (h2 : i < V1.length), VRel E w l1[i] V1[i]) (e2 : l2.length = V2.length) (h2 : ∀ i (h1 : i < l2.length) (h2 : i < V2.length), VRel E w l2[i] V2[i]) (d : Nat) :
    ∀ (fs : List Field) (os : List (Nat × TypeDesc)) (b : Bool), fs.mapM (fun f => (P.underlying f.type).map fun d => (f.offset, d)) = some os → fs.all (fun f => f.name != "_") = true → fieldsEq os l1 l2 = some b → (Op.eqFields (d + 1) V1.toArray V2.toArray fs).run P w = .ok b w
  | [], os, b, hm, _, hb => by
    simp at hm; subst hm
    simp only [fieldsEq, Option.some.injEq] at hb
    subst hb; simp [Op.eqFields]
  | f :: fs, os, b, hm, hn, hb => by
    cases hu : P.underlying f.type with
    | none => simp [List.mapM_cons, hu] at hm
    | some dd =>
      cases hr : fs.mapM (fun f => (P.underlying f.type).map fun d => (f.offset, d)) with
      | none => simp [List.mapM_cons, hu, hr] at hm
      | some os' =>
        simp only [List.mapM_cons, hu, hr, Option.map_some, Option.bind_eq_bind, Option.bind_some, Option.pure_def, Option.some.injEq] at hm
        subst hm
        simp only [List.all_cons, Bool.and_eq_true] at hn
        simp only [fieldsEq] at hb
        split at hb
        case h_2 => cases hb
        rename_i u v hu1 hv1
        split at hb
        case h_2 => cases hb
        rename_i c1 c2 hc1 hc2
        simp only [Option.some.injEq] at hb
        subst hb
        have hag : isAggD dd = false := by cases dd <;> simp [scEq] at hc1 ⊢ <;> rfl
        have p1 := run_part_sc (P := P) hu hag e1 h1 (scOf_inv hu1)
        have p2 := run_part_sc (P := P) hu hag e2 h2 (scOf_inv hv1)
        have p3 : (Op.equalIn (d + 1) f.type u v).run P w = .ok c1 w := by
          unfold scEq at hc1
          split at hc1
          · split at hc1
            · rename_i hk; subst hk; simp only [Option.some.injEq] at hc1; subst hc1; exact run_equalIn_int w d _ _ _ _ _ hu
            · cases hc1
          · simp only [Option.some.injEq] at hc1; subst hc1; exact run_equalIn_bool' w d _ _ _ hu
          · simp only [Option.some.injEq] at hc1; subst hc1; exact run_equalIn_string w d _ _ _ hu
          · cases hc1
        have ih := eqFields_sound (P := P) e1 h1 e2 h2 d fs os' c2 hr hn.2 hc2
        have hne : f.name ≠ "_" := by simpa using hn.1
        simp only [Op.eqFields, hne, ne_eq, not_false_eq_true, if_true, Sem.run_bind, p1, p2, p3, Result.andThen_ok]
        cases c1
        · simp
        · simpa using ih

theorem struct_eq_sound {P : Program} {op : BinOp} {t : TypeId} {os : List (Nat × TypeDesc)} (ht : teq P t = some os) {x y : Operand} {E : Env} {w : World} {l1 l2 : List LV} {V1 V2 : Value} (h1 : VRel E w (.agg l1) V1) (h2 : VRel E w (.agg l2) V2) {b : Bool} (hb : fieldsEq os l1 l2 = some b) (hop : op = .eql ∨ op = .neq) :
    (binO op t x y V1 V2).run P w = .ok (.bool (if op = .eql then b else !b)) w := by
  unfold teq at ht
  split at ht
  case h_2 => cases ht
  rename_i fs hu
  split at ht
  case isFalse => cases ht
  rename_i hc
  cases h1 with
  | agg _ Vs1 e1 r1 =>
    cases h2 with
    | agg _ Vs2 e2 r2 =>
      have hf : P.fieldsOf t = fs := by simp [Program.fieldsOf, hu]
      have := eqFields_sound (P := P) e1 r1 e2 r2 9998 fs.toList os b ht hc.2.2 hb
      have he : (Op.equalIn 10000 t (.agg Vs1.toArray) (.agg Vs2.toArray)).run P w = .ok b w := by
        rw [run_equalIn_struct w 9999 t _ _ (by rw [hf]; exact hu) hc.1, hf]; exact this
      rcases hop with rfl | rfl
      · simp only [binO, Sem.run_bind, run_eqGuard_agg w _ t x y _ _ hc.2.1, Result.andThen_ok, run_eql_struct, he, if_true]
      · simp only [binO, Sem.run_bind, run_eqGuard_agg w _ t x y _ _ hc.2.1, Result.andThen_ok, run_neq_struct, he, reduceCtorEq, if_false]

/-! ### The rest -/
def lun (op : UnOp) : Value → Option Value
  | .int k a => match op with
    | .neg => some (.int k (k.wrap (0 - a)))
    | _ => none
  | .bool b => match op with
    | .not => some (.bool (!b))
    | _ => none
  | _ => none
theorem lun_sound {P : Program} {op : UnOp} {X V : Value} (h : lun op X = some V) (w : World) : (Op.unary op X).run P w = .ok V w := by
  unfold lun at h
  split at h <;> (try split at h) <;> simp only [Option.some.injEq, reduceCtorEq] at h <;> subst h <;> simp [Op.unary, Op.intArith]

def lminmax (mx : Bool) : Value → Value → Option Value
  | .int k a, .int _ b => some (.int k (if mx then (if b > a then b else a) else (if b < a then b else a)))
  | _, _ => none

def tint (P : Program) (t : TypeId) : Option IntKind :=
  match P.underlying t with
  | some (.int k) => some k
  | _ => none
theorem tint_inv {P : Program} {t : TypeId} {k : IntKind} (h : tint P t = some k) : P.underlying t = some (.int k) := by
  unfold tint at h
  split at h
  · rename_i hu; simp only [Option.some.injEq] at h; subst h; exact hu
  · cases h
def isStrD : TypeDesc → Bool
  | .string => true
  | _ => false
theorem isStrD_inv {P : Program} {t : TypeId} (h : (P.underlying t).map isStrD = some true) : P.underlying t = some .string := by
  cases hu : P.underlying t with
  | none => simp [hu] at h
  | some d => cases d <;> simp [hu, isStrD] at h ⊢

/-- The bytes of a row. -/
def unB : List (List LV) → Option (List Int)
  | [] => some []
  | [.pv (.sc (.int .u8 n))] :: r => (unB r).map (n :: ·)
  | _ => none
def encB (n : Int) : List PV := [.sc (.int .u8 n)]
theorem unB_map (l : List Int) : unB ((l.map encB).map (·.map .pv)) = some l := by
  induction l with
  | nil => rfl
  | cons n l ih => simp only [List.map_cons, encB, List.map_nil, unB, encB] at ih ⊢; rw [ih]; rfl
theorem unB_inv : ∀ {rows : List (List LV)} {l : List Int}, unB rows = some l → rows = l.map fun n => [.pv (.sc (.int .u8 n))]
  | [], l, h => by simp only [unB, Option.some.injEq] at h; subst h; rfl
  | r :: rows, l, h => by
    unfold unB at h
    split at h
    · rename_i e; cases e
    · rename_i n r' e
      simp only [List.cons.injEq] at e
      obtain ⟨rfl, rfl⟩ := e
      cases hr : unB rows with
      | none => simp [hr] at h
      | some l' =>
        simp only [hr, Option.map_some, Option.some.injEq] at h
        subst h
        rw [unB_inv hr]; rfl
    · cases h

theorem flatten_single {α β : Type} (l : List α) (f : α → β) : (l.map fun n => [f n]).flatten = l.map f := by
  induction l with
  | nil => rfl
  | cons n l ih => simp [ih]

theorem bytes_string {P : Program} {src e dst : TypeId} (hs : telem P src = some e) (he : tint P e = some .u8) (hd : (P.underlying dst).map isStrD = some true) {E : Env} {w : World} {σ : LSt} (hS : Sim E w σ) {v : LV} {V : Value} (hv : VRel E w v V)
    {rows : List (List LV)} (hr : srcRows 1 σ v = some rows) {l : List Int} (hl : unB rows = some l) : (convert src dst V).run P w = .ok (.string (strOfNums l)) w := by
  have hsu := telem_inv hs
  have heu := tint_inv he
  have hdu := isStrD_inv hd
  obtain ⟨a, c, Vs, rfl, _, hA⟩ := src_sound hS hv hr
  obtain rfl := unB_inv hl
  have hVs : Vs = l.map (Value.int .u8) := by
    apply List.ext_getElem
    · rw [hA.len]; simp
    · intro j h1 h2
      have hfl : ((l.map fun n => [LV.pv (.sc (.int .u8 n))]) : List (List LV)).flatten = l.map fun n => LV.pv (.sc (.int .u8 n)) := by
        exact flatten_single l _
      have hj : j < l.length := by simpa using h2
      have := hA.rel j (by rw [hfl]; simpa using hj) h1
      have hg : ((l.map fun n => [LV.pv (.sc (.int .u8 n))]) : List (List LV)).flatten[j]'(by rw [hfl]; simpa using hj) = LV.pv (.sc (.int .u8 l[j])) := by
        apply Option.some.inj
        rw [← List.getElem?_eq_getElem, hfl]; simp [hj]
      rw [hg] at this
      rw [this.sc_inv]; simp
  by_cases h0 : l = []
  · subst h0
    have hz : (convert src dst (.slice a 0 c)).run P w = .ok (.string .empty) w := by
      cases a with
      | none => simp [convert, Sem.run_bind, run_underlying hsu, run_underlying hdu, run_underlying heu, Conv.bytesToString]
      | some a => simp [convert, Sem.run_bind, run_underlying hsu, run_underlying hdu, run_underlying heu, Conv.bytesToString, loadCells, loadCellsFrom]
    have e0 : strOfNums [] = .empty := rfl
    rw [e0]
    exact hz
  · obtain ⟨b, o, rfl, hc⟩ := hA.at_ (by rw [hVs]; simpa using h0)
    simp only [List.length_map]
    refine run_convert_bytes_arg w src e hsu heu b o l.length c l rfl (fun i hi => ?_) dst hdu
    rw [hc i (.int .u8 (l.getD i 0)) (by rw [hVs]; simp [hi, List.getD])]
end Go.Lw

set_option linter.unusedVariables false
set_option linter.unusedSimpArgs false
namespace Go.Lw

/-! ### Literals -/
/-- What a literal's parts make of the zero cells. -/
def lfill (place : Nat → Option (Nat × Nat)) (cells : List LV) : List (Nat × LV) → Option (List LV)
  | [] => some cells
  | (i, v) :: rest =>
    match place i with
    | none => none
    | some (off, size) => if v.cells.length = size ∧ off + size ≤ cells.length ∧ v.cells.all (·.leaf) then lfill place (splice cells off v.cells) rest else none

theorem foldl_set (Vs : List Value) (off : Nat) : ∀ (k : Nat) (cs : Array Value), off + k + Vs.length ≤ cs.size →
    (Vs.zipIdx k).foldl (fun cs (c, j) => cs.setIfInBounds (off + j) c) cs = (cs.toList.take (off + k) ++ Vs ++ cs.toList.drop (off + k + Vs.length)).toArray := by
  induction Vs with
  | nil => intro k cs h; simp
  | cons v Vs ih =>
    intro k cs h
    simp only [List.zipIdx_cons, List.foldl_cons]
    rw [ih (k + 1) _ (by simp at h ⊢; omega)]
    congr 1
    simp only [Array.toList_setIfInBounds, List.length_cons, List.length_cons] at h ⊢
    have := list_seg_step cs.toList (off + k) v Vs (by simpa using (by omega : off + k + (Vs.length + 1) ≤ cs.size))
    rw [show off + (k + 1) = off + k + 1 by omega]
    simpa [List.append_assoc] using this

theorem splice_rel {E : Env} {w : World} {l cs : List LV} {Vl Vc : List Value} {off : Nat} (hl : l.length = Vl.length) (h1 : ∀ i (h1 : i < l.length) (h2 : i < Vl.length), VRel E w l[i] Vl[i]) (hc : cs.length = Vc.length) (h2 : ∀ i (h1 : i < cs.length) (h2 : i < Vc.length), VRel E w cs[i] Vc[i]) (hle : off + cs.length ≤ l.length) :
    (splice l off cs).length = (Vl.take off ++ Vc ++ Vl.drop (off + Vc.length)).length ∧ ∀ i (h1 : i < (splice l off cs).length) (h2 : i < (Vl.take off ++ Vc ++ Vl.drop (off + Vc.length)).length), VRel E w (splice l off cs)[i] (Vl.take off ++ Vc ++ Vl.drop (off + Vc.length))[i] := by
  refine ⟨by simp [splice]; omega, fun i i1 i2 => ?_⟩
  have key : ∀ (u : LV) (U : Value), (splice l off cs)[i]? = some u → (Vl.take off ++ Vc ++ Vl.drop (off + Vc.length))[i]? = some U → VRel E w u U := by
    intro u U hu hU
    simp only [splice, List.getElem?_append, List.length_append, List.length_take, List.getElem?_take, List.getElem?_drop] at hu hU
    have e1 : min off l.length = off := by omega
    have e2 : min off Vl.length = off := by omega
    rw [e1] at hu
    rw [e2] at hU
    by_cases c1 : i < off
    · rw [if_pos (by omega), if_pos c1, if_pos c1] at hu hU
      obtain ⟨U', k1, k2⟩ := Vs_get hl h1 hu
      rw [hU] at k1; obtain rfl := Option.some.inj k1; exact k2
    · by_cases c2 : i < off + cs.length
      · rw [if_pos (by omega), if_neg c1] at hu hU
        obtain ⟨U', k1, k2⟩ := Vs_get hc h2 hu
        rw [hU] at k1; obtain rfl := Option.some.inj k1; exact k2
      · rw [if_neg (by omega)] at hu hU
        rw [← hc] at hU
        obtain ⟨U', k1, k2⟩ := Vs_get hl h1 hu
        rw [hU] at k1; obtain rfl := Option.some.inj k1; exact k2
  exact key _ _ (List.getElem?_eq_getElem i1) (List.getElem?_eq_getElem i2)

def PartsR (E : Env) (w : World) (ps : List (Nat × LV)) (Ps : List (Nat × Value)) : Prop := ps.length = Ps.length ∧ ∀ i (h1 : i < ps.length) (h2 : i < Ps.length), ps[i].1 = Ps[i].1 ∧ VRel E w ps[i].2 Ps[i].2

theorem fill_sound {E : Env} {w : World} {place : Nat → Option (Nat × Nat)} : ∀ (ps : List (Nat × LV)) (Ps : List (Nat × Value)) (l out : List LV) (Vl : List Value), PartsR E w ps Ps → l.length = Vl.length → (∀ i (h1 : i < l.length) (h2 : i < Vl.length), VRel E w l[i] Vl[i]) → (∀ u ∈ Vl, u.oneCell' = true) → lfill place l ps = some out →
    ∃ Vo : List Value, Instr.fill place Vl.toArray Ps = some Vo.toArray ∧ out.length = Vo.length ∧ (∀ i (h1 : i < out.length) (h2 : i < Vo.length), VRel E w out[i] Vo[i]) ∧ (∀ u ∈ Vo, u.oneCell' = true) ∧ out.length = l.length
  | [], Ps, l, out, Vl, hp, hl, hr, ho, h => by
    simp only [lfill, Option.some.injEq] at h
    subst h
    obtain rfl : Ps = [] := List.eq_nil_of_length_eq_zero hp.1.symm
    exact ⟨Vl, rfl, hl, hr, ho, rfl⟩
  | (i, v) :: ps, [], l, out, Vl, hp, hl, hr, ho, h => by have := hp.1; simp at this
  | (i, v) :: ps, (I, V) :: Ps, l, out, Vl, hp, hl, hr, ho, h => by
    obtain ⟨rfl, hv⟩ : i = I ∧ VRel E w v V := hp.2 0 (by simp) (by simp)
    have hp' : PartsR E w ps Ps := ⟨by have := hp.1; simpa using this, fun k h1 h2 => by
      have := hp.2 (k + 1) (by simpa using h1) (by simpa using h2)
      simpa using this⟩
    simp only [lfill] at h
    cases hpl : place i with
    | none => simp [hpl] at h
    | some x =>
      obtain ⟨off, size⟩ := x
      simp only [hpl] at h
      split at h
      case isFalse => cases h
      rename_i hc
      obtain ⟨c1, c2, c3⟩ := hc
      obtain ⟨Vc, v1, v2, v3, v4⟩ := hv.cells c3
      obtain ⟨s1, s2⟩ := splice_rel (off := off) hl hr v2 v3 (by omega)
      obtain ⟨Vo, o1, o2, o3, o4, o5⟩ := fill_sound ps Ps _ out _ hp' s1 s2 (by
        intro u hu
        simp only [List.mem_append] at hu
        rcases hu with (hu | hu) | hu
        · exact ho u (List.mem_of_mem_take hu)
        · exact v4 u hu
        · exact ho u (List.mem_of_mem_drop hu)) h
      refine ⟨Vo, ?_, o2, o3, o4, by rw [o5, splice_len (by omega)]⟩
      simp only [Instr.fill, hpl, v1, List.size_toArray]
      rw [if_neg (by simp; omega), ← o1]
      congr 1
      have := foldl_set Vc off 0 Vl.toArray (by simp; omega)
      simp only [Nat.add_zero] at this
      rw [← this, ← Array.foldl_toList, Array.toList_zipIdx]

def tplaces (P : Program) (t : TypeId) : Option (List (Nat × Nat)) :=
  match P.underlying t with
  | some (.struct fs) => fs.toList.mapM fun f => (tsize P f.type).map fun s => (f.offset, s)
  | some (.array n e) => (tsize P e).map fun s => (List.range n).map fun i => (i * s, s)
  | _ => none

theorem fill_more {p q : Nat → Option (Nat × Nat)} (h : ∀ i x, p i = some x → q i = some x) : ∀ (ps : List (Nat × Value)) (c out : Array Value), Instr.fill p c ps = some out → Instr.fill q c ps = some out
  | [], c, out, hf => hf
  | (i, v) :: ps, c, out, hf => by
    unfold Instr.fill at hf ⊢
    cases hp : p i with
    | none => simp [hp] at hf
    | some x =>
      simp only [hp, h i x hp] at hf ⊢
      split at hf
      · cases hf
      · rename_i hs
        rw [if_neg hs]
        exact fill_more h ps _ out hf

theorem run_places {P : Program} : ∀ (fs : List Field) (ps : List (Nat × Nat)), (fs.mapM fun f => (tsize P f.type).map fun s => (f.offset, s)) = some ps → ∀ w, (fs.mapM (m := Sem) fun f => do pure (f.offset, ← Go.sizeOf f.type)).run P w = .ok ps w
  | [], ps, h, w => by simp at h; subst h; simp
  | f :: fs, ps, h, w => by
    cases hs : tsize P f.type with
    | none => simp [List.mapM_cons, hs] at h
    | some s =>
      cases hr : fs.mapM (fun f => (tsize P f.type).map fun s => (f.offset, s)) with
      | none => simp [List.mapM_cons, hs, hr] at h
      | some ps' =>
        simp only [List.mapM_cons, hs, hr, Option.map_some, Option.bind_eq_bind, Option.bind_some, Option.pure_def, Option.some.injEq] at h
        subst h
        have ih := run_places fs ps' hr w
        simp only [List.mapM_cons, Sem.run_bind, run_size hs, Sem.run_pure, Result.andThen_ok, ih]

theorem zero_rel (E : Env) (w : World) (z : Value) (hl : (ofV z).cells.all (·.leaf) = true) : ∃ Vs : List Value, z.cells = Vs.toArray ∧ (ofV z).cells.length = Vs.length ∧ (∀ i (h1 : i < (ofV z).cells.length) (h2 : i < Vs.length), VRel E w (ofV z).cells[i] Vs[i]) ∧ ∀ u ∈ Vs, u.oneCell' = true := (ofV_rel E w z).cells hl

theorem build_sound {P : Program} {t : TypeId} {z : Value} {pl : List (Nat × Nat)} (hz : tzero P t = some z) (hp : tplaces P t = some pl) (hzl : (ofV z).cells.all (·.leaf) = true) {E : Env} {w : World} {ps : List (Nat × LV)} {Ps : List (Nat × Value)} (hr : PartsR E w ps Ps) {out : List LV} (h : lfill (fun i => pl[i]?) (ofV z).cells ps = some out) :
    ∃ U, (Instr.build t Ps.toArray).run P w = .ok U w ∧ VRel E w (.agg out) U := by
  obtain ⟨Vz, z1, z2, z3, z4⟩ := zero_rel E w z hzl
  obtain ⟨Vo, o1, o2, o3, o4, _⟩ := fill_sound ps Ps _ out Vz hr z2 z3 z4 h
  refine ⟨.agg Vo.toArray, ?_, .agg _ _ o2 o3⟩
  unfold tplaces at hp
  split at hp
  case h_3 => cases hp
  case h_2 =>
    rename_i n e hu
    cases hs : tsize P e with
    | none => simp [hs] at hp
    | some s =>
      simp only [hs, Option.map_some, Option.some.injEq] at hp
      subst hp
      have hf : Instr.fill (fun i => some (i * s, s)) z.cells Ps = some Vo.toArray := by
        rw [z1]
        refine fill_more (fun i x hx => ?_) _ _ _ o1
        simp only [List.getElem?_map, Option.map_eq_some_iff] at hx
        obtain ⟨a, ha, rfl⟩ := hx
        have := List.getElem?_eq_some_iff.1 ha
        obtain ⟨h1, h2⟩ := this
        simp at h2
        rw [h2]
      simp only [Instr.build, Sem.run_bind, run_zero hz, Result.andThen_ok, run_underlying hu, run_size hs]
      simp [hf]
  rename_i fs hu
  have hpl := run_places fs.toList pl hp w
  have hm : (fs.mapM (m := Sem) fun f => do pure (f.offset, ← Go.sizeOf f.type)).run P w = .ok pl.toArray w := by
    rw [Array.mapM_eq_mapM_toList]
    simp only [bind_pure_comp] at hpl
    simp [Sem.run_bind, hpl]
  simp only [Instr.build, Sem.run_bind, run_zero hz, Result.andThen_ok, run_underlying hu, hm]
  have hf : Instr.fill (fun i => pl[i]?) z.cells Ps = some Vo.toArray := by rw [z1]; exact o1
  simp [hf]

/-- 'buildSlice': an array of our own, of so many rows. -/
def rowsOf (sz : Nat) : Nat → List LV → List (List LV)
  | 0, _ => []
  | n + 1, l => l.take sz :: rowsOf sz n (l.drop sz)
theorem rowsOf_flat (sz : Nat) : ∀ (n : Nat) (l : List LV), l.length = n * sz → (rowsOf sz n l).flatten = l ∧ (rowsOf sz n l).length = n ∧ ∀ r ∈ rowsOf sz n l, r.length = sz
  | 0, l, h => by
    have : l = [] := List.eq_nil_of_length_eq_zero (by simpa using h)
    subst this; simp [rowsOf]
  | n + 1, l, h => by
    rw [Nat.add_mul] at h
    obtain ⟨h1, h2, h3⟩ := rowsOf_flat sz n (l.drop sz) (by simp; omega)
    refine ⟨by simp [rowsOf, h1], by simp [rowsOf, h2], ?_⟩
    intro r hr
    simp only [rowsOf, List.mem_cons] at hr
    rcases hr with rfl | hr
    · simp; omega
    · exact h3 r hr

theorem ofV_one {z : Value} (h : (ofV z).cells.length = 1) (hl : (ofV z).cells.all (·.leaf) = true) : True := trivial

theorem buildSlice_sound {P : Program} {t e : TypeId} {sz : Nat} {z : Value} {len : Nat} (ht : telem P t = some e) (hs : tsize P e = some sz) (hz : tzero P e = some z) (hzs : (ofV z).cells.length = sz) (hzl : (ofV z).cells.all (·.leaf) = true) (hpos : 0 < sz) (hlen : len * sz ≤ 16777216)
    {E : Env} {w : World} {σ : LSt} (hS : Sim E w σ) {ps : List (Nat × LV)} {Ps : List (Nat × Value)} (hr : PartsR E w ps Ps) {out : List LV} (h : lfill (fun i => some (i * sz, sz)) (List.replicate len (ofV z).cells).flatten ps = some out) :
    ∃ U w' E', (Instr.buildSlice t len Ps.toArray).run P w = .ok U w' ∧ Ext E w E' w' ∧ Sim E' w' (σ.put σ.nx (.arr sz (rowsOf sz len out))) ∧ VRel E' w' (.own σ.nx len 0 len) U := by
  obtain ⟨Vz, z1, z2, z3, z4⟩ := zero_rel E w z hzl
  have hrl : ∀ r ∈ List.replicate len (ofV z).cells, r.length = sz := by simp [hzs]
  have hzc : z.cells.size = sz := by rw [z1]; simp; omega
  have hVl : ((Array.range (len * sz)).map (z.cells[· % z.cells.size]!)) = (List.replicate len Vz).flatten.toArray := by
    apply Array.ext'
    apply List.ext_getElem?
    intro j
    by_cases hj : j < len * sz
    · have hmod := Nat.mod_lt j hpos
      have hdm := Nat.div_add_mod j sz
      rw [Nat.mul_comm] at hdm
      have hq : j / sz < len := by
        rcases Nat.lt_or_ge (j / sz) len with h | h
        · exact h
        · have : len * sz ≤ j / sz * sz := Nat.mul_le_mul_right _ h
          omega
      have hV : (List.replicate len Vz).flatten[j]? = Vz[j % sz]? := by
        conv => lhs; rw [← hdm]
        rw [flatten_get sz _ (by simp; omega) _ _ hmod, List.getElem?_replicate, if_pos hq]; rfl
      rw [hV]
      simp only [Array.getElem?_toList, Array.getElem?_map, Array.getElem?_range, hj, if_true, Option.map_some, hzc]
      rw [z1]
      have : j % sz < Vz.length := by omega
      simp [this]
    · rw [List.getElem?_eq_none (by simpa using hj), List.getElem?_eq_none (by rw [flatten_len sz _ (by simp; omega)]; simpa using hj)]
  have hl0 : (List.replicate len (ofV z).cells).flatten.length = (List.replicate len Vz).flatten.length := by
    rw [flatten_len sz _ hrl, flatten_len sz _ (by simp; omega)]; simp
  obtain ⟨Vo, o1, o2, o3, o4, o5⟩ := fill_sound ps Ps _ out (List.replicate len Vz).flatten hr hl0 (by
    intro j h1 h2
    have hj : j < len * sz := by rw [flatten_len sz _ hrl] at h1; simpa using h1
    have hmod := Nat.mod_lt j hpos
    have hdm := Nat.div_add_mod j sz
    rw [Nat.mul_comm] at hdm
    have hq : j / sz < len := by
      rcases Nat.lt_or_ge (j / sz) len with h | h
      · exact h
      · have : len * sz ≤ j / sz * sz := Nat.mul_le_mul_right _ h
        omega
    have e1 : (List.replicate len (ofV z).cells).flatten[j] = (ofV z).cells[j % sz]'(by omega) := by
      apply Option.some.inj
      rw [← List.getElem?_eq_getElem, ← List.getElem?_eq_getElem]
      conv => lhs; rw [← hdm]
      rw [flatten_get sz _ hrl _ _ hmod, List.getElem?_replicate, if_pos hq]; rfl
    have e2 : (List.replicate len Vz).flatten[j] = Vz[j % sz]'(by omega) := by
      apply Option.some.inj
      rw [← List.getElem?_eq_getElem, ← List.getElem?_eq_getElem]
      conv => lhs; rw [← hdm]
      rw [flatten_get sz _ (by simp; omega) _ _ hmod, List.getElem?_replicate, if_pos hq]; rfl
    rw [e1, e2]; exact z3 _ _ _) (by
    intro u hu
    obtain ⟨r, hr, hm⟩ := List.mem_flatten.1 hu
    rw [(List.mem_replicate.1 hr).2] at hm
    exact z4 u hm) h
  have hout : out.length = len * sz := by rw [o5, flatten_len sz _ hrl]; simp
  obtain ⟨f1, f2, f3⟩ := rowsOf_flat sz len out hout
  have hnew := new_obj hS (sz := sz) (cap := len) (e := e) (rows := rowsOf sz len out) (C := Vo.toArray) f3 (by omega) (by
    have : len ≤ len * sz := Nat.le_mul_of_pos_right _ hpos
    simp only [maxLen]; omega) (by simp; omega) (by
    intro j hj
    have hj2 : j < out.length := by rw [f1] at hj; exact hj
    refine ⟨Vo[j]'(by omega), by simp [show j < Vo.length by omega], o4 _ (List.getElem_mem _), ?_⟩
    have : (rowsOf sz len out).flatten[j] = out[j] := by
      apply Option.some.inj
      rw [← List.getElem?_eq_getElem, ← List.getElem?_eq_getElem, f1]
    rw [this]; exact o3 j hj2 (by omega)) (w0 := w) rfl rfl rfl rfl
  rw [f2] at hnew
  refine ⟨_, _, _, ?_, hnew.1, hnew.2.1, own_new hnew.2.2.1 hnew.2.2.2⟩
  have hu := telem_inv ht
  have hrun : (Instr.buildSlice t len Ps.toArray).run P w = .ok (.slice (some ⟨w.heap.size, 0, none⟩) len len) (w.alloc (.cells Vo.toArray e)) := by
    simp only [Instr.buildSlice, Sem.run_bind, run_underlying hu, Result.andThen_ok, run_size hs]
    rw [if_neg (by omega)]
    by_cases h0 : len * sz = 0
    · have hv0 : (List.replicate len Vz).flatten = [] := by
        apply List.eq_nil_of_length_eq_zero
        rw [← hl0, flatten_len sz _ hrl]; simpa using h0
      rw [hv0] at o1
      have e0 : Array.map (fun x => (#[] : Array Value)[x % (#[] : Array Value).size]!) (Array.range 0) = #[] := by simp
      simp only [h0, if_true, Sem.run_pure, Result.andThen_ok, Sem.run_bind, e0]
      have o1' : Instr.fill (fun i => some (i * sz, sz)) #[] Ps = some Vo.toArray := o1
      rw [o1']
      simp only [Sem.run_bind, newRow]
      rfl
    · simp only [h0, if_false, Sem.run_bind, run_zero hz, Result.andThen_ok, Sem.run_pure, hVl, o1, newRow]
      rfl
  exact hrun
end Go.Lw

set_option linter.unusedVariables false
set_option linter.unusedSimpArgs false
namespace Go.Lw

/-- Some rows of an object of our own are written over. -/
theorem over_rows {P : Program} {E : Env} {w : World} {σ : LSt} (hS : Sim E w σ) {id sz : Nat} {rows : List (List LV)} (hg : σ.get id = some (.arr sz rows)) {L : Loc} (hL : E.f id = some L) {b : Nat} (hb : L.blk = some b) {p : Nat} {rs : List (List LV)} {Vs : List Value}
    (hrs : ∀ r ∈ rs, r.length = sz) (hVs : Vs.length = rs.length * sz) (hle : p + rs.length ≤ rows.length) (h1 : ∀ u ∈ Vs, u.oneCell' = true) (hr : ∀ j (h1 : j < rs.flatten.length) (h2 : j < Vs.length), VRel E w rs.flatten[j] Vs[j]) :
    ∃ w', (storeCells ⟨b, p * sz, none⟩ Vs).run P w = .ok () w' ∧ ∃ E', Ext E w E' w' ∧ Sim E' w' (σ.put id (.arr sz (rows.take p ++ rs ++ rows.drop (p + rs.length)))) ∧ E'.f = E.f := by
  obtain ⟨L', q1, q2, q3, q4, q5⟩ := hS.obj id _ hg
  obtain rfl : L = L' := by rw [hL] at q1; simpa using q1
  rcases q5 with ⟨e, _⟩ | ⟨b', C, e1, e2, e3, e4, e5, e6⟩
  · rw [hb] at e; cases e
  obtain rfl : b = b' := by rw [hb] at e1; simpa using e1
  have hF : rows.flatten.length = rows.length * sz := flatten_len sz rows q4
  have hfit : p * sz + Vs.length ≤ rows.length * sz := by
    rw [hVs, ← Nat.add_mul]; exact Nat.mul_le_mul_right _ hle
  have hfit2 : p * sz + Vs.length ≤ C.size := by
    have : rows.length * sz ≤ L.cap * sz := Nat.mul_le_mul_right _ (by omega)
    rw [e5, q2]; omega
  have hrun := run_storeCells_at P b (p * sz) L.e Vs 0 C w e2 (by simpa using hfit2) h1
  simp only [Nat.add_zero] at hrun
  have hrow : ∀ r ∈ rows.take p ++ rs ++ rows.drop (p + rs.length), r.length = sz := by
    intro r hr
    simp only [List.mem_append] at hr
    rcases hr with (h | h) | h
    · exact q4 r (List.mem_of_mem_take h)
    · exact hrs r h
    · exact q4 r (List.mem_of_mem_drop h)
  have hlen : (rows.take p ++ rs ++ rows.drop (p + rs.length)).length = rows.length := by simp; omega
  have hrf : rs.flatten.length = Vs.length := by rw [flatten_len sz rs hrs, hVs]
  have hfl : (rows.take p ++ rs ++ rows.drop (p + rs.length)).flatten = rows.flatten.take (p * sz) ++ rs.flatten ++ rows.flatten.drop (p * sz + Vs.length) := by
    have t1 : (rows.take p).flatten = rows.flatten.take (p * sz) := by
      have := flatten_drop_take sz rows q4 0 p
      simpa using this
    have t2 : (rows.drop (p + rs.length)).flatten = rows.flatten.drop (p * sz + Vs.length) := by
      have := flatten_drop_take sz rows q4 (p + rs.length) rows.length
      rw [List.take_of_length_le (by simp), List.take_of_length_le (by rw [List.length_drop, hF]; omega), Nat.add_mul, ← hVs] at this
      exact this
    simp [t1, t2]
  have hput := hS.put (w' := w.setRow b (C.toList.take (p * sz) ++ Vs ++ C.toList.drop (p * sz + Vs.length)).toArray) (id := id) (L' := L) (o := .arr sz (rows.take p ++ rs ++ rows.drop (p + rs.length)))
    (.inl ⟨L, hL, .inl rfl⟩) (fun k _ hne => setRow_other w b k _ (fun e => hne L hL (by rw [hb, e]))) (fun b' hb => .inr ⟨L, hL, hb⟩) (by simp) rfl rfl rfl
    (fun hX => ⟨q2, by rw [hlen]; exact q3, hrow, .inr ⟨b, _, hb, setRow_heap w b C _ L.e _ e2, e3, e4, by
        simp only [List.size_toArray, List.length_append, List.length_take, List.length_drop, Array.length_toList]; rw [← e5]; omega, fun k hk => by
      obtain ⟨x, hk'⟩ : ∃ x, (rows.take p ++ rs ++ rows.drop (p + rs.length)).flatten[k]? = some x := ⟨_, List.getElem?_eq_getElem hk⟩
      have hxe : (rows.take p ++ rs ++ rows.drop (p + rs.length)).flatten[k] = x := by
        have := hk'; rw [List.getElem?_eq_getElem hk] at this; exact Option.some.inj this
      rw [hxe]
      rw [hfl] at hk'
      have hCk : (C.toList.take (p * sz) ++ Vs ++ C.toList.drop (p * sz + Vs.length)).toArray[k]? = if p * sz ≤ k ∧ k < p * sz + Vs.length then Vs[k - p * sz]? else C[k]? := by
        simp only [List.getElem?_toArray, List.getElem?_append, List.length_append, List.length_take, List.getElem?_take, List.getElem?_drop, Array.length_toList, Array.getElem?_toList]
        have e1 : min (p * sz) C.size = p * sz := by omega
        rw [e1]
        by_cases c1 : k < p * sz
        · rw [if_pos (by omega), if_pos c1, if_pos c1, if_neg (by omega)]
        · by_cases c2 : k < p * sz + Vs.length
          · rw [if_pos (by omega), if_neg c1, if_pos (by omega)]
          · rw [if_neg (by omega), if_neg (by omega)]
            congr 1; omega
      rw [hCk]
      simp only [List.getElem?_append, List.length_append, List.length_take, List.getElem?_take, List.getElem?_drop] at hk'
      have e1 : min (p * sz) rows.flatten.length = p * sz := by omega
      rw [e1] at hk'
      by_cases c1 : k < p * sz
      · rw [if_pos (by omega), if_pos c1, if_pos c1] at hk'
        rw [if_neg (by omega)]
        obtain ⟨hlt, he⟩ := List.getElem?_eq_some_iff.1 hk'
        obtain ⟨U, u1, u2, u3⟩ := e6 k hlt
        rw [he] at u3
        exact ⟨U, u1, u2, u3.mono hX⟩
      · by_cases c2 : k < p * sz + Vs.length
        · rw [if_pos (by omega), if_neg c1] at hk'
          rw [if_pos (by omega)]
          obtain ⟨hlt, he⟩ := List.getElem?_eq_some_iff.1 hk'
          have hlt2 : k - p * sz < Vs.length := by omega
          refine ⟨Vs[k - p * sz], List.getElem?_eq_getElem hlt2, h1 _ (List.getElem_mem _), ?_⟩
          have := hr _ hlt hlt2
          rw [he] at this
          exact this.mono hX
        · rw [if_neg (by omega)] at hk'
          rw [if_neg (by omega)]
          have e3 : p * sz + Vs.length + (k - (p * sz + rs.flatten.length)) = k := by omega
          rw [e3] at hk'
          obtain ⟨hlt, he⟩ := List.getElem?_eq_some_iff.1 hk'
          obtain ⟨U, u1, u2, u3⟩ := e6 k hlt
          rw [he] at u3
          exact ⟨U, u1, u2, u3.mono hX⟩⟩⟩)
  refine ⟨_, hrun, _, hput.1, hput.2, ?_⟩
  · funext k
    simp only [Env.put]
    split
    · rename_i e; subst e; exact hL.symm
    · rfl

theorem own_blk {E : Env} {w : World} {σ : LSt} (hS : Sim E w σ) {id sz n off len : Nat} {rows : List (List LV)} {V : Value} (hv : VRel E w (.own id n off len) V) (hg : σ.get id = some (.arr sz rows)) (hn : rows.length = n) (hle : off + len ≤ n) :
    (len = 0 ∧ ∃ a c, V = .slice a 0 c) ∨ ∃ L b, E.f id = some L ∧ L.blk = some b ∧ 0 < len ∧ L.sz = sz ∧ V = .slice (some ⟨b, off * sz, none⟩) len (L.cap - off) ∧ n ≤ L.cap := by
  obtain ⟨L, l1, l2, l3, l4⟩ := own_val hS hv hg hn
  obtain ⟨L', q1, q2, q3, q4, q5⟩ := hS.obj id _ hg
  obtain rfl : L = L' := by rw [l1] at q1; simpa using q1
  unfold Loc.isSlice at l4
  rcases q5 with ⟨e, e2, e3⟩ | ⟨b, C, e1, e2, e3, e4, e5, e6⟩
  · rw [e] at l4
    obtain ⟨⟨a, rfl⟩, rfl, rfl⟩ := l4
    exact .inl ⟨rfl, a, 0, rfl⟩
  · rw [e1] at l4
    obtain ⟨r1, a, rfl, r2⟩ := l4
    by_cases h0 : len = 0
    · subst h0; exact .inl ⟨rfl, _, _, rfl⟩
    · obtain rfl := r2 (by omega)
      exact .inr ⟨L, b, l1, e1, by omega, l2, by rw [l2], by omega⟩

/-- 'copy' into a view of an array of our own. -/
theorem copy_sound {P : Program} {t u ty e : TypeId} {sz : Nat} (ht : telem P t = some e) (hs : tsize P e = some sz) (hpos : 0 < sz) {E : Env} {w : World} {σ : LSt} (hS : Sim E w σ) {id n off len : Nat} {rows : List (List LV)} {V : Value} (hv : VRel E w (.own id n off len) V) (hg : σ.get id = some (.arr sz rows)) (hn : rows.length = n) (hle : off + len ≤ n)
    {x : LV} {X : Value} (hx : VRel E w x X) {src : List (List LV)} (hr : srcRows sz σ x = some src) :
    ∃ w' E', (Builtin.copy_ #[t, u] ty #[V, X]).run P w = .ok (.int .i64 (Nat.min src.length len)) w' ∧ Ext E w E' w' ∧ Sim E' w' (σ.put id (.arr sz (rows.take off ++ src.take (Nat.min src.length len) ++ rows.drop (off + Nat.min src.length len)))) := by
  have hu := telem_inv ht
  obtain ⟨a, c, Vs, rfl, _, hA⟩ := src_sound hS hx hr
  generalize hk : Nat.min src.length len = k
  have hk1 : k ≤ src.length := by rw [← hk]; exact Nat.min_le_left _ _
  have hk2 : k ≤ len := by rw [← hk]; exact Nat.min_le_right _ _
  have hput0 : k = 0 → ∃ E', Ext E w E' w ∧ Sim E' w (σ.put id (.arr sz (rows.take off ++ src.take k ++ rows.drop (off + k)))) := by
    intro h0
    subst h0
    obtain ⟨L, h1, h2⟩ := hS.obj id _ hg
    have := hS.put (w' := w) (id := id) (L' := L) (o := .arr sz (rows.take off ++ src.take 0 ++ rows.drop (off + 0))) (.inl ⟨L, h1, .inl rfl⟩) (fun _ _ _ => rfl) (fun b hb => .inr ⟨L, h1, hb⟩) (Nat.le_refl _) rfl rfl rfl
      (fun hX => by simpa using h2.mono hX fun _ _ => rfl)
    exact ⟨_, this⟩
  have hf : (Builtin.firstCells sz k (.slice a src.length c)).run P w = .ok (Vs.take (k * sz)).toArray w := by
    have hkl : k * sz ≤ Vs.length := by rw [hA.len]; exact Nat.mul_le_mul_right _ hk1
    cases ha : a with
    | none =>
      have : Vs = [] := by
        rcases Classical.em (Vs = []) with h | h
        · exact h
        · obtain ⟨b, o, e, _⟩ := hA.at_ h; rw [ha] at e; cases e
      subst this
      simp [Builtin.firstCells]
    | some ad =>
      refine run_firstCells_some (P := P) w sz k ad src.length c (Vs.take (k * sz)) (by simp; omega) fun j v hj => ?_
      have hne : Vs ≠ [] := by intro h; rw [h] at hj; simp at hj
      obtain ⟨b, o, e, hc⟩ := hA.at_ hne
      rw [ha] at e
      obtain rfl := Option.some.inj e
      rw [List.getElem?_take] at hj
      split at hj
      · rw [addr_add]; exact hc j v hj
      · cases hj
  rcases own_blk hS hv hg hn hle with ⟨h0, a', c', rfl⟩ | ⟨L, b, l1, l2, l3, l4, rfl, l5⟩
  · have hk0 : k = 0 := by omega
    obtain ⟨E', g1, g2⟩ := hput0 hk0
    subst hk0
    refine ⟨w, E', ?_, g1, g2⟩
    subst h0
    have hm : Nat.min src.length 0 = 0 := Nat.min_zero _
    simp only [Nat.zero_mul, List.take_zero] at hf
    cases a' with
    | none => simp [Builtin.copy_, Sem.run_bind, run_underlying hu, Builtin.lenOf, run_size hs, hf, goInt, hm]
    | some a' => simp [Builtin.copy_, Sem.run_bind, run_underlying hu, Builtin.lenOf, run_size hs, hf, goInt, hm, storeCells]
  · have hlenk : (src.take k).length = k := by simp; omega
    obtain ⟨w', hrun, E', g1, g2, _⟩ := over_rows (P := P) hS hg l1 l2 (p := off) (rs := src.take k) (Vs := Vs.take (k * sz)) (fun r hr => hA.row r (List.mem_of_mem_take hr)) (by
        rw [hlenk, List.length_take, hA.len, Nat.min_eq_left (Nat.mul_le_mul_right _ hk1)]) (by rw [hlenk]; omega) (fun u hu => hA.one u (List.mem_of_mem_take hu)) (fun j h1 h2 => by
        have hfl : (src.take k).flatten = src.flatten.take (k * sz) := by simpa using flatten_drop_take sz src hA.row 0 k
        have hj : j < Vs.length := by simp at h2; omega
        have hj2 : j < src.flatten.length := by rw [flatten_len sz src hA.row, ← hA.len]; exact hj
        have e1 : (src.take k).flatten[j] = src.flatten[j] := by
          apply Option.some.inj
          rw [← List.getElem?_eq_getElem, ← List.getElem?_eq_getElem, hfl, List.getElem?_take, if_pos (by simp at h2; omega)]
        rw [e1, List.getElem_take]; exact hA.rel j hj2 hj)
    rw [hlenk] at g2
    refine ⟨w', E', ?_, g1, g2⟩
    simp only [Builtin.copy_, Sem.run_bind, run_underlying hu, Result.andThen_ok, List.getElem?_toArray, List.getElem?_cons_zero, List.getElem?_cons_succ, Builtin.lenOf, Sem.run_pure, run_size hs, hk, hf]
    simp [Sem.run_bind, hrun, goInt]

/-- 'append' onto a part of an array of our own, within what it holds. -/
theorem append_in {P : Program} {t ty e : TypeId} {sz by_ : Nat} {z : Value} (ht : telem P t = some e) (hs : tsize P e = some sz) (hb : tbytes P e = some by_) (hz : tzero P e = some z) (hpos : 0 < sz)
    {E : Env} {w : World} {σ : LSt} (hS : Sim E w σ) {id n len : Nat} {V : Value} (hv : VRel E w (.own id n 0 len) V) {rows : List (List LV)} (hg : σ.get id = some (.arr sz rows)) (hn : rows.length = n)
    {x : LV} {X : Value} (hx : VRel E w x X) {src : List (List LV)} (hr : srcRows sz σ x = some src) (hle : len + src.length ≤ n) :
    ∃ U w' E', (Builtin.append_ #[t, t] ty #[V, X]).run P w = .ok U w' ∧ Ext E w E' w' ∧ Sim E' w' (σ.put id (.arr sz (rows.take len ++ src ++ rows.drop (len + src.length)))) ∧ VRel E' w' (.own id n 0 (len + src.length)) U := by
  obtain ⟨i, i1, i2, i3, i4⟩ := info_of hs hb hz
  have hu := telem_inv ht
  obtain ⟨xa, c, Vs, rfl, hc, hA⟩ := src_sound hS hx hr
  obtain ⟨L, l1, l2, l3, l4⟩ := own_val hS hv hg hn
  have hid := hS.fresh _ _ l1
  obtain ⟨L', q1, q2, q3, q4, q5⟩ := hS.obj id _ hg
  obtain rfl : L = L' := by rw [l1] at q1; simpa using q1
  have hsl := l4
  unfold Loc.isSlice at hsl
  by_cases h0 : src.length = 0
  · have h00 : src = [] := List.eq_nil_of_length_eq_zero h0
    subst h00
    obtain ⟨a, cap, rfl, hcap⟩ : ∃ a cap, V = .slice a len cap ∧ len ≤ cap := by
      rcases q5 with ⟨e0, _⟩ | ⟨b, C, e1, e2, e3, _⟩
      · rw [e0] at hsl; obtain ⟨⟨a, rfl⟩, _, rfl⟩ := hsl; exact ⟨a, 0, rfl, Nat.le_refl _⟩
      · rw [e1] at hsl; obtain ⟨r1, a, rfl, _⟩ := hsl; exact ⟨_, _, rfl, by omega⟩
    have hrun := run_append_zero (ty := ty) hu i1 (w := w) a xa len cap c hcap
    have hput := hS.put (w' := w) (id := id) (L' := L) (o := .arr sz (rows.take len ++ [] ++ rows.drop (len + 0))) (.inl ⟨L, l1, .inl rfl⟩) (fun _ _ _ => rfl) (fun b hb => .inr ⟨L, l1, hb⟩) (Nat.le_refl _) rfl rfl rfl
      (fun hX => by
        simp only [List.append_nil, Nat.add_zero, List.take_append_drop]
        exact (show ORel E w L (.arr sz rows) from ⟨q2, q3, q4, q5⟩).mono hX fun _ _ => rfl)
    exact ⟨_, _, _, hrun, hput.1, hput.2, hv.mono hput.1⟩
  · rcases q5 with ⟨e0, e1, _⟩ | ⟨b, C, e1, e2, e3, e4, e5, e6⟩
    · omega
    rw [e1] at hsl
    obtain ⟨r1, a, rfl, r2⟩ := hsl
    obtain rfl := r2 (by omega)
    obtain ⟨b', rfl, hcell⟩ := hA.src hpos (by omega)
    have hfit : len * i.size + Vs.length ≤ C.size := by
      rw [i2, hA.len, e5, l2, ← Nat.add_mul]; exact Nat.mul_le_mul_right _ (by omega)
    have hrun := run_append_room' (P := P) w t ty e L.e i hu i1 b len L.cap C e2 b' src.length c Vs (by rw [hA.len, i2]) hcell hA.one (by omega) hfit
    obtain ⟨w', hst, E', g1, g2, g3⟩ := over_rows (P := P) hS hg l1 e1 (p := len) (rs := src) (Vs := Vs) hA.row hA.len (by omega) hA.one hA.rel
    have hst2 := run_storeCells_at P b (len * sz) L.e Vs 0 C w e2 (by rw [i2] at hfit; simpa using hfit) hA.one
    simp only [Nat.add_zero] at hst2
    rw [hst] at hst2
    simp only [Result.ok.injEq, true_and] at hst2
    rw [i2, ← hst2] at hrun
    simp only [Nat.zero_mul, Nat.sub_zero]
    refine ⟨_, _, E', hrun, g1, g2, .own _ _ _ _ _ (g1.U _ hid) ⟨_, _, _, rfl⟩ fun L2 hL2 => ?_⟩
    rw [g3, l1] at hL2
    obtain rfl := Option.some.inj hL2
    refine ⟨by omega, fun _ => ?_⟩
    unfold Loc.isSlice
    rw [e1]
    exact ⟨by omega, ⟨b, 0, none⟩, by simp, fun _ => by simp⟩

theorem clear_sound {P : Program} {t ty e : TypeId} {sz : Nat} {z : Value} (ht : telem P t = some e) (hz : tzero P e = some z) (hzs : (ofV z).cells.length = sz) (hzl : (ofV z).cells.all (·.leaf) = true) (hpos : 0 < sz)
    {E : Env} {w : World} {σ : LSt} (hS : Sim E w σ) {id n off len : Nat} {rows : List (List LV)} {V : Value} (hv : VRel E w (.own id n off len) V) (hg : σ.get id = some (.arr sz rows)) (hn : rows.length = n) (hle : off + len ≤ n) :
    ∃ w' E', (Builtin.clear_ #[t] ty #[V]).run P w = .ok (.tuple #[]) w' ∧ Ext E w E' w' ∧ Sim E' w' (σ.put id (.arr sz (rows.take off ++ List.replicate len (ofV z).cells ++ rows.drop (off + len)))) := by
  have hu := telem_inv ht
  obtain ⟨Vz, z1, z2, z3, z4⟩ := zero_rel E w z hzl
  rcases own_blk hS hv hg hn hle with ⟨rfl, a', c', rfl⟩ | ⟨L, b, l1, l2, l3, l4, rfl, l5⟩
  · obtain ⟨L, h1, h2⟩ := hS.obj id _ hg
    have hput := hS.put (w' := w) (id := id) (L' := L) (o := .arr sz (rows.take off ++ List.replicate 0 (ofV z).cells ++ rows.drop (off + 0))) (.inl ⟨L, h1, .inl rfl⟩) (fun _ _ _ => rfl) (fun b hb => .inr ⟨L, h1, hb⟩) (Nat.le_refl _) rfl rfl rfl
      (fun hX => by simpa using h2.mono hX fun _ _ => rfl)
    refine ⟨w, _, ?_, hput.1, hput.2⟩
    cases a' <;> simp [Builtin.clear_, Sem.run_bind, run_underlying hu]
  · have hzc : z.cells.size = sz := by rw [z1]; simp; omega
    have hrl : ∀ r ∈ List.replicate len (ofV z).cells, r.length = sz := by simp [hzs]
    have hzero : (Builtin.zeroCells z.cells len).toList = (List.replicate len Vz).flatten := by
      apply List.ext_getElem?
      intro j
      have hVzl : Vz.length = sz := by omega
      by_cases hj : j < len * sz
      · have hmod := Nat.mod_lt j hpos
        have hdm := Nat.div_add_mod j sz
        rw [Nat.mul_comm] at hdm
        have hq : j / sz < len := by
          rcases Nat.lt_or_ge (j / sz) len with h | h
          · exact h
          · have : len * sz ≤ j / sz * sz := Nat.mul_le_mul_right _ h
            omega
        have hV : (List.replicate len Vz).flatten[j]? = Vz[j % sz]? := by
          conv => lhs; rw [← hdm]
          rw [flatten_get sz _ (by simp; omega) _ _ hmod, List.getElem?_replicate, if_pos hq]; rfl
        rw [hV]
        simp only [Builtin.zeroCells, Array.getElem?_toList, Array.getElem?_map, Array.getElem?_range, hzc, hj, if_true, Option.map_some]
        rw [z1]
        have : j % sz < Vz.length := by omega
        simp [this]
      · rw [List.getElem?_eq_none (by simp [Builtin.zeroCells, hzc]; omega), List.getElem?_eq_none (by rw [flatten_len sz _ (by simp; omega)]; simpa using hj)]
    obtain ⟨w', hrun, E', g1, g2, _⟩ := over_rows (P := P) hS hg l1 l2 (p := off) (rs := List.replicate len (ofV z).cells) (Vs := (List.replicate len Vz).flatten) hrl (by rw [flatten_len sz _ (by simp; omega)]; simp) (by simp; omega) (by
      intro u hu
      obtain ⟨r, hr, hm⟩ := List.mem_flatten.1 hu
      rw [(List.mem_replicate.1 hr).2] at hm
      exact z4 u hm) (by
      intro j h1 h2
      have hj : j < len * sz := by rw [flatten_len sz _ hrl] at h1; simpa using h1
      have hmod := Nat.mod_lt j hpos
      have hdm := Nat.div_add_mod j sz
      rw [Nat.mul_comm] at hdm
      have hq : j / sz < len := by
        rcases Nat.lt_or_ge (j / sz) len with h | h
        · exact h
        · have : len * sz ≤ j / sz * sz := Nat.mul_le_mul_right _ h
          omega
      have e1 : (List.replicate len (ofV z).cells).flatten[j] = (ofV z).cells[j % sz]'(by omega) := by
        apply Option.some.inj
        rw [← List.getElem?_eq_getElem, ← List.getElem?_eq_getElem]
        conv => lhs; rw [← hdm]
        rw [flatten_get sz _ hrl _ _ hmod, List.getElem?_replicate, if_pos hq]; rfl
      have e2 : (List.replicate len Vz).flatten[j] = Vz[j % sz]'(by omega) := by
        apply Option.some.inj
        rw [← List.getElem?_eq_getElem, ← List.getElem?_eq_getElem]
        conv => lhs; rw [← hdm]
        rw [flatten_get sz _ (by simp; omega) _ _ hmod, List.getElem?_replicate, if_pos hq]; rfl
      rw [e1, e2]; exact z3 _ _ _)
    simp only [List.length_replicate] at g2
    refine ⟨w', E', ?_, g1, g2⟩
    obtain ⟨m, rfl⟩ : ∃ m, len = m + 1 := ⟨len - 1, by omega⟩
    simp [Builtin.clear_, Sem.run_bind, run_underlying hu, run_zero hz, hzero, hrun]

/-! ### Maps whose keys are integers -/
def tmap (P : Program) (t : TypeId) : Option (IntKind × TypeId) :=
  match P.underlying t with
  | some (.map k e) => match P.underlying k with
    | some (.int kk) => some (kk, e)
    | _ => none
  | _ => none
theorem tmap_inv {P : Program} {t e : TypeId} {kk : IntKind} (h : tmap P t = some (kk, e)) : ∃ k, P.underlying t = some (.map k e) ∧ P.underlying k = some (.int kk) := by
  unfold tmap at h
  split at h
  · rename_i k e' hu
    split at h
    · rename_i kk' hk
      simp only [Option.some.injEq, Prod.mk.injEq] at h
      obtain ⟨rfl, rfl⟩ := h
      exact ⟨k, hu, hk⟩
    · cases h
  · cases h

/-- Where a key is: nowhere, or at a place. -/
def mfind (kk : IntKind) (n : Int) : Nat → List (Value × LV) → Option (Option (Nat × LV))
  | _, [] => some none
  | i, (.int k' m, v) :: r => if kk = k' then (if n = m then some (some (i, v)) else mfind kk n (i + 1) r) else none
  | _, _ :: _ => none
def mput (kk : IntKind) (n : Int) (v : LV) (es : List (Value × LV)) : Option (List (Value × LV)) :=
  match mfind kk n 0 es with
  | some (some (j, _)) => some (es.set j (.int kk n, v))
  | some none => some (es ++ [(.int kk n, v)])
  | none => none
def mdel (kk : IntKind) (n : Int) (es : List (Value × LV)) : Option (List (Value × LV)) :=
  match mfind kk n 0 es with
  | some (some (j, _)) => some (es.eraseIdx j)
  | some none => some es
  | none => none
def llook (z : LV) (kk : IntKind) (n : Int) (es : List (Value × LV)) (ok : Bool) : Option LV :=
  match mfind kk n 0 es with
  | some (some (_, v)) => some (if ok then .tup [v, .pv (.sc (.bool true))] else v)
  | some none => some (if ok then .tup [z, .pv (.sc (.bool false))] else z)
  | none => none

open Go.MapKept in
theorem findNow_of (kk : IntKind) (n : Int) : ∀ (es : List (Value × LV)) (l : List MapEntry) (i : Nat), l.length = es.length → (∀ j (hj : j < es.length), ∃ e, l[j]? = some e ∧ e.key = es[j].1) → ∀ r, mfind kk n i es = some r →
    (r = none ∧ Instr.findNow (.int kk) (.int kk n) l i = some none ∧ ∀ j (hj : j < es.length), es[j].1 ≠ .int kk n) ∨ ∃ j v e, r = some (i + j, v) ∧ es[j]? = some (.int kk n, v) ∧ l[j]? = some e ∧ Instr.findNow (.int kk) (.int kk n) l i = some (some (i + j, e.val))
  | [], l, i, hl, hk, r, h => by
    simp only [mfind, Option.some.injEq] at h
    subst h
    obtain rfl : l = [] := List.eq_nil_of_length_eq_zero hl
    exact .inl ⟨rfl, rfl, by simp⟩
  | (K, v) :: es, l, i, hl, hk, r, h => by
    cases l with
    | nil => simp at hl
    | cons e0 l =>
      obtain ⟨e1, h1, h2⟩ := hk 0 (by simp)
      simp only [List.getElem?_cons_zero, Option.some.injEq] at h1
      subst h1
      simp only [List.getElem_cons_zero] at h2
      cases K <;> simp only [mfind, reduceCtorEq] at h
      rename_i k' m
      split at h
      case isFalse => cases h
      rename_i hkk
      subst hkk
      split at h
      · rename_i hnm
        subst hnm
        simp only [Option.some.injEq] at h
        subst h
        refine .inr ⟨0, v, e0, rfl, rfl, rfl, ?_⟩
        simp [Instr.findNow, h2, Instr.sameNow]
      · rename_i hnm
        have ih := findNow_of kk n es l (i + 1) (by simpa using hl) (fun j hj => by
          obtain ⟨e, g1, g2⟩ := hk (j + 1) (by simpa using hj)
          exact ⟨e, by simpa using g1, by simpa using g2⟩) r h
        have hnow : Instr.findNow (.int kk) (.int kk n) (e0 :: l) i = Instr.findNow (.int kk) (.int kk n) l (i + 1) := by
          have : (n == m) = false := by simpa using hnm
          simp [Instr.findNow, h2, Instr.sameNow, this]
        rw [hnow]
        rcases ih with ⟨g1, g2, g3⟩ | ⟨j, u, e, g1, g2, g3, g4⟩
        · refine .inl ⟨g1, g2, fun j hj => ?_⟩
          cases j with
          | zero => simp only [List.getElem_cons_zero, ne_eq, Value.int.injEq, true_and]; exact fun e => hnm e.symm
          | succ j => simpa using g3 j (by simpa using hj)
        · refine .inr ⟨j + 1, u, e, by rw [g1]; congr 2; omega, by simpa using g2, by simpa using g3, by rw [g4]; congr 3; omega⟩

/-- A map of our own, all that is known of it. -/
theorem mp_full {E : Env} {w : World} {σ : LSt} (hS : Sim E w σ) {id : Nat} {V : Value} (hv : VRel E w (.mp id) V) {es : List (Value × LV)} (hg : σ.get id = some (.map es)) :
    ∃ L b kvs clock, E.f id = some L ∧ L.n = 0 ∧ L.blk = some b ∧ V = .map (some b) ∧ w.heap[b]? = some (.map kvs clock) ∧ kvs.size = es.length ∧
      (∀ j (hj : j < es.length), ∃ e, kvs[j]? = some e ∧ e.key = es[j].1 ∧ e.val.oneCell' = true ∧ VRel E w es[j].2 e.val) ∧
      (∀ (j : Nat) (e : MapEntry), kvs[j]? = some e → e.born < clock) ∧ (∀ (i j : Nat) (e e' : MapEntry), kvs[i]? = some e → kvs[j]? = some e' → i < j → e.born < e'.born) := by
  obtain ⟨L, h1, h2, b, kvs, clock, g1, g2, g3, g4, g5, g6⟩ := hS.obj id _ hg
  cases hv with
  | mp _ _ u1 u2 u3 =>
    obtain ⟨b', k1, k2⟩ := u3 L h1 h2
    rw [g1] at k1
    obtain rfl := Option.some.inj k1
    exact ⟨L, b, kvs, clock, h1, h2, g1, k2, g2, g3, g4, g5, g6⟩

/-- A map of our own is laid anew in its place. -/
theorem map_set {E : Env} {w : World} {σ : LSt} (hS : Sim E w σ) {id : Nat} {L : Loc} {b : Nat} {kvs kvs' : Array MapEntry} {clock clock' : Nat} (hL : E.f id = some L) (hn : L.n = 0) (hb : L.blk = some b) (hh : w.heap[b]? = some (.map kvs clock)) {es' : List (Value × LV)}
    (h3 : kvs'.size = es'.length) (h4 : ∀ j (hj : j < es'.length), ∃ e, kvs'[j]? = some e ∧ e.key = es'[j].1 ∧ e.val.oneCell' = true ∧ VRel E w es'[j].2 e.val)
    (h5 : ∀ (j : Nat) (e : MapEntry), kvs'[j]? = some e → e.born < clock') (h6 : ∀ (i j : Nat) (e e' : MapEntry), kvs'[i]? = some e → kvs'[j]? = some e' → i < j → e.born < e'.born) :
    ∃ E', Ext E w E' { w with heap := w.heap.setIfInBounds b (.map kvs' clock') } ∧ Sim E' { w with heap := w.heap.setIfInBounds b (.map kvs' clock') } (σ.put id (.map es')) := by
  have := hS.put (w' := { w with heap := w.heap.setIfInBounds b (.map kvs' clock') }) (id := id) (L' := L) (o := .map es') (.inl ⟨L, hL, .inl rfl⟩)
    (fun k _ hne => (Go.MapKept.heap_set hh).2 k (fun e => hne L hL (by rw [hb, e]))) (fun b' hb' => .inr ⟨L, hL, hb'⟩) (by simp) rfl rfl rfl
    (fun hX => ⟨hn, b, kvs', clock', hb, (Go.MapKept.heap_set hh).1, h3, fun j hj => by
      obtain ⟨e, k1, k2, k3, k4⟩ := h4 j hj
      exact ⟨e, k1, k2, k3, k4.mono hX⟩, h5, h6⟩)
  exact ⟨_, this.1, this.2⟩

theorem makeMap_sound {P : Program} {t : TypeId} {E : Env} {w : World} {σ : LSt} (hS : Sim E w σ) :
    ∃ U w' E', (Instr.makeMap t none).run P w = .ok U w' ∧ Ext E w E' w' ∧ Sim E' w' (σ.put σ.nx (.map [])) ∧ VRel E' w' (.mp σ.nx) U := by
  have hn : ¬ E.U σ.nx := fun hu => Nat.lt_irrefl _ (hS.nx σ.nx hu)
  have ha := Go.MapKept.heap_alloc w (.map #[] 0)
  have hsz : (w.alloc (.map #[] 0)).heap.size = w.heap.size + 1 := by
    have e : (w.alloc (.map #[] 0)).heap = w.heap.push (.map #[] 0) := rfl
    rw [e]; simp
  have := hS.put (w' := w.alloc (.map #[] 0)) (id := σ.nx) (L' := ⟨some w.heap.size, 0, 0, 0, 0⟩) (o := .map []) (.inr hn) (fun k hk _ => ha.2 k hk)
    (fun b hb => by
      simp only [Option.some.injEq] at hb
      subst hb
      exact .inl ⟨Nat.le_refl _, by omega⟩) (by omega) rfl rfl rfl
    (fun hX => ⟨rfl, w.heap.size, #[], 0, rfl, ha.1, rfl, by simp, by simp, by simp⟩)
  refine ⟨.map (some w.heap.size), w.alloc (.map #[] 0), _, by simp [Instr.makeMap, Sem.run_bind], this.1, this.2, .mp _ _ (.inl rfl) ⟨_, rfl⟩ fun L hL _ => ?_⟩
  simp only [Env.put, if_true, Option.some.injEq] at hL
  subst hL
  exact ⟨_, rfl, rfl⟩

theorem lookup_sound {P : Program} {t e : TypeId} {kk : IntKind} {z : Value} (ht : tmap P t = some (kk, e)) (hz : tzero P e = some z) {E : Env} {w : World} {σ : LSt} (hS : Sim E w σ) {id : Nat} {V : Value} (hv : VRel E w (.mp id) V) {es : List (Value × LV)} (hg : σ.get id = some (.map es))
    {n : Int} {ok : Bool} {v : LV} (h : llook (ofV z) kk n es ok = some v) : ∃ U, (Instr.lookup t V (.int kk n) ok).run P w = .ok U w ∧ VRel E w v U := by
  obtain ⟨k, hu, hk⟩ := tmap_inv ht
  obtain ⟨L, b, kvs, clock, g1, g2, g3, rfl, g5, g6, g7, g8, g9⟩ := mp_full hS hv hg
  have hck := Go.MapKept.run_checkKey (P := P) (w := w) (k := .int kk n) hk (by simp [Go.MapKept.IsKey]) kvs.isEmpty 9999
  have two : ∀ {u : LV} {U : Value} (b : Bool), VRel E w u U → VRel E w (if ok then .tup [u, .pv (.sc (.bool b))] else u) (if ok then .tuple #[U, .bool b] else U) := by
    intro u U b hu
    cases ok with
    | false => exact hu
    | true =>
      refine .tup [u, .pv (.sc (.bool b))] [U, .bool b] rfl fun i i1 i2 => ?_
      match i, i1, i2 with
      | 0, _, _ => exact hu
      | 1, _, _ => exact .pv _ _ (.sc _)
  unfold llook at h
  cases hf : mfind kk n 0 es with
  | none => simp [hf] at h
  | some r =>
    have := findNow_of kk n es kvs.toList 0 (by simpa using g6) (fun j hj => by
      obtain ⟨e, q1, q2, _⟩ := g7 j hj
      exact ⟨e, by simpa using q1, q2⟩) r hf
    rcases this with ⟨rfl, h1, _⟩ | ⟨j, u, en, rfl, h1, h2, h3⟩
    · simp only [hf, Option.some.injEq] at h
      subst h
      refine ⟨_, ?_, two false (ofV_rel E w z)⟩
      simp [Instr.lookup, Sem.run_bind, run_underlying hu, Go.MapKept.run_getObj_map g5, hck, Go.MapKept.run_findKey hk h1, run_zero hz]
    · simp only [hf, Option.some.injEq] at h
      subst h
      obtain ⟨hj, he⟩ := List.getElem?_eq_some_iff.1 h1
      obtain ⟨e', q1, q2, q3, q4⟩ := g7 j hj
      have : e' = en := by
        have h2' : kvs[j]? = some en := by simpa using h2
        rw [q1] at h2'; exact Option.some.inj h2'
      subst this
      rw [he] at q4
      refine ⟨_, ?_, two true q4⟩
      simp [Instr.lookup, Sem.run_bind, run_underlying hu, Go.MapKept.run_getObj_map g5, hck, Go.MapKept.run_findKey hk h3]

theorem mapUpdate_sound {P : Program} {t e : TypeId} {kk : IntKind} (ht : tmap P t = some (kk, e)) {E : Env} {w : World} {σ : LSt} (hS : Sim E w σ) {id : Nat} {V : Value} (hv : VRel E w (.mp id) V) {es es' : List (Value × LV)} (hg : σ.get id = some (.map es))
    {n : Int} {u : LV} {U : Value} (hu : VRel E w u U) (h1 : U.oneCell' = true) (h : mput kk n u es = some es') : ∃ w' E', (Instr.mapUpdate t V (.int kk n) U).run P w = .ok () w' ∧ Ext E w E' w' ∧ Sim E' w' (σ.put id (.map es')) := by
  obtain ⟨k, hut, hk⟩ := tmap_inv ht
  obtain ⟨L, b, kvs, clock, g1, g2, g3, rfl, g5, g6, g7, g8, g9⟩ := mp_full hS hv hg
  have hck := Go.MapKept.run_checkKey (P := P) (w := w) (k := .int kk n) hk (by simp [Go.MapKept.IsKey]) false 9999
  unfold mput at h
  cases hf : mfind kk n 0 es with
  | none => simp [hf] at h
  | some r =>
    have := findNow_of kk n es kvs.toList 0 (by simpa using g6) (fun j hj => by
      obtain ⟨e, q1, q2, _⟩ := g7 j hj
      exact ⟨e, by simpa using q1, q2⟩) r hf
    rcases this with ⟨rfl, k1, _⟩ | ⟨j, v0, en, rfl, k1, k2, k3⟩
    · simp only [hf, Option.some.injEq] at h
      subst h
      obtain ⟨E', x1, x2⟩ := map_set hS (kvs' := kvs.push { key := .int kk n, val := U, born := clock }) (clock' := clock + 1) (es' := es ++ [(.int kk n, u)]) g1 g2 g3 g5 (by simp [g6]) (fun j hj => by
        simp only [List.length_append, List.length_cons, List.length_nil, Nat.zero_add] at hj
        by_cases c : j < es.length
        · obtain ⟨e, q1, q2⟩ := g7 j c
          refine ⟨e, ?_, ?_⟩
          · rw [Array.getElem?_push, if_neg (by omega)]; exact q1
          · rw [List.getElem_append_left c]; exact q2
        · obtain rfl : j = es.length := by omega
          refine ⟨{ key := .int kk n, val := U, born := clock }, by rw [Array.getElem?_push, if_pos g6.symm], ?_⟩
          simp only [List.getElem_append_right (Nat.le_refl _), Nat.sub_self, List.getElem_cons_zero]
          exact ⟨trivial, h1, hu⟩) (fun j e he => by
        rw [Array.getElem?_push] at he
        split at he
        · obtain rfl := Option.some.inj he; exact Nat.lt_succ_self _
        · have := g8 j e he; omega) (fun i j e e' he he' hij => by
        rw [Array.getElem?_push] at he he'
        split at he'
        · split at he
          · omega
          · obtain rfl := Option.some.inj he'; exact g8 i e he
        · split at he
          · have hjs : j < kvs.size := (Array.getElem?_eq_some_iff.1 he').1
            omega
          · exact g9 i j e e' he he' hij)
      refine ⟨_, E', ?_, x1, x2⟩
      simp [Instr.mapUpdate, Sem.run_bind, run_underlying hut, Go.MapKept.run_getObj_map g5, hck, Go.MapKept.run_findKey hk k1, Go.MapKept.run_setObj_map _ g5]
    · simp only [hf, Option.some.injEq, Nat.zero_add] at h
      subst h
      simp only [Nat.zero_add] at k3
      obtain ⟨hj, he⟩ := List.getElem?_eq_some_iff.1 k1
      have k2' : kvs[j]? = some en := by simpa using k2
      obtain ⟨e', q1, q2, q3, q4⟩ := g7 j hj
      obtain rfl : e' = en := by rw [q1] at k2'; exact Option.some.inj k2'
      have hkey : e'.key = .int kk n := by rw [q2, he]
      obtain ⟨E', x1, x2⟩ := map_set hS (kvs' := kvs.modify j fun e => { e with key := .int kk n, val := U }) (clock' := clock) (es' := es.set j (.int kk n, u)) g1 g2 g3 g5 (by simp [g6]) (fun i hi => by
        simp only [List.length_set] at hi
        by_cases c : j = i
        · subst c
          refine ⟨{ e' with key := .int kk n, val := U }, by rw [Array.getElem?_modify, q1]; simp, ?_⟩
          simp only [List.getElem_set_self]
          exact ⟨trivial, h1, hu⟩
        · obtain ⟨e, p1, p2⟩ := g7 i hi
          refine ⟨e, by rw [Array.getElem?_modify, if_neg c]; exact p1, ?_⟩
          rw [List.getElem_set_ne c]; exact p2) (fun i e hi => by
        rw [Array.getElem?_modify] at hi
        split at hi
        · rename_i c
          subst c
          rw [q1] at hi
          simp only [Option.map_some, Option.some.injEq] at hi
          subst hi
          exact g8 j e' q1
        · exact g8 i e hi) (fun i i' e1 e2 hi hi' hii => by
        have key : ∀ (i : Nat) (e : MapEntry), (kvs.modify j fun e => { e with key := .int kk n, val := U })[i]? = some e → ∃ e0, kvs[i]? = some e0 ∧ e0.born = e.born := by
          intro i e hi
          rw [Array.getElem?_modify] at hi
          split at hi
          · rename_i c
            subst c
            rw [q1] at hi
            simp only [Option.map_some, Option.some.injEq] at hi
            subst hi
            exact ⟨e', q1, rfl⟩
          · exact ⟨e, hi, rfl⟩
        obtain ⟨a1, b1, c1⟩ := key i e1 hi
        obtain ⟨a2, b2, c2⟩ := key i' e2 hi'
        rw [← c1, ← c2]
        exact g9 i i' a1 a2 b1 b2 hii)
      refine ⟨_, E', ?_, x1, x2⟩
      simp [Instr.mapUpdate, Sem.run_bind, run_underlying hut, Go.MapKept.run_getObj_map g5, hck, Go.MapKept.run_findKey hk k3, q1, hkey, Go.MapKept.run_keyThatStays (P := P) (w := w) (d := .int kk) (k := .int kk n) (by simp [Go.MapKept.IsKey]), Go.MapKept.run_setObj_map _ g5]

theorem delete_sound {P : Program} {t k' ty e : TypeId} {kk : IntKind} (ht : tmap P t = some (kk, e)) {E : Env} {w : World} {σ : LSt} (hS : Sim E w σ) {id : Nat} {V : Value} (hv : VRel E w (.mp id) V) {es es' : List (Value × LV)} (hg : σ.get id = some (.map es))
    {n : Int} (h : mdel kk n es = some es') : ∃ w' E', (Builtin.delete_ #[t, k'] ty #[V, .int kk n]).run P w = .ok (.tuple #[]) w' ∧ Ext E w E' w' ∧ Sim E' w' (σ.put id (.map es')) := by
  obtain ⟨k, hut, hk⟩ := tmap_inv ht
  obtain ⟨L, b, kvs, clock, g1, g2, g3, rfl, g5, g6, g7, g8, g9⟩ := mp_full hS hv hg
  have hck := Go.MapKept.run_checkKey (P := P) (w := w) (k := .int kk n) hk (by simp [Go.MapKept.IsKey]) kvs.isEmpty 9999
  unfold mdel at h
  cases hf : mfind kk n 0 es with
  | none => simp [hf] at h
  | some r =>
    have := findNow_of kk n es kvs.toList 0 (by simpa using g6) (fun j hj => by
      obtain ⟨e, q1, q2, _⟩ := g7 j hj
      exact ⟨e, by simpa using q1, q2⟩) r hf
    rcases this with ⟨rfl, k1, _⟩ | ⟨j, v0, en, rfl, k1, k2, k3⟩
    · simp only [hf, Option.some.injEq] at h
      subst h
      obtain ⟨E', x1, x2⟩ := map_set hS (kvs' := kvs) (clock' := clock) (es' := es) g1 g2 g3 g5 g6 g7 g8 g9
      refine ⟨_, E', ?_, x1, x2⟩
      simp [Builtin.delete_, Sem.run_bind, run_underlying hut, Go.MapKept.run_getObj_map g5, hck, Go.MapKept.run_findKey hk k1, Go.MapKept.run_setObj_map _ g5]
    · simp only [hf, Option.some.injEq, Nat.zero_add] at h
      subst h
      simp only [Nat.zero_add] at k3
      obtain ⟨hj, he⟩ := List.getElem?_eq_some_iff.1 k1
      have hjk : j < kvs.size := by omega
      have hget : ∀ i : Nat, (kvs.eraseIdxIfInBounds j)[i]? = if i < j then kvs[i]? else kvs[i + 1]? := by
        intro i
        unfold Array.eraseIdxIfInBounds
        rw [dif_pos hjk, Array.getElem?_eraseIdx]
      obtain ⟨E', x1, x2⟩ := map_set hS (kvs' := kvs.eraseIdxIfInBounds j) (clock' := clock) (es' := es.eraseIdx j) g1 g2 g3 g5 (by
          rw [List.length_eraseIdx, if_pos hj]
          unfold Array.eraseIdxIfInBounds
          rw [dif_pos hjk, Array.size_eraseIdx, g6]) (fun i hi => by
        rw [List.length_eraseIdx, if_pos hj] at hi
        rw [hget, List.getElem_eraseIdx]
        by_cases c : i < j
        · rw [if_pos c, dif_pos c]; exact g7 i (by omega)
        · rw [if_neg c, dif_neg c]; exact g7 (i + 1) (by omega)) (fun i e hi => by
        rw [hget] at hi
        split at hi
        · exact g8 _ _ hi
        · exact g8 _ _ hi) (fun i i' e1 e2 hi hi' hii => by
        rw [hget] at hi hi'
        split at hi <;> split at hi'
        · exact g9 _ _ _ _ hi hi' hii
        · exact g9 _ _ _ _ hi hi' (by omega)
        · omega
        · exact g9 _ _ _ _ hi hi' (by omega))
      refine ⟨_, E', ?_, x1, x2⟩
      simp [Builtin.delete_, Sem.run_bind, run_underlying hut, Go.MapKept.run_getObj_map g5, hck, Go.MapKept.run_findKey hk k3, Go.MapKept.run_setObj_map _ g5]

theorem maplen_sound {P : Program} {t ty e : TypeId} {kk : IntKind} (ht : tmap P t = some (kk, e)) {E : Env} {w : World} {σ : LSt} (hS : Sim E w σ) {id : Nat} {V : Value} (hv : VRel E w (.mp id) V) {es : List (Value × LV)} (hg : σ.get id = some (.map es)) :
    (Builtin.len_ #[t] ty #[V]).run P w = .ok (.int .i64 es.length) w := by
  obtain ⟨k, hut, hk⟩ := tmap_inv ht
  obtain ⟨L, b, kvs, clock, g1, g2, g3, rfl, g5, g6, g7, g8, g9⟩ := mp_full hS hv hg
  simp [Builtin.len_, Sem.run_bind, run_underlying hut, Go.MapKept.run_getObj_map g5, goInt, g6]
end Go.Lw
