/- A logical layer over the calculus of walks: operations by what they read, rows of things, what comes in. -/
import Derived.Test.YtlikcejcdnkncaaLb
import Derived.ChangeAlike
import Derived.Carry
import Derived.OpenShut
import Derived.ChangeOld
import Derived.ChangeSlices
import Derived.Deep.Grids
import Derived.DataElems
set_option linter.unusedVariables false
set_option linter.unusedSimpArgs false
namespace Go.Lw

/-- How many operations lie up to the pick that hangs on a temporary. -/
def pickOn (d : Nat) (o : Oper) : Bool :=
  match o.op with
  | .pick (.tmp t) _ _ => t == d
  | _ => false
def scTake (d : Nat) (l : List Oper) : Nat := (l.takeWhile fun x => !pickOn d x).length + 1
structure Under (p q : Prop) : Prop where
  h : p → q
def dstsOf (l : List Oper) (t : Nat) : Bool := l.any fun o => o.dst == some t
theorem dstsIn_self (l : List Oper) : dstsIn (dstsOf l) l = true := by
  unfold dstsIn dstsOf
  rw [List.all_eq_true]
  intro o ho
  split
  · rfl
  · rename_i d hd
    exact List.any_eq_true.2 ⟨o, ho, by simp [hd]⟩

section
variable {P : Program} {ops : Array Oper} {a : LAct} {σ : LSt}
theorem LOps.scAnd {Q : Exit → LAct → LSt → Prop} {o : Oper} {l : List Oper} {j d k dp : Nat} {b v : Bool} (hg : o.guard = some (j, true)) (hd : (ops[j]?).bind (·.dst) = some d) (hk : scTake d (o :: l) = k) (hp : (((o :: l).take k).getLast?).bind (·.dst) = some dp)
    (hb : look d a.m = some (.pv (.sc (.bool b)))) (hm : keysOut (dstsOf ((o :: l).take k)) a.m = true)
    (ht : Under (b = true) (LOps P ops (fun e x s => e = .normal ∧ s = σ ∧ look dp x.m = some (.pv (.sc (.bool v)))) ((o :: l).take k) ⟨a.n, upd d (.pv (.sc (.bool true))) a.m⟩ σ))
    (hf : LOps P ops (fun e x s => e = .normal ∧ s = σ ∧ look dp x.m = some (.pv (.sc (.bool false)))) ((o :: l).take k) ⟨a.n, upd d (.pv (.sc (.bool false))) a.m⟩ σ)
    (hr : LOps P ops Q ((o :: l).drop k) ⟨a.n, upd dp (.pv (.sc (.bool (b && v)))) a.m⟩ σ) : LOps P ops Q (o :: l) a σ :=
  LOps.andThen k _ d dp hb (dstsIn_self _) hm ht.h hf hr
theorem LOps.scOr {Q : Exit → LAct → LSt → Prop} {o : Oper} {l : List Oper} {j d k dp : Nat} {b v : Bool} (hg : o.guard = some (j, false)) (hd : (ops[j]?).bind (·.dst) = some d) (hk : scTake d (o :: l) = k) (hp : (((o :: l).take k).getLast?).bind (·.dst) = some dp)
    (hb : look d a.m = some (.pv (.sc (.bool b)))) (hm : keysOut (dstsOf ((o :: l).take k)) a.m = true)
    (hf : Under (b = false) (LOps P ops (fun e x s => e = .normal ∧ s = σ ∧ look dp x.m = some (.pv (.sc (.bool v)))) ((o :: l).take k) ⟨a.n, upd d (.pv (.sc (.bool false))) a.m⟩ σ))
    (ht : LOps P ops (fun e x s => e = .normal ∧ s = σ ∧ look dp x.m = some (.pv (.sc (.bool true)))) ((o :: l).take k) ⟨a.n, upd d (.pv (.sc (.bool true))) a.m⟩ σ)
    (hr : LOps P ops Q ((o :: l).drop k) ⟨a.n, upd dp (.pv (.sc (.bool (b || v)))) a.m⟩ σ) : LOps P ops Q (o :: l) a σ :=
  LOps.orElse k _ d dp hb (dstsIn_self _) hm ht hf.h hr
end
end Go.Lw

set_option linter.unusedVariables false
set_option linter.unusedSimpArgs false
namespace Go.Lw

def lookB {α : Type} (t : Nat) : List (Nat × α) → Option α
  | [] => none
  | (k, v) :: r => bif Nat.beq k t then some v else lookB t r
theorem lookB_eq {α : Type} (t : Nat) : ∀ l : List (Nat × α), lookB t l = look t l
  | [] => rfl
  | (k, v) :: r => by
    simp only [lookB, look, lookB_eq t r]
    by_cases h : k = t
    · rw [if_pos h]; simp [h]
    · rw [if_neg h]
      have : Nat.beq k t = false := by
        cases hb : Nat.beq k t with
        | false => rfl
        | true => exact absurd (Nat.eq_of_beq_eq_true hb) h
      rw [this]; rfl

/-- The entries of these temporaries. -/
inductive Reads (T : List (Nat × LV)) : List Nat → List (Nat × LV) → Prop
  | nil : Reads T [] []
  | cons {t : Nat} {ks : List Nat} {v : LV} {tv : List (Nat × LV)} (h : lookB t T = some v) (hr : Reads T ks tv) : Reads T (t :: ks) ((t, v) :: tv)

def readB {α : Type} (T : List (Nat × α)) : List Nat → Option (List (Nat × α))
  | [] => some []
  | t :: ks => match lookB t T, readB T ks with
    | some v, some r => some ((t, v) :: r)
    | _, _ => none
theorem readB_eq {T : List (Nat × LV)} : ∀ {ks : List Nat} {tv : List (Nat × LV)}, readB T ks = some tv → Reads T ks tv
  | [], tv, h => by simp only [readB, Option.some.injEq] at h; subst h; exact .nil
  | t :: ks, tv, h => by
    simp only [readB] at h
    split at h
    · rename_i v r h1 h2
      simp only [Option.some.injEq] at h; subst h
      exact .cons h1 (readB_eq h2)
    · cases h
theorem Reads.look {T : List (Nat × LV)} {ks : List Nat} {tv : List (Nat × LV)} (h : Reads T ks tv) : ∀ t v, Lw.look t tv = some v → Lw.look t T = some v := by
  induction h with
  | nil => intro t v h; simp [Lw.look] at h
  | @cons t ks v tv h hr ih =>
    intro t' v' hv
    simp only [Lw.look] at hv
    split at hv
    · rename_i e; subst e
      rw [← hv, ← lookB_eq]; exact h
    · exact ih _ _ hv
theorem Reads.ar {a : LAct} {ks : List Nat} {tv : List (Nat × LV)} (h : Reads a.m ks tv) {E : Env} {w : World} {A : Act} (hA : AR E w a A) : AR E w ⟨a.n, tv⟩ A :=
  ⟨hA.1, fun t v hv => hA.2 t v (h.look t v hv)⟩

def tmpOf : Operand → Option Nat
  | .tmp t => some t
  | _ => none
def tmpsOf (op : Op) : List Nat := op.operands.toList.filterMap tmpOf

/-- What operations do. -/
def lopE (P : Program) (op : Op) (a : LAct) (σ : LSt) : Option (LV × LSt) := lop P ⟨none, op, 0, "", #[], none⟩ a σ
theorem lopE_eq (P : Program) (d : Option Nat) (op : Op) (ty : TypeId) (pos : String) (af : Array Edge) (g : Option (Nat × Bool)) (a : LAct) (σ : LSt) : lop P ⟨d, op, ty, pos, af, g⟩ a σ = lopE P op a σ := by
  cases op <;> rfl
def lcalleeE (op : Op) (a : LAct) : Option (FuncId × List LV) := lcallee ⟨none, op, 0, "", #[], none⟩ a
theorem lcalleeE_eq (d : Option Nat) (op : Op) (ty : TypeId) (pos : String) (af : Array Edge) (g : Option (Nat × Bool)) (a : LAct) : lcallee ⟨d, op, ty, pos, af, g⟩ a = lcalleeE op a := by
  cases op <;> rfl

theorem bltE {a b : Nat} (h : Nat.blt a b = true) : a < b := by rwa [Nat.blt_eq] at h
theorem AR.cons {E : Env} {w : World} {n : Nat} {m : List (Nat × LV)} {A : Act} {d : Nat} {v : LV} (h : AR E w ⟨n, upd d v m⟩ A) : AR E w ⟨n, (d, v) :: m⟩ A := by
  refine ⟨h.1, fun t u hu => h.2 t u ?_⟩
  rw [look_upd]
  simpa only [look] using hu

/-- Is the operation carried out? Told by one look. -/
inductive Goes (ops : Array Oper) (m : List (Nat × LV)) : Option (Nat × Bool) → Bool → Prop
  | free : Goes ops m none true
  | on {j d : Nat} {want b : Bool} {v : LV} (hd : (ops[j]?).bind (·.dst) = some d) (hv : lookB d m = some v) (hb : v = .pv (.sc (.bool b))) (r : Bool) (hr : (b == want) = r) : Goes ops m (some (j, want)) r
  | undef {j d : Nat} {want : Bool} {v : LV} {z : Array Value} (hd : (ops[j]?).bind (·.dst) = some d) (hv : lookB d m = some v) (hb : v = .pv (.sc (.tuple z))) : Goes ops m (some (j, want)) false
theorem Goes.wanted {ops : Array Oper} {o : Oper} {a : LAct} {b : Bool} (h : Goes ops a.m o.guard b) : wantedL ops o a = some b := by
  unfold wantedL
  generalize o.guard = g at h
  cases h with
  | free => rfl
  | on hd hv hb r hr =>
    subst hb
    simp only [LAct.yield, hd, Option.bind_some, ← lookB_eq, hv, Option.map_some, wantIs]
    rw [← hr]
  | undef hd hv hb =>
    subst hb
    simp only [LAct.yield, hd, Option.bind_some, ← lookB_eq, hv, Option.map_some, wantIs]

section
variable {P : Program} {ops : Array Oper} {Q : Exit → LAct → LSt → Prop} {n : Nat} {m : List (Nat × LV)} {σ σ' : LSt} {rest : List Oper} {d : Nat} {op : Op} {ty : TypeId} {pos : String} {af : Array Edge} {g : Option (Nat × Bool)} {v : LV}

theorem LOps.weaken {l : List Oper} {m m' : List (Nat × LV)} (hm : ∀ t v, look t m' = some v → look t m = some v) (h : LOps P ops Q l ⟨n, m'⟩ σ) : LOps P ops Q l ⟨n, m⟩ σ :=
  fun r E w A h1 h2 h3 => h r E w A h1 ⟨h2.1, fun t v hv => h2.2 t v (hm t v hv)⟩ h3
theorem look_cons_upd {d t : Nat} {v u : LV} (h : look t ((d, v) :: m) = some u) : look t (upd d v m) = some u := by
  rw [look_upd]; simpa only [look] using h

theorem LOps.locp {dst : Option Nat} (hw : Goes ops m g true) {ks : List Nat} (hks : tmpsOf op = ks) {tv : List (Nat × LV)} (hl : Reads m ks tv) (hd : ∀ k, dst = some k → k < n) (h : lopE P op ⟨n, tv⟩ σ = some (v, σ')) (hr : LOps P ops Q rest (LAct.put ⟨n, m⟩ dst v) σ') : LOps P ops Q (⟨dst, op, ty, pos, af, g⟩ :: rest) ⟨n, m⟩ σ := by
  refine LOps.step (a := ⟨n, m⟩) hw.wanted hd (fun E w A h1 h2 => ?_) hr
  exact lop_sound (by rw [lopE_eq]; exact h) E w A h1 (hl.ar h2)

/-- One operation, by what it reads. -/
theorem LOps.loc (hw : Goes ops m g true) {tv : List (Nat × LV)} (hl : readB m (tmpsOf op) = some tv) (hd : Nat.blt d n = true) (h : lopE P op ⟨n, tv⟩ σ = some (v, σ')) (hr : LOps P ops Q rest ⟨n, (d, v) :: m⟩ σ') : LOps P ops Q (⟨some d, op, ty, pos, af, g⟩ :: rest) ⟨n, m⟩ σ :=
  LOps.locp hw rfl (readB_eq hl) (fun k hk => by cases hk; exact bltE hd) h (LOps.weaken (fun _ _ => look_cons_upd) hr)
theorem LOps.loc0 (hw : Goes ops m g true) {tv : List (Nat × LV)} (hl : readB m (tmpsOf op) = some tv) (h : lopE P op ⟨n, tv⟩ σ = some (v, σ')) (hr : LOps P ops Q rest ⟨n, m⟩ σ') : LOps P ops Q (⟨none, op, ty, pos, af, g⟩ :: rest) ⟨n, m⟩ σ :=
  LOps.locp hw rfl (readB_eq hl) (fun k hk => by cases hk) h hr
theorem LOps.loc1 (hw : Goes ops m g true) {tv : List (Nat × LV)} (hl : Reads m (tmpsOf op) tv) (hd : Nat.blt d n = true) (h : lopE P op ⟨n, tv⟩ σ = some (v, σ')) (hr : LOps P ops Q rest ⟨n, (d, v) :: m⟩ σ') : LOps P ops Q (⟨some d, op, ty, pos, af, g⟩ :: rest) ⟨n, m⟩ σ :=
  LOps.locp hw rfl hl (fun k hk => by cases hk; exact bltE hd) h (LOps.weaken (fun _ _ => look_cons_upd) hr)
/-- The simplest ones. -/
theorem LOps.mv {t : Nat} (hw : Goes ops m g true) (hl : lookB t m = some v) (hd : Nat.blt d n = true) (hr : LOps P ops Q rest ⟨n, (d, v) :: m⟩ σ) : LOps P ops Q (⟨some d, .move (.tmp t), ty, pos, af, g⟩ :: rest) ⟨n, m⟩ σ :=
  LOps.loc1 hw (.cons hl .nil) hd (by simp [lopE, lop, LAct.ev, look]) hr
theorem LOps.asg {t : Nat} (hw : Goes ops m g true) (hl : lookB t m = some v) (hd : Nat.blt d n = true) (hr : LOps P ops Q rest ⟨n, (d, v) :: m⟩ σ) : LOps P ops Q (⟨some d, .assign (.tmp t), ty, pos, af, g⟩ :: rest) ⟨n, m⟩ σ :=
  LOps.loc1 hw (.cons hl .nil) hd (by simp [lopE, lop, LAct.ev, look]) hr
theorem LOps.ext {t k : Nat} {l : List LV} (hw : Goes ops m g true) (hl : lookB t m = some (.tup l)) (hk : l[k]? = some v) (hd : Nat.blt d n = true) (hr : LOps P ops Q rest ⟨n, (d, v) :: m⟩ σ) : LOps P ops Q (⟨some d, .extract (.tmp t) k, ty, pos, af, g⟩ :: rest) ⟨n, m⟩ σ :=
  LOps.loc1 hw (.cons hl .nil) hd (by simp [lopE, lop, LAct.ev, look, hk]) hr
theorem LOps.pass (hw : Goes ops m g false) (hd : Nat.blt d n = true) (hr : LOps P ops Q rest ⟨n, (d, .pv (.sc (.tuple #[]))) :: m⟩ σ) : LOps P ops Q (⟨some d, op, ty, pos, af, g⟩ :: rest) ⟨n, m⟩ σ :=
  LOps.skip (a := ⟨n, m⟩) hw.wanted (fun k hk => by cases hk; exact bltE hd) (LOps.weaken (fun _ _ => look_cons_upd) hr)
theorem LOps.pass0 (hw : Goes ops m g false) (hr : LOps P ops Q rest ⟨n, m⟩ σ) : LOps P ops Q (⟨none, op, ty, pos, af, g⟩ :: rest) ⟨n, m⟩ σ :=
  LOps.skip (a := ⟨n, m⟩) hw.wanted (fun k hk => by cases hk) hr

/-- A call, by what it reads. -/
theorem LOps.locCall {dst : Option Nat} (hw : Goes ops m g true) {tv : List (Nat × LV)} (hl : readB m (tmpsOf op) = some tv) (hd : ∀ k, dst = some k → k < n) {f : FuncId} {args : List LV} (hg : lcalleeE op ⟨n, tv⟩ = some (f, args)) (hc : callable P f = true)
    (h : LCalls P f args (fun v σ' => LOps P ops Q rest (LAct.put ⟨n, m⟩ dst v) σ') σ) : LOps P ops Q (⟨dst, op, ty, pos, af, g⟩ :: rest) ⟨n, m⟩ σ :=
  LOps.call (a := ⟨n, m⟩) hw.wanted hd (fun E w A _ hA => lcallee_sound (by rw [lcalleeE_eq]; exact hg) hc ((readB_eq hl).ar hA)) h
theorem LOps.locFn (hw : Goes ops m g true) {tv : List (Nat × LV)} (hl : readB m (tmpsOf op) = some tv) (hd : Nat.blt d n = true) {f : FuncId} {args : List LV} (hg : lcalleeE op ⟨n, tv⟩ = some (f, args)) (hc : callable P f = true)
    (h : Fun P f args v) (ha : args.all (·.under 0) = true) (hv : v.under 0 = true) (hr : LOps P ops Q rest ⟨n, (d, v) :: m⟩ σ) : LOps P ops Q (⟨some d, op, ty, pos, af, g⟩ :: rest) ⟨n, m⟩ σ := by
  refine LOps.locCall hw hl (fun k hk => by cases hk; exact bltE hd) hg hc ((LCalls.frame (Q := fun u => u = v) (h.mono fun u σ' e => ⟨by subst e; exact hv, e⟩) ha σ).mono ?_)
  rintro u σ' ⟨rfl, rfl⟩
  exact LOps.weaken (fun _ _ => look_cons_upd) hr

/-! ### Short circuits -/
theorem LOps.and2 {o : Oper} {l : List Oper} {j d k dp : Nat} {b v : Bool} {V : LV} (hg : o.guard = some (j, true)) (hd : (ops[j]?).bind (·.dst) = some d) (hk : scTake d (o :: l) = k) (hp : (((o :: l).take k).getLast?).bind (·.dst) = some dp)
    (hb : lookB d m = some V) (hV : V = .pv (.sc (.bool b))) (hm : keysOut (dstsOf ((o :: l).take k)) m = true)
    (ht : Under (b = true) (LOps P ops (fun e x s => e = .normal ∧ s = σ ∧ lookB dp x.m = some (.pv (.sc (.bool v)))) ((o :: l).take k) ⟨n, (d, .pv (.sc (.bool true))) :: m⟩ σ))
    (hf : LOps P ops (fun e x s => e = .normal ∧ s = σ ∧ lookB dp x.m = some (.pv (.sc (.bool false)))) ((o :: l).take k) ⟨n, (d, .pv (.sc (.bool false))) :: m⟩ σ)
    (hr : LOps P ops Q ((o :: l).drop k) ⟨n, (dp, .pv (.sc (.bool (b && v)))) :: m⟩ σ) : LOps P ops Q (o :: l) ⟨n, m⟩ σ := by
  subst hV
  simp only [lookB_eq] at ht hf hb
  exact LOps.andThen (a := ⟨n, m⟩) k _ d dp hb (dstsIn_self _) hm (fun h => LOps.weaken (fun _ _ => look_cons_upd) (ht.h h)) (LOps.weaken (fun _ _ => look_cons_upd) hf) (LOps.weaken (fun _ _ => look_cons_upd) hr)
theorem LOps.or2 {o : Oper} {l : List Oper} {j d k dp : Nat} {b v : Bool} {V : LV} (hg : o.guard = some (j, false)) (hd : (ops[j]?).bind (·.dst) = some d) (hk : scTake d (o :: l) = k) (hp : (((o :: l).take k).getLast?).bind (·.dst) = some dp)
    (hb : lookB d m = some V) (hV : V = .pv (.sc (.bool b))) (hm : keysOut (dstsOf ((o :: l).take k)) m = true)
    (hf : Under (b = false) (LOps P ops (fun e x s => e = .normal ∧ s = σ ∧ lookB dp x.m = some (.pv (.sc (.bool v)))) ((o :: l).take k) ⟨n, (d, .pv (.sc (.bool false))) :: m⟩ σ))
    (ht : LOps P ops (fun e x s => e = .normal ∧ s = σ ∧ lookB dp x.m = some (.pv (.sc (.bool true)))) ((o :: l).take k) ⟨n, (d, .pv (.sc (.bool true))) :: m⟩ σ)
    (hr : LOps P ops Q ((o :: l).drop k) ⟨n, (dp, .pv (.sc (.bool (b || v)))) :: m⟩ σ) : LOps P ops Q (o :: l) ⟨n, m⟩ σ := by
  subst hV
  simp only [lookB_eq] at ht hf hb
  exact LOps.orElse (a := ⟨n, m⟩) k _ d dp hb (dstsIn_self _) hm (LOps.weaken (fun _ _ => look_cons_upd) ht) (fun h => LOps.weaken (fun _ _ => look_cons_upd) (hf.h h)) (LOps.weaken (fun _ _ => look_cons_upd) hr)
theorem LOps.scEnd {dp : Nat} {V : Bool} {v : LV} (h : lookB dp m = some v) (hv : v = .pv (.sc (.bool V))) : LOps P ops (fun e x s => e = .normal ∧ s = σ ∧ lookB dp x.m = some (.pv (.sc (.bool V)))) [] ⟨n, m⟩ σ :=
  LOps.nil ⟨rfl, rfl, by subst hv; exact h⟩
/-- A guard that is not settled. -/
theorem LOps.guard2 {o : Oper} {l : List Oper} {b : Bool} {j d : Nat} {want : Bool} {V : LV} (hg : o.guard = some (j, want)) (hd : (ops[j]?).bind (·.dst) = some d) (hb : lookB d m = some V) (hV : V = .pv (.sc (.bool b)))
    (ht : Under (b = true) (LOps P ops Q (o :: l) ⟨n, (d, .pv (.sc (.bool true))) :: m⟩ σ)) (hf : Under (b = false) (LOps P ops Q (o :: l) ⟨n, (d, .pv (.sc (.bool false))) :: m⟩ σ)) : LOps P ops Q (o :: l) ⟨n, m⟩ σ := by
  subst hV
  rw [lookB_eq] at hb
  exact LOps.choose (a := ⟨n, m⟩) d hb (fun h => LOps.weaken (fun _ _ => look_cons_upd) (ht.h h)) (fun h => LOps.weaken (fun _ _ => look_cons_upd) (hf.h h))
end

section
variable {P : Program} {Q : Exit → LAct → LSt → Prop} {n : Nat} {m : List (Nat × LV)} {σ : LSt} {k : List KI}
theorem LK.cond2 {t : Nat} {x y : Code} {b : Bool} {V : LV} (hc : lookB t m = some V) (hV : V = .pv (.sc (.bool b))) (ht : Under (b = true) (LK P (.code x :: k) Q ⟨n, m⟩ σ)) (hf : Under (b = false) (LK P (.code y :: k) Q ⟨n, m⟩ σ)) : LK P (.code (.cond (.tmp t) x y) :: k) Q ⟨n, m⟩ σ := by
  subst hV; rw [lookB_eq] at hc; exact LK.cond (a := ⟨n, m⟩) hc ht.h hf.h
theorem LK.condT2 {t : Nat} {x y : Code} {b : Bool} {V : LV} (hc : lookB t m = some V) (hV : V = .pv (.sc (.bool b))) (hb : b = true) (ht : LK P (.code x :: k) Q ⟨n, m⟩ σ) : LK P (.code (.cond (.tmp t) x y) :: k) Q ⟨n, m⟩ σ := by
  subst hb; subst hV; rw [lookB_eq] at hc; exact LK.condT (a := ⟨n, m⟩) hc ht
theorem LK.condF2 {t : Nat} {x y : Code} {b : Bool} {V : LV} (hc : lookB t m = some V) (hV : V = .pv (.sc (.bool b))) (hb : b = false) (ht : LK P (.code y :: k) Q ⟨n, m⟩ σ) : LK P (.code (.cond (.tmp t) x y) :: k) Q ⟨n, m⟩ σ := by
  subst hb; subst hV; rw [lookB_eq] at hc; exact LK.condF (a := ⟨n, m⟩) hc ht
end

/-- What is handed back, by one look each. -/
def resT (m : List (Nat × LV)) : List ResultVar → Option (List LV)
  | [] => some []
  | .tmp t :: r => match lookB t m, resT m r with
    | some v, some vs => some (v :: vs)
    | _, _ => none
  | .cell _ _ :: _ => none
def packL : List LV → LV
  | [v] => v
  | vs => .tup vs
theorem resT_eq {P : Program} {n : Nat} {m : List (Nat × LV)} {σ : LSt} : ∀ {r : List ResultVar} {vs : List LV}, resT m r = some vs → lresv P ⟨n, m⟩ σ r = some vs
  | [], vs, h => h
  | .tmp t :: r, vs, h => by
    simp only [resT] at h
    split at h
    · rename_i v vs' h1 h2
      rw [lookB_eq] at h1
      simp only [lresv, h1, resT_eq h2]
      exact h
    · cases h
  | .cell _ _ :: _, vs, h => by cases h
theorem lres_tmps {P : Program} {fn : Func} {n : Nat} {m : List (Nat × LV)} {σ : LSt} {vs : List LV} {v : LV} (h : resT m fn.results.toList = some vs) (hv : packL vs = v) : lres P fn ⟨n, m⟩ σ = some v := by
  unfold lres
  rw [resT_eq h]
  subst hv
  match vs with
  | [] => rfl
  | [v] => rfl
  | _ :: _ :: _ => rfl
theorem lres_one {P : Program} {fn : Func} {n : Nat} {m : List (Nat × LV)} {σ : LSt} {v : LV} (h : resT m fn.results.toList = some [v]) : lres P fn ⟨n, m⟩ σ = some v := lres_tmps h rfl
theorem lres_more {P : Program} {fn : Func} {n : Nat} {m : List (Nat × LV)} {σ : LSt} {u v : LV} {vs : List LV} (h : resT m fn.results.toList = some (u :: v :: vs)) : lres P fn ⟨n, m⟩ σ = some (.tup (u :: v :: vs)) := lres_tmps h rfl
theorem DRun.stop {P : Program} {ops : Array Oper} {N : Nat} {T T' : List (Nat × LV)} {M M' : List (Nat × LO)} {n : Nat} (h : T = T') (h' : M = M') : DRun P ops N [] [] T M n T' M' n := by
  subst h; subst h'; exact DRun.nil _ _ _
theorem LK.drawn2 {P : Program} {Q : Exit → LAct → LSt → Prop} {a : LAct} {σ : LSt} {k : List KI} {id : Nat} {ops : Array Oper} {evs : List Ev} {T' T2 : List (Nat × LV)} {M' M2 : List (Nat × LO)} {n' : Nat} (hm : P.follows .mixedOrders = true)
    (hd : DRun P ops a.n ops.toList evs a.m σ.m σ.nx T' M' n') (ho : okDraw ops evs = true) (hpo : puOk evs σ.m evs) (eT : T' = T2) (eM : M' = M2) (h : LK P k Q ⟨a.n, T2⟩ ⟨n', M2⟩) : LK P (.code (.region id ops true) :: k) Q a σ := by
  subst eT; subst eM; exact LK.drawnP hm hd ho hpo h
attribute [go_sem] lopE lcalleeE
end Go.Lw

set_option linter.unusedVariables false
set_option linter.unusedSimpArgs false
namespace Go.Lw
open Go.ChangeShapes Go.RowKit

theorem trodAll_below {H : Type} {enc : TypeId × Value → H} {P : Program} {W W' : World} (hl : laidOutB P = true) (hb : Below W.heap.size W W') : ∀ {ts : List TypeId} {vs : List Value} {ds : List (DataW H)} {ps : List MemPlace},
    (ts.all fun t => P.readableRec t && decide (t < P.types.size)) = true → DataW.TrodAll enc P W 0 (fun _ => true) true ts vs ds ps → (∀ x ∈ ps, x.block < W.heap.size) → DataW.TrodAll enc P W' 0 (fun b => decide (b < W.heap.size)) true ts vs ds ps
  | [], [], [], ps, _, h, _ => h
  | [], [], _ :: _, ps, _, h, _ => h.elim
  | [], _ :: _, _, ps, _, h, _ => by cases ‹List (DataW H)› <;> exact h.elim
  | _ :: _, [], _, ps, _, h, _ => by cases ‹List (DataW H)› <;> exact h.elim
  | _ :: _, _ :: _, [], ps, _, h, _ => h.elim
  | t :: ts, v :: vs, d :: ds, ps, hr, h, hlt => by
    obtain ⟨p, q, h1, h2, rfl⟩ := h
    simp only [List.all_cons, Bool.and_eq_true, decide_eq_true_eq] at hr
    exact ⟨p, q, Below.trod hl hr.1.1 hr.1.2 h1 hb (fun x hx => hlt x (List.mem_append_left _ hx)), trodAll_below hl hb hr.2 h2 (fun x hx => hlt x (List.mem_append_right _ hx)), rfl⟩

theorem post_law {H : Type} {enc : TypeId × Value → H} {P : Program} {f : Func} {s : ChangeSpec} {apart fresh handsOn : Bool} {W W' : World} {args : Array Value} {ds gs : List (DataW H)} {before : List MemPlace} {tb : TypeId}
    (hW : DataW.Whole enc P f.params.toList s.vars apart W args.toList ds gs before) (hb0 : Below W.heap.size W { W' with tape := W.tape }) (hl : laidOutB P = true) (hr : (f.params.toList.all fun t => P.readableRec t && decide (t < P.types.size)) = true)
    (hv : s.vars = []) (hf : s.fn H (ds ++ gs) = { results := [.lit (.bool true)], args := ds }) (ht : f.resultTypes = #[tb]) (htb : P.underlying tb = some .bool) : s.post enc P f apart fresh handsOn false W args (.bool true) W' := by
  refine ChangeSpec.post_alike (W'' := { W' with tape := W.tape }) ?_ ⟨rfl, rfl, rfl⟩
  have hb := hb0
  clear hb0
  generalize { W' with tape := W.tape } = W' at *
  have hlt := hW.lt
  have hW0 := hW
  obtain ⟨p, q, h1, h2, rfl, h4, h5⟩ := hW
  refine ⟨ds, gs, p ++ q, [], p, [], hW0, ?_, ?_, ?_, World.keptBut_mono (fun x hx => ?_) (hb.frame (fun _ => False)), fun h => by cases h⟩
  · rw [hf, ht]
    exact trodAll_cons_mk (shut_bool htb true) trodAll_mk0
  · rw [hf]
    exact trodAll_below hl hb hr h1 (fun x hx => hlt x (List.mem_append_left _ hx))
  · rw [hf, hv]; exact rfl
  · exact hx.elim
end Go.Lw

set_option linter.unusedVariables false
set_option linter.unusedSimpArgs false
namespace Go.Lw
section
variable {P : Program} {Q : Exit → LAct → LSt → Prop} {a : LAct} {σ : LSt} {k : List KI}

/-- Behind a piece of code, whatever way it went, no more is kept than one state and one fact. -/
theorem LK.merge {c : Code} (F : Prop) (a' : LAct) (σ' : LSt) (hn : σ.nx ≤ σ'.nx) (h : LK P (.code c :: .fin (fun x s => F ∧ Sub x s a' σ') :: k) Q a σ) (hr : F → LK P k Q a' σ') : LK P (.code c :: k) Q a σ := by
  refine LK.lw ?_
  intro r E w A h0 h1 h2 h3
  refine wpIn_mono (h r E w A h0 h1 h2 h3) ?_
  rintro e A' w' ⟨hc, x, s, E', g1, g2, g3, g4, g5⟩
  cases e with
  | normal =>
    obtain ⟨hF, hs⟩ := g5
    obtain ⟨E2, k1, k2, k3, k4⟩ := hs.use' g1 (fun i hi => Nat.lt_of_lt_of_le (h1.nx i hi) hn) g2 g3
    exact ⟨hc, a', σ', E2, k1, k2, k3, ⟨g4.1.less k4, g4.2⟩, hr hF⟩
  | panic c => exact hc.elim
  | outgrown => exact hc.elim
  | exit id => exact ⟨hc, x, s, E', g1, g2, g3, g4, g5⟩
  | goto l => exact ⟨hc, x, s, E', g1, g2, g3, g4, g5⟩
  | ret => exact ⟨hc, x, s, E', g1, g2, g3, g4, g5⟩

def subB (a : LAct) (σ : LSt) (m : List (Nat × LV)) (mo : List (Nat × LO)) (nx : Nat) : Bool := (m.all fun p => p.2.under nx) && (mo.all fun p => decide (p.1 < nx) && p.2.under nx)
/-- 'Sub', by looks. -/
theorem Sub.by {n : Nat} {m m' : List (Nat × LV)} {nx nx' : Nat} {mo mo' : List (Nat × LO)} (h1 : readB m (m'.map (·.1)) = some m') (h2 : readB mo (mo'.map (·.1)) = some mo') (h3 : subB ⟨n, m⟩ ⟨nx, mo⟩ m' mo' nx' = true) : Sub ⟨n, m⟩ ⟨nx, mo⟩ ⟨n, m'⟩ ⟨nx', mo'⟩ := by
  have key : ∀ {α : Type} (T : List (Nat × α)) (ks : List Nat) (l : List (Nat × α)), readB T ks = some l → ∀ p ∈ l, look p.1 T = some p.2 := by
    intro α T ks
    induction ks with
    | nil => intro l h p hp; simp only [readB, Option.some.injEq] at h; subst h; cases hp
    | cons t ks ih =>
      intro l h p hp
      simp only [readB] at h
      split at h
      · rename_i v r g1 g2
        simp only [Option.some.injEq] at h; subst h
        rcases List.mem_cons.1 hp with rfl | hp
        · rw [← lookB_eq]; exact g1
        · exact ih _ g2 p hp
      · cases h
  unfold subB at h3
  simp only [Bool.and_eq_true, List.all_eq_true, decide_eq_true_eq] at h3
  refine ⟨rfl, fun p hp => ⟨key _ _ _ h1 p hp, h3.1 p hp⟩, fun p hp => ⟨?_, (h3.2 p hp).1, (h3.2 p hp).2⟩⟩
  exact key _ _ _ h2 p hp
/-- The same, the state kept told by its temporaries' numbers. -/
theorem LK.mergeB {c : Code} {n : Nat} {m : List (Nat × LV)} {nx : Nat} {mo : List (Nat × LO)} (F : Prop) (ks : List Nat) {m' : List (Nat × LV)} (hk : readB m ks = some m') (h : LK P (.code c :: .fin (fun x s => F ∧ Sub x s ⟨n, m'⟩ ⟨nx, mo⟩) :: k) Q ⟨n, m⟩ ⟨nx, mo⟩) (hr : F → LK P k Q ⟨n, m'⟩ ⟨nx, mo⟩) : LK P (.code c :: k) Q ⟨n, m⟩ ⟨nx, mo⟩ :=
  LK.merge F _ _ (Nat.le_refl _) h hr
/-- Only these temporaries are kept. -/
theorem LK.keep {c : Code} {n : Nat} {m : List (Nat × LV)} (ks : List Nat) {m' : List (Nat × LV)} (hk : readB m ks = some m') (h : LK P (.code c :: k) Q ⟨n, m'⟩ σ) : LK P (.code c :: k) Q ⟨n, m⟩ σ :=
  LK.lw fun r E w A h0 h1 h2 h3 => h r E w A h0 h1 (((readB_eq hk).ar (a := ⟨n, m⟩) h2)) h3
end
end Go.Lw

set_option linter.unusedVariables false
set_option linter.unusedSimpArgs false
namespace Go.Lw

mutual
/-- The numbers of objects of our own that a value names outright. -/
def LV.ids : LV → List Nat
  | .pv _ => []
  | .own id _ _ _ => [id]
  | .ptr id _ _ _ => [id]
  | .rp _ _ _ _ => []
  | .agg l => LV.idss l
  | .tup l => LV.idss l
  | .fn _ l => LV.idss l
  | .mp id => [id]
def LV.idss : List LV → List Nat
  | [] => []
  | x :: r => x.ids ++ LV.idss r
end
def idsOf : List (Nat × LV) → List Nat
  | [] => []
  | (_, v) :: r => v.ids ++ idsOf r
def LO.ids : LO → List Nat
  | .arr _ rows => LV.idss rows.flatten
  | .map es => LV.idss (es.map (·.2))
  | .loop _ _ _ _ m _ _ _ => LV.idss (m.map (·.2))
  | .iter _ _ => []
/-- The objects named, and those that they name. -/
def objsOf (M : List (Nat × LO)) : Nat → List Nat → List Nat → Option (List (Nat × LO))
  | 0, _, _ => none
  | _ + 1, _, [] => some []
  | f + 1, seen, i :: r => bif seen.any (fun x => x == i) then objsOf M f seen r else match lookB i M with
    | some o => match objsOf M f (i :: seen) (o.ids ++ r) with
      | some l => some ((i, o) :: l)
      | none => none
    | none => objsOf M f (i :: seen) r
theorem objsOf_look (M : List (Nat × LO)) : ∀ (f : Nat) (seen l : List Nat) (ov : List (Nat × LO)), objsOf M f seen l = some ov → ∀ p ∈ ov, look p.1 M = some p.2
  | 0, seen, l, ov, h, p, hp => by cases h
  | f + 1, seen, [], ov, h, p, hp => by simp only [objsOf, Option.some.injEq] at h; subst h; cases hp
  | f + 1, seen, i :: r, ov, h, p, hp => by
    simp only [objsOf] at h
    cases hc : seen.any (fun x => x == i) with
    | true => rw [hc] at h; exact objsOf_look M f seen r ov h p hp
    | false =>
      rw [hc] at h
      simp only [cond_false] at h
      split at h
      · rename_i o ho
        split at h
        · rename_i l hl
          simp only [Option.some.injEq] at h; subst h
          rcases List.mem_cons.1 hp with rfl | hp
          · rw [← lookB_eq]; exact ho
          · exact objsOf_look M f _ _ l hl p hp
        · cases h
      · exact objsOf_look M f _ _ ov h p hp

/-- What an operation needs is so much, and no more. -/
def evOk (N n hi : Nat) (tv : List (Nat × LV)) (ov nv : List (Nat × LO)) (v : LV) : Bool :=
  Nat.ble n hi && tv.all (fun p => p.2.under n) && ovOk n ov && nvOk n ov nv && v.idp (vis (keepOf ov) n)

section
variable {P : Program} {ops : Array Oper} {N : Nat} {d : Nat} {op : Op} {ty : TypeId} {pos : String} {af : Array Edge} {gd : Option (Nat × Bool)} {r : List Oper} {es : List Ev} {T T' : List (Nat × LV)} {M M' : List (Nat × LO)} {n n' : Nat}

/-- The temporaries an operation's guard hangs on. -/
def guardTmp (ops : Array Oper) : Option (Nat × Bool) → List Nat
  | none => []
  | some (j, _) => ((ops[j]?).bind (·.dst)).toList

theorem goes_local {m tv : List (Nat × LV)} {g : Option (Nat × Bool)} {b : Bool} (h : Goes ops tv g b) : Goes ops tv g b := h

theorem readB_look {α : Type} (T : List (Nat × α)) : ∀ (ks : List Nat) (l : List (Nat × α)), readB T ks = some l → ∀ p ∈ l, look p.1 T = some p.2 := by
  intro ks
  induction ks with
  | nil => intro l h p hp; simp only [readB, Option.some.injEq] at h; subst h; cases hp
  | cons t ks ih =>
    intro l h p hp
    simp only [readB] at h
    split at h
    · rename_i v r g1 g2
      simp only [Option.some.injEq] at h; subst h
      rcases List.mem_cons.1 hp with rfl | hp
      · rw [← lookB_eq]; exact g1
      · exact ih _ g2 p hp
    · cases h

theorem DRun.gen {dst : Option Nat} {tv : List (Nat × LV)} {ov : List (Nat × LO)} {v : LV} {nv : List (Nat × LO)} {hi : Nat} (htv : readB T (guardTmp ops gd ++ tmpsOf op) = some tv) (hov : ∀ p ∈ ov, look p.1 M = some p.2) (hd : dstOk ⟨dst, op, ty, pos, af, gd⟩ ⟨N, []⟩ = true)
    (hs : LStep P ops ⟨dst, op, ty, pos, af, gd⟩ ⟨N, tv⟩ ⟨n, ov⟩ v ⟨hi, puts ov nv⟩) (he : evOk N n hi tv ov nv v = true)
    (hr : DRun P ops N r es (Ev.putT ⟨tv, ov, dst, v, nv, n, hi, none⟩ T) (puts M nv) hi T' M' n') : DRun P ops N (⟨dst, op, ty, pos, af, gd⟩ :: r) (⟨tv, ov, dst, v, nv, n, hi, none⟩ :: es) T M n T' M' n' := by
  unfold evOk at he
  simp only [Bool.and_eq_true, Nat.ble_eq] at he
  obtain ⟨⟨⟨⟨h1, h2⟩, h3⟩, h4⟩, h5⟩ := he
  refine DRun.cons rfl (fun d hd' => ?_) rfl h1 (fun p hp => ⟨readB_look _ _ _ htv p hp, List.all_eq_true.1 h2 p hp⟩) (fun p hp => ?_) (fun p hp => ?_) h5 rfl hs hr
  · have hd2 : dst = some d := hd'
    subst hd2
    simpa [dstOk] using hd
  · have := List.all_eq_true.1 h3 p hp
    simp only [Bool.and_eq_true, decide_eq_true_eq] at this
    exact ⟨hov p hp, this.1.1, this.1.2, this.2⟩
  · have := List.all_eq_true.1 h4 p hp
    simp only [Bool.and_eq_true] at this
    exact this

def noRepeat : List (Nat × LO) → Bool
  | [] => true
  | p :: r => r.all (fun q => !Nat.beq q.1 p.1) && noRepeat r

/-- An operation that writes nothing. -/
theorem DRun.aop {dst : Option Nat} {tv : List (Nat × LV)} {ov : List (Nat × LO)} {v : LV} (htv : readB T (guardTmp ops gd ++ tmpsOf op) = some tv) (hov : objsOf M 100 [] (idsOf tv) = some ov) (hw : Goes ops tv gd true) (hl : lopE P op ⟨N, tv⟩ ⟨n, ov⟩ = some (v, ⟨n, ov⟩)) (hd : dstOk ⟨dst, op, ty, pos, af, gd⟩ ⟨N, []⟩ = true)
    (he : evOk N n n tv ov [] v = true)
    (hr : DRun P ops N r es (Ev.putT ⟨tv, ov, dst, v, [], n, n, none⟩ T) M n T' M' n') : DRun P ops N (⟨dst, op, ty, pos, af, gd⟩ :: r) (⟨tv, ov, dst, v, [], n, n, none⟩ :: es) T M n T' M' n' :=
  DRun.gen (nv := []) htv (objsOf_look M _ _ _ _ hov) hd (LStep.lop (o := ⟨dst, op, ty, pos, af, gd⟩) (Goes.wanted (a := ⟨N, tv⟩) hw) (by rw [lopE_eq]; exact hl)) he hr
/-- An operation that writes, or lays a new object. -/
theorem DRun.awr {dst : Option Nat} {tv : List (Nat × LV)} {ov nv : List (Nat × LO)} {v : LV} {hi : Nat} (htv : readB T (guardTmp ops gd ++ tmpsOf op) = some tv) (hov : objsOf M 100 [] (idsOf tv) = some ov) (hw : Goes ops tv gd true) (hl : lopE P op ⟨N, tv⟩ ⟨n, ov⟩ = some (v, ⟨hi, nv⟩)) (hd : dstOk ⟨dst, op, ty, pos, af, gd⟩ ⟨N, []⟩ = true) (hp : puts ov nv = nv)
    (he : evOk N n hi tv ov nv v = true)
    (hr : DRun P ops N r es (Ev.putT ⟨tv, ov, dst, v, nv, n, hi, none⟩ T) (puts M nv) hi T' M' n') : DRun P ops N (⟨dst, op, ty, pos, af, gd⟩ :: r) (⟨tv, ov, dst, v, nv, n, hi, none⟩ :: es) T M n T' M' n' :=
  DRun.gen (nv := nv) htv (objsOf_look M _ _ _ _ hov) hd (LStep.lop (o := ⟨dst, op, ty, pos, af, gd⟩) (Goes.wanted (a := ⟨N, tv⟩) hw) (by rw [lopE_eq, hl, hp])) he hr
/-- An operation that is passed by. -/
theorem DRun.askip {dst : Option Nat} {tv : List (Nat × LV)} (htv : readB T (guardTmp ops gd ++ tmpsOf op) = some tv) (hw : Goes ops tv gd false) (hd : dstOk ⟨dst, op, ty, pos, af, gd⟩ ⟨N, []⟩ = true)
    (he : evOk N n n tv [] [] (.pv (.sc (.tuple #[]))) = true)
    (hr : DRun P ops N r es (Ev.putT ⟨tv, [], dst, .pv (.sc (.tuple #[])), [], n, n, none⟩ T) M n T' M' n') : DRun P ops N (⟨dst, op, ty, pos, af, gd⟩ :: r) (⟨tv, [], dst, .pv (.sc (.tuple #[])), [], n, n, none⟩ :: es) T M n T' M' n' :=
  DRun.gen (nv := []) htv (fun p hp => by cases hp) hd (LStep.skip (o := ⟨dst, op, ty, pos, af, gd⟩) (Goes.wanted (a := ⟨N, tv⟩) hw)) he hr
/-- A call by contract. -/
theorem DRun.afn {dst : Option Nat} {tv : List (Nat × LV)} {v : LV} {g : FuncId} {args : List LV} (htv : readB T (guardTmp ops gd ++ tmpsOf op) = some tv) (hw : Goes ops tv gd true) (hg : lcalleeE op ⟨N, tv⟩ = some (g, args)) (hc : callable P g = true) (h : Fun P g args v) (ha : args.all (·.under 0) = true) (hv : v.under 0 = true) (hd : dstOk ⟨dst, op, ty, pos, af, gd⟩ ⟨N, []⟩ = true)
    (he : evOk N n n tv [] [] v = true)
    (hr : DRun P ops N r es (Ev.putT ⟨tv, [], dst, v, [], n, n, none⟩ T) M n T' M' n') : DRun P ops N (⟨dst, op, ty, pos, af, gd⟩ :: r) (⟨tv, [], dst, v, [], n, n, none⟩ :: es) T M n T' M' n' :=
  DRun.gen (nv := []) htv (fun p hp => by cases hp) hd (LStep.fn (o := ⟨dst, op, ty, pos, af, gd⟩) (Goes.wanted (a := ⟨N, tv⟩) hw) (by rw [lcalleeE_eq]; exact hg) hc ha hv h) he hr
/-- A call that reads, writes or lays objects of ours. -/
theorem DRun.acall {dst : Option Nat} {tv : List (Nat × LV)} {ov nv : List (Nat × LO)} {v : LV} {hi : Nat} {g : FuncId} {args : List LV} (htv : readB T (guardTmp ops gd ++ tmpsOf op) = some tv) (hov : objsOf M 100 [] (idsOf tv) = some ov) (hw : Goes ops tv gd true) (hg : lcalleeE op ⟨N, tv⟩ = some (g, args)) (hc : callable P g = true) (h : LCalls P g args (fun u s => u = v ∧ s = ⟨hi, nv⟩) ⟨n, ov⟩) (hd : dstOk ⟨dst, op, ty, pos, af, gd⟩ ⟨N, []⟩ = true) (hp : puts ov nv = nv)
    (he : evOk N n hi tv ov nv v = true)
    (hr : DRun P ops N r es (Ev.putT ⟨tv, ov, dst, v, nv, n, hi, none⟩ T) (puts M nv) hi T' M' n') : DRun P ops N (⟨dst, op, ty, pos, af, gd⟩ :: r) (⟨tv, ov, dst, v, nv, n, hi, none⟩ :: es) T M n T' M' n' :=
  DRun.gen (nv := nv) htv (objsOf_look M _ _ _ _ hov) hd (LStep.call (o := ⟨dst, op, ty, pos, af, gd⟩) (Goes.wanted (a := ⟨N, tv⟩) hw) (by rw [lcalleeE_eq]; exact hg) hc (by rw [hp]; exact h)) he hr

def ownFst : List (Nat × LV) → Option Nat
  | (_, .own i _ _ _) :: _ => some i
  | _ => none
/-- An operation that turns nothing, and asks no more than the shape of an array of our own: an element's address. -/
theorem DRun.apu {tv : List (Nat × LV)} {v : LV} {i sz k : Nat} {rows : List (List LV)} (htv : readB T (tmpsOf op) = some tv) (ho : ownFst tv = some i) (hi : lookB i M = some (.arr sz rows)) (hk : rows.length = k)
    (hl : ∀ σ' rows', look i (LSt.m σ') = some (.arr sz rows') → rows'.length = k → lopE P op ⟨N, tv⟩ σ' = some (v, σ')) (hsame : ∀ E w A σ', Sim E w σ' → AR E w ⟨N, tv⟩ A → lopE P op ⟨N, tv⟩ σ' = some (v, σ') → ∃ V, (execOp A.eval ⟨some d, op, ty, pos, af, none⟩).run P w = .ok (.value V) w ∧ VRel E w v V)
    (hd : Nat.blt d N = true) (he : tv.all (fun p => p.2.under n) = true)
    (hr : DRun P ops N r es ((d, v) :: T) M n T' M' n') : DRun P ops N (⟨some d, op, ty, pos, af, none⟩ :: r) (⟨tv, [], some d, v, [], n, n, some (i, sz, k)⟩ :: es) T M n T' M' n' := by
  refine DRun.consP (s := (i, sz, k)) rfl (fun d' hd' => ?_) rfl rfl rfl rfl (fun p hp => ⟨readB_look _ _ _ htv p hp, List.all_eq_true.1 he p hp⟩) rfl ?_ hr
  · cases hd'; exact bltE hd
  · intro rd Q K E w A σ' h1 h2 h3 hK
    obtain ⟨rows', g1, g2⟩ := h2
    obtain ⟨V, hrun, hV⟩ := hsame E w A σ' h1 h3 (hl σ' rows' g1 g2)
    rw [if_pos (by rfl)]
    exact wpIn_value (.inl hrun) (hK V hV)
theorem idx_same {N d : Nat} {t : TypeId} {x y : Operand} {ty : TypeId} {pos : String} {af : Array Edge} {tv : List (Nat × LV)} {v : LV} (E : Env) (w : World) (A : Act) (σ' : LSt) (hS : Sim E w σ') (hA : AR E w ⟨N, tv⟩ A) (h : lopE P (.indexAddr t x y) ⟨N, tv⟩ σ' = some (v, σ')) : ∃ V, (execOp A.eval ⟨some d, .indexAddr t x y, ty, pos, af, none⟩).run P w = .ok (.value V) w ∧ VRel E w v V := by
  simp only [lopE, lop] at h
  split at h
  case h_2 => cases h
  rename_i u n hu hn
  cases hq : lindexAddr P t σ' u n with
  | none => simp [hq] at h
  | some q =>
    simp only [hq, Option.map_some, Option.some.injEq, Prod.mk.injEq, and_true] at h
    subst h
    obtain ⟨k, hk⟩ := intOfV_inv hn
    obtain ⟨U, h1, h2⟩ := lindexAddr_sound (P := P) (k := k) hS (hA.ev hu) hq
    have e1 := (hA.ev hk).sc_inv
    exact ⟨U, by simp [execOp, Sem.run_bind, e1, h1], h2⟩

theorem move_same {N d : Nat} {x : Operand} {ty : TypeId} {pos : String} {af : Array Edge} {tv : List (Nat × LV)} {v : LV} (E : Env) (w : World) (A : Act) (σ' : LSt) (hS : Sim E w σ') (hA : AR E w ⟨N, tv⟩ A) (h : lopE P (.move x) ⟨N, tv⟩ σ' = some (v, σ')) : ∃ V, (execOp A.eval ⟨some d, .move x, ty, pos, af, none⟩).run P w = .ok (.value V) w ∧ VRel E w v V := by
  simp only [lopE, lop] at h
  cases hq : LAct.ev ⟨N, tv⟩ x with
  | none => simp [hq] at h
  | some q =>
    simp only [hq, Option.map_some, Option.some.injEq, Prod.mk.injEq, and_true] at h
    subst h
    exact ⟨A.eval x, by simp [execOp], hA.ev hq⟩

/-! The same, what a temporary takes laid at the head. -/
theorem DRun.aopS {tv : List (Nat × LV)} {ov : List (Nat × LO)} {v : LV} (htv : readB T (guardTmp ops gd ++ tmpsOf op) = some tv) (hov : objsOf M 100 [] (idsOf tv) = some ov) (hw : Goes ops tv gd true) (hl : lopE P op ⟨N, tv⟩ ⟨n, ov⟩ = some (v, ⟨n, ov⟩)) (hd : Nat.blt d N = true)
    (he : evOk N n n tv ov [] v = true) (hr : DRun P ops N r es ((d, v) :: T) M n T' M' n') : DRun P ops N (⟨some d, op, ty, pos, af, gd⟩ :: r) (⟨tv, ov, some d, v, [], n, n, none⟩ :: es) T M n T' M' n' :=
  DRun.aop htv hov hw hl (by simpa [dstOk] using hd) he hr
theorem DRun.awrS {tv : List (Nat × LV)} {ov nv M2 : List (Nat × LO)} {v : LV} {hi : Nat} (htv : readB T (guardTmp ops gd ++ tmpsOf op) = some tv) (hov : objsOf M 100 [] (idsOf tv) = some ov) (hw : Goes ops tv gd true) (hl : lopE P op ⟨N, tv⟩ ⟨n, ov⟩ = some (v, ⟨hi, nv⟩)) (hd : Nat.blt d N = true) (hp : puts ov nv = nv)
    (he : evOk N n hi tv ov nv v = true) (hM : puts M nv = M2) (hr : DRun P ops N r es ((d, v) :: T) M2 hi T' M' n') : DRun P ops N (⟨some d, op, ty, pos, af, gd⟩ :: r) (⟨tv, ov, some d, v, nv, n, hi, none⟩ :: es) T M n T' M' n' :=
  DRun.awr htv hov hw hl (by simpa [dstOk] using hd) hp he (by subst hM; exact hr)
theorem DRun.awr0 {tv : List (Nat × LV)} {ov nv M2 : List (Nat × LO)} {v : LV} {hi : Nat} (htv : readB T (guardTmp ops gd ++ tmpsOf op) = some tv) (hov : objsOf M 100 [] (idsOf tv) = some ov) (hw : Goes ops tv gd true) (hl : lopE P op ⟨N, tv⟩ ⟨n, ov⟩ = some (v, ⟨hi, nv⟩)) (hp : puts ov nv = nv)
    (he : evOk N n hi tv ov nv v = true) (hM : puts M nv = M2) (hr : DRun P ops N r es T M2 hi T' M' n') : DRun P ops N (⟨none, op, ty, pos, af, gd⟩ :: r) (⟨tv, ov, none, v, nv, n, hi, none⟩ :: es) T M n T' M' n' :=
  DRun.awr htv hov hw hl rfl hp he (by subst hM; exact hr)
theorem DRun.askipS {tv : List (Nat × LV)} (htv : readB T (guardTmp ops gd ++ tmpsOf op) = some tv) (hw : Goes ops tv gd false) (hd : Nat.blt d N = true)
    (he : evOk N n n tv [] [] (.pv (.sc (.tuple #[]))) = true) (hr : DRun P ops N r es ((d, .pv (.sc (.tuple #[]))) :: T) M n T' M' n') : DRun P ops N (⟨some d, op, ty, pos, af, gd⟩ :: r) (⟨tv, [], some d, .pv (.sc (.tuple #[])), [], n, n, none⟩ :: es) T M n T' M' n' :=
  DRun.askip htv hw (by simpa [dstOk] using hd) he hr
theorem DRun.askip0 {tv : List (Nat × LV)} (htv : readB T (guardTmp ops gd ++ tmpsOf op) = some tv) (hw : Goes ops tv gd false)
    (he : evOk N n n tv [] [] (.pv (.sc (.tuple #[]))) = true) (hr : DRun P ops N r es T M n T' M' n') : DRun P ops N (⟨none, op, ty, pos, af, gd⟩ :: r) (⟨tv, [], none, .pv (.sc (.tuple #[])), [], n, n, none⟩ :: es) T M n T' M' n' :=
  DRun.askip htv hw rfl he hr
theorem DRun.afnS {tv : List (Nat × LV)} {v : LV} {g : FuncId} {args : List LV} (htv : readB T (guardTmp ops gd ++ tmpsOf op) = some tv) (hw : Goes ops tv gd true) (hg : lcalleeE op ⟨N, tv⟩ = some (g, args)) (hc : callable P g = true) (h : Fun P g args v) (ha : args.all (·.under 0) = true) (hv : v.under 0 = true) (hd : Nat.blt d N = true)
    (he : evOk N n n tv [] [] v = true) (hr : DRun P ops N r es ((d, v) :: T) M n T' M' n') : DRun P ops N (⟨some d, op, ty, pos, af, gd⟩ :: r) (⟨tv, [], some d, v, [], n, n, none⟩ :: es) T M n T' M' n' :=
  DRun.afn htv hw hg hc h ha hv (by simpa [dstOk] using hd) he hr
theorem DRun.acallS {tv : List (Nat × LV)} {ov nv nv0 M2 : List (Nat × LO)} {v v0 : LV} {hi hi0 : Nat} {g : FuncId} {args : List LV} (htv : readB T (guardTmp ops gd ++ tmpsOf op) = some tv) (hov : objsOf M 100 [] (idsOf tv) = some ov) (hw : Goes ops tv gd true) (hg : lcalleeE op ⟨N, tv⟩ = some (g, args)) (hc : callable P g = true) (h : LCalls P g args (fun u s => u = v0 ∧ s = ⟨hi0, nv0⟩) ⟨n, ov⟩) (hev : v0 = v) (heh : hi0 = hi) (hen : nv0 = nv) (hd : Nat.blt d N = true) (hp : puts ov nv = nv)
    (he : evOk N n hi tv ov nv v = true) (hM : puts M nv = M2) (hr : DRun P ops N r es ((d, v) :: T) M2 hi T' M' n') : DRun P ops N (⟨some d, op, ty, pos, af, gd⟩ :: r) (⟨tv, ov, some d, v, nv, n, hi, none⟩ :: es) T M n T' M' n' := by
  subst hev; subst heh; subst hen
  exact DRun.acall htv hov hw hg hc h (by simpa [dstOk] using hd) hp he (by subst hM; exact hr)
end
section
variable {P : Program} {ops : Array Oper} {Q : Exit → LAct → LSt → Prop} {n : Nat} {m : List (Nat × LV)} {σ σ' : LSt} {rest : List Oper} {d : Nat} {op : Op} {ty : TypeId} {pos : String} {af : Array Edge} {g : Option (Nat × Bool)}
/-- A call walked in place. -/
theorem LOps.inline (hw : Goes ops m g true) {tv : List (Nat × LV)} (hl : readB m (tmpsOf op) = some tv) (hd : Nat.blt d n = true) {f : FuncId} {args : List LV} (hg : lcalleeE op ⟨n, tv⟩ = some (f, args)) (hc : callable P f = true)
    (h : LCalls P f args (fun v σ' => LOps P ops Q rest ⟨n, (d, v) :: m⟩ σ') σ) : LOps P ops Q (⟨some d, op, ty, pos, af, g⟩ :: rest) ⟨n, m⟩ σ :=
  LOps.locCall hw hl (fun k hk => by cases hk; exact bltE hd) hg hc (h.mono fun v σ' h => LOps.weaken (fun _ _ => look_cons_upd) h)
theorem LOps.inline0 (hw : Goes ops m g true) {tv : List (Nat × LV)} (hl : readB m (tmpsOf op) = some tv) {f : FuncId} {args : List LV} (hg : lcalleeE op ⟨n, tv⟩ = some (f, args)) (hc : callable P f = true)
    (h : LCalls P f args (fun v σ' => LOps P ops Q rest ⟨n, m⟩ σ') σ) : LOps P ops Q (⟨none, op, ty, pos, af, g⟩ :: rest) ⟨n, m⟩ σ :=
  LOps.locCall hw hl (fun k hk => by cases hk) hg hc h
end
theorem wrap_small {n : Int} (h1 : -9223372036854775808 ≤ n) (h2 : n ≤ 9223372036854775807) : IntKind.i64.wrap n = n := by rw [IntKind.wrap_i64]; omega
theorem retQ {P : Program} {fn : Func} {a : LAct} {σ : LSt} {v : LV} {Q : LV → Prop} (h : lres P fn a σ = some v) (hq : Q v) : (Exit.ret = Exit.normal ∨ Exit.ret = Exit.ret) ∧ ∃ v, lres P fn a σ = some v ∧ Q v := ⟨.inr rfl, v, h, hq⟩
theorem endQ {P : Program} {fn : Func} {a : LAct} {σ : LSt} {v : LV} {Q : LV → Prop} (h : lres P fn a σ = some v) (hq : Q v) : (Exit.normal = Exit.normal ∨ Exit.normal = Exit.ret) ∧ ∃ v, lres P fn a σ = some v ∧ Q v := ⟨.inl rfl, v, h, hq⟩
end Go.Lw

set_option linter.unusedVariables false
set_option linter.unusedSimpArgs false
namespace Go.Lw

def pvRow : List LV → Option (List PV)
  | [] => some []
  | .pv p :: r => match pvRow r with
    | some l => some (p :: l)
    | none => none
  | _ :: _ => none
theorem pvRow_eq : ∀ {l : List LV} {r : List PV}, pvRow l = some r → l = r.map .pv
  | [], r, h => by simp only [pvRow, Option.some.injEq] at h; subst h; rfl
  | x :: l, r, h => by
    cases x <;> simp only [pvRow, reduceCtorEq] at h
    split at h
    · rename_i l' h'
      simp only [Option.some.injEq] at h; subst h
      rw [pvRow_eq h']; rfl
    · cases h
def pvRows : List (List LV) → Option (List (List PV))
  | [] => some []
  | x :: r => match pvRow x, pvRows r with
    | some a, some b => some (a :: b)
    | _, _ => none
theorem pvRows_eq : ∀ {l : List (List LV)} {r : List (List PV)}, pvRows l = some r → l = r.map (·.map .pv)
  | [], r, h => by simp only [pvRows, Option.some.injEq] at h; subst h; rfl
  | x :: l, r, h => by
    simp only [pvRows] at h
    split at h
    · rename_i a b h1 h2
      simp only [Option.some.injEq] at h; subst h
      rw [pvRow_eq h1, pvRows_eq h2]; rfl
    · cases h

def kdOf {α : Type} : List α → Kd
  | [] => .any
  | _ :: _ => .loose

def Env.clear (E : Env) : Env := ⟨fun _ => Option.none, E.U, E.F⟩
theorem Ext.clear (E : Env) (w : World) : Ext E w E.clear w :=
  ⟨fun _ h => h, rfl, fun id L' h _ => (by cases h), fun b _ h => ⟨rfl, fun ⟨_, _, h, _⟩ => by cases h⟩, Nat.le_refl _, rfl, rfl⟩
theorem Sim.clear {E : Env} {w : World} {σ : LSt} (h : Sim E w σ) : Sim E.clear w ⟨σ.nx, []⟩ :=
  ⟨fun _ _ h => (by cases h), fun _ _ _ _ _ h => (by cases h), fun _ _ _ h => (by cases h), h.flow, h.nx, fun _ _ h => (by cases h)⟩

/-- What a value is once nothing of ours is held any more. -/
def frz1 (σ : LSt) (sz id n off len : Nat) : LV :=
  match srcRows sz σ (.own id n off len) with
  | some rows => match pvRows rows with
    | some r => .pv (.ro .any sz r)
    | none => .own id n off len
  | none => .own id n off len
/-- A map of our own that is given out of hand. -/
def frzM (σ : LSt) (id : Nat) : LV :=
  match σ.get id with
  | some (.map es) => match pvRow (es.map (·.2)) with
    | some l => .pv (.rm ((es.map (·.1)).zip l))
    | none => .mp id
  | _ => .mp id
mutual
def frz (σ : LSt) : LV → LV
  | .mp id => frzM σ id
  | .own id n off len => match σ.get id with
    | some (.arr sz _) => frz1 σ sz id n off len
    | _ => .own id n off len
  | .agg l => .agg (frzs σ l)
  | .tup l => .tup (frzs σ l)
  | v => v
def frzs (σ : LSt) : List LV → List LV
  | [] => []
  | x :: r => frz σ x :: frzs σ r
end
theorem frzs_map (σ : LSt) : ∀ l : List LV, frzs σ l = l.map (frz σ)
  | [] => rfl
  | x :: r => by rw [frzs, frzs_map σ r, List.map_cons]

theorem frz1_to {E E' : Env} {w : World} {σ : LSt} (hS : Sim E w σ) (hx : Ext E w E' w) {sz id n off len : Nat} (ho : ∀ L b, E.f id = some L → L.blk = some b → ¬ E'.Own b) {V : Value} (hv : VRel E w (.own id n off len) V) : VRel E' w (frz1 σ sz id n off len) V := by
  have hmv : VRel E' w (.own id n off len) V := hv.mono hx
  unfold frz1
  cases hr : srcRows sz σ (.own id n off len) with
  | none => exact hmv
  | some rows =>
    dsimp only
    cases hp : pvRows rows with
    | none => dsimp only; exact hmv
    | some r =>
      dsimp only
      obtain ⟨a, c, Vs, rfl, hle, hs⟩ := src_sound hS hv hr
      have hrow := pvRows_eq hp
      simp only [srcRows] at hr
      split at hr
      case h_2 => cases hr
      rename_i s rows0 hg
      split at hr
      case isFalse => cases hr
      rename_i hc
      obtain ⟨rfl, rfl, hol⟩ := hc
      simp only [Option.some.injEq] at hr
      obtain ⟨L, h1, h2, h3, h4, h5⟩ := hS.obj id _ hg
      have hlen : rows.length = r.length := by rw [hrow, List.length_map]
      have hl2 : rows.length = len := by rw [← hr]; simp; omega
      cases hv with
      | own _ _ _ _ V g1 g2 g3 =>
        obtain ⟨k1, k2⟩ := g3 L h1
        have hsl := k2 (by omega)
        unfold Loc.isSlice at hsl
        rcases h5 with ⟨e, e2, e3⟩ | ⟨b, C, e1, e2, e3, e4, e5, e6⟩
        · rw [e] at hsl
          obtain ⟨⟨a', hV⟩, h0, hlz⟩ := hsl
          simp only [Value.slice.injEq] at hV
          obtain ⟨rfl, hz, rfl⟩ := hV
          have hr0 : r = [] := List.eq_nil_of_length_eq_zero (by omega)
          subst hr0
          rw [hz]
          refine .pv _ _ ?_
          cases a with
          | none => exact .ronil _ _ (.inr (.inl rfl))
          | some a => exact .ro _ _ [] a 0 (fun _ => undef) (.inr ⟨by simp, by simp, by simp, by simp⟩) (by decide) (by simp) (by simp) (by simp) (by simp)
        · rw [e1] at hsl
          obtain ⟨q1, a', hV, q2⟩ := hsl
          simp only [Value.slice.injEq] at hV
          obtain ⟨rfl, hz, rfl⟩ := hV
          rw [hlen]
          have hfl : rows.flatten = r.flatten.map .pv := by rw [hrow, flatten_map]
          have hfn : Vs.length = r.flatten.length := by rw [hs.len, ← flatten_len s rows hs.row, hfl, List.length_map]
          refine .pv _ _ (.ro .any _ r a' (L.cap - off) (fun j => Vs.getD j undef) (.inr ⟨by simp, by simp, by simp, by omega⟩) (by omega) (fun x hx => ?_) (fun hne => ?_) (fun j hj => ?_) (fun j hj => ?_))
          · have := hs.row (x.map .pv) (by rw [hrow]; exact List.mem_map.2 ⟨x, hx, rfl⟩)
            simpa using this
          · have hpos : 0 < r.flatten.length := List.length_pos_iff.2 hne
            have hrn : r ≠ [] := by intro e; subst e; simp at hne
            have hrl : 0 < r.length := List.length_pos_iff.2 hrn
            have := q2 (by omega)
            subst this
            refine ⟨rfl, ?_⟩
            obtain ⟨i1, i2⟩ := hS.low id L b h1 e1
            exact ⟨i1, ho L b h1 e1, by rw [hx.F]; exact i2⟩
          · have hjv : j < Vs.length := by omega
            have hVn : Vs ≠ [] := by intro e; subst e; simp at hjv
            obtain ⟨b', o, ha, hat⟩ := hs.at_ hVn
            have hget : Vs[j]? = some Vs[j] := List.getElem?_eq_getElem hjv
            simp only [Option.some.injEq] at ha
            subst ha
            have hg' : Vs.getD j undef = Vs[j] := by simp [List.getD_eq_getElem?_getD, hget]
            rw [hg']
            exact ⟨by rw [addr_add]; exact hat j _ hget, hs.one _ (List.getElem_mem hjv)⟩
          · have hjv : j < Vs.length := by omega
            have hget : Vs[j]? = some Vs[j] := List.getElem?_eq_getElem hjv
            have hg' : Vs.getD j undef = Vs[j] := by simp [List.getD_eq_getElem?_getD, hget]
            rw [hg']
            have hjf : j < rows.flatten.length := by rw [hfl, List.length_map]; exact hj
            have hrel := hs.rel j hjf hjv
            have he : rows.flatten[j] = .pv r.flatten[j] := by
              apply Option.some.inj
              rw [← List.getElem?_eq_getElem hjf, hfl, List.getElem?_map, List.getElem?_eq_getElem hj]; rfl
            rw [he] at hrel
            cases hrel with
            | pv _ _ hP => exact hP.mono fun b hb => hx.prot hb

theorem frz1_sound {E : Env} {w : World} {σ : LSt} (hS : Sim E w σ) {sz id n off len : Nat} {V : Value} (hv : VRel E w (.own id n off len) V) : VRel E.clear w (frz1 σ sz id n off len) V :=
  frz1_to hS (Ext.clear E w) (fun _ _ _ _ => (by rintro ⟨_, _, h, _⟩; cases h)) hv

theorem frzM_sound {E : Env} {w : World} {σ : LSt} (hS : Sim E w σ) {id : Nat} {V : Value} (hv : VRel E w (.mp id) V) : VRel E.clear w (frzM σ id) V := by
  have hmv : VRel E.clear w (.mp id) V := hv.mono (Ext.clear E w)
  unfold frzM
  split
  case h_2 => exact hmv
  rename_i es hg
  split
  case h_2 => exact hmv
  rename_i l hl
  have hr := pvRow_eq hl
  obtain ⟨L, h1, h2, b, kvs, clock, g1, g2, g3, g4, g5, g6⟩ := hS.obj id _ hg
  have hlen : l.length = es.length := by have := congrArg List.length hr; simpa using this.symm
  cases hv with
  | mp _ V k1 k2 k3 =>
    obtain ⟨b', e1, rfl⟩ := k3 L h1 h2
    rw [g1] at e1
    obtain rfl := Option.some.inj e1
    have hz : ((es.map (·.1)).zip l).length = es.length := by rw [List.length_zip, List.length_map, hlen, Nat.min_self]
    obtain ⟨i1, i2⟩ := hS.low id L b h1 g1
    refine .pv _ _ (.rm _ b kvs clock (fun j => (kvs[j]?).getD default) ⟨i1, (by rintro ⟨_, _, h, _⟩; cases h), i2⟩ g2 (by rw [hz]; exact g3) (fun j hj => ?_) g5 g6 (fun j hj => ?_))
    · rw [hz] at hj
      obtain ⟨e, q1, q2, q3, q4⟩ := g4 j hj
      rw [q1]
      refine ⟨rfl, ?_, q3⟩
      simp only [Option.getD_some, List.getElem_zip, List.getElem_map]
      exact q2
    · rw [hz] at hj
      obtain ⟨e, q1, q2, q3, q4⟩ := g4 j hj
      rw [q1]
      simp only [Option.getD_some, List.getElem_zip]
      have he : es[j].2 = .pv (l[j]'(by omega)) := by
        apply Option.some.inj
        have := congrArg (fun x => x[j]?) hr
        simp only [List.getElem?_map, List.getElem?_eq_getElem hj, List.getElem?_eq_getElem (show j < l.length by omega), Option.map_some] at this
        exact this
      rw [he] at q4
      cases q4 with
      | pv _ _ hP => exact hP.mono fun b hb => (Ext.clear E w).prot hb

theorem frz_sound {E : Env} {w : World} {σ : LSt} (hS : Sim E w σ) {v : LV} {V : Value} (hv : VRel E w v V) : VRel E.clear w (frz σ v) V := by
  induction hv with
  | pv p V h => exact VRel.mono (Ext.clear E w) (.pv p V h)
  | own id n off len V h1 hp h =>
    have hv : VRel E w (.own id n off len) V := .own id n off len V h1 hp h
    rw [frz]
    split
    · exact frz1_sound hS hv
    · exact hv.mono (Ext.clear E w)
  | ptr id n i j V h1 hp h => exact VRel.mono (Ext.clear E w) (.ptr id n i j V h1 hp h)
  | rp sz rows i j a g hs hb hc hv => exact VRel.mono (Ext.clear E w) (.rp sz rows i j a g hs hb hc hv)
  | agg l Vs hl h ih =>
    rw [frz, frzs_map]
    refine .agg _ Vs (by simpa using hl) fun i h1 h2 => ?_
    rw [List.getElem_map]; exact ih i (by simpa using h1) h2
  | tup l Vs hl h ih =>
    rw [frz, frzs_map]
    refine .tup _ Vs (by simpa using hl) fun i h1 h2 => ?_
    rw [List.getElem_map]; exact ih i (by simpa using h1) h2
  | fn f l Vs hl h ih => exact VRel.mono (Ext.clear E w) (.fn f l Vs hl h)
  | mp id V h1 hp h => rw [frz]; exact frzM_sound hS (.mp id V h1 hp h)

/-- A function whose results are told once they are given out of hand. -/
theorem Fun.frozen {P : Program} {f : FuncId} {args : List LV} {v : LV} (h : LCalls P f args (fun u σ => frz σ u = v) ⟨0, []⟩) : Fun P f args v := by
  intro E w Vs h1 h2
  refine (h E w Vs h1 h2).mono ?_
  rintro e w' ⟨u, V, E', σ', rfl, g1, g2, g3, g4⟩
  subst g4
  exact ⟨_, V, E'.clear, ⟨σ'.nx, []⟩, rfl, g1.trans (Ext.clear E' w'), g2.clear, frz_sound g2 g3, rfl⟩

/-- A slice that may be nil, but holds something, is not nil. -/
theorem VRel.loose {E : Env} {w : World} {sz : Nat} {rows : List (List PV)} {V : Value} (h : VRel E w (.pv (.ro .any sz rows)) V) (hne : rows ≠ []) : VRel E w (.pv (.ro .loose sz rows)) V := by
  cases h with
  | pv _ _ h =>
    cases h with
    | ronil => exact absurd rfl hne
    | ro k sz rows a cap g hk hm hs hb hc hv =>
      refine .pv _ _ (.ro _ _ rows a cap g (.inr ⟨by simp, by simp, by simp, ?_⟩) hm hs hb hc hv)
      rcases hk with ⟨_, h⟩ | ⟨_, _, _, h⟩ <;> omega
attribute [go_sem] frz frzs frz1 pvRow pvRows
end Go.Lw

set_option linter.unusedVariables false
set_option linter.unusedSimpArgs false
namespace Go.Lw
theorem idss_append : ∀ a b : List LV, LV.idss (a ++ b) = LV.idss a ++ LV.idss b
  | [], b => rfl
  | x :: a, b => by simp [LV.idss, idss_append a b]
theorem idss_row : ∀ l : List PV, LV.idss (l.map LV.pv) = []
  | [] => rfl
  | x :: l => by simp [LV.idss, LV.ids, idss_row l]
theorem idss_pv : ∀ G : List (List PV), LV.idss (List.flatten (List.map (fun x => List.map LV.pv x) G)) = []
  | [] => rfl
  | x :: G => by simp only [List.map_cons, List.flatten_cons, idss_append, idss_row, idss_pv G, List.append_nil]
theorem under_pv (n : Nat) (G : List (List PV)) : ((List.map (fun x => List.map LV.pv x) G).all fun r => r.all (·.under n)) = true := by
  simp [List.all_eq_true, LV.under]
theorem idp_pv (p : Nat → Bool) (G : List (List PV)) : ((List.map (fun x => List.map LV.pv x) G).all fun r => r.all (·.idp p)) = true := by
  simp [List.all_eq_true, LV.idp]
theorem ids_pv (s : Nat) (G : List (List PV)) : (LO.arr s (List.map (fun x => List.map LV.pv x) G)).ids = [] := idss_pv G
theorem ounder_pv (n s : Nat) (G : List (List PV)) : (LO.arr s (List.map (fun x => List.map LV.pv x) G)).under n = true := under_pv n G
theorem oidp_pv (p : Nat → Bool) (s : Nat) (G : List (List PV)) : (LO.arr s (List.map (fun x => List.map LV.pv x) G)).idp p = true := idp_pv p G
theorem set_pv (G : List (List PV)) (k : Nat) (r : List PV) : (List.map (fun x => List.map LV.pv x) G).set k (r.map LV.pv) = List.map (fun x => List.map LV.pv x) (G.set k r) := by rw [List.map_set]
theorem set_pv1 (G : List (List PV)) (k : Nat) (p : PV) : (List.map (fun x => List.map LV.pv x) G).set k [LV.pv p] = List.map (fun x => List.map LV.pv x) (G.set k [p]) := set_pv G k [p]
theorem pvRow_map : ∀ l : List PV, pvRow (l.map LV.pv) = some l
  | [] => rfl
  | x :: l => by simp [pvRow, pvRow_map l]
theorem pvRows_map : ∀ G : List (List PV), pvRows (List.map (fun x => List.map LV.pv x) G) = some G
  | [] => rfl
  | x :: G => by simp [pvRows, pvRow_map, pvRows_map G]
theorem get_pv (G : List (List PV)) (k : Nat) : (List.map (fun x => List.map LV.pv x) G)[k]? = (G[k]?).map (fun x => List.map LV.pv x) := by rw [List.getElem?_map]
theorem take_pv (G : List (List PV)) (k : Nat) : (List.map (fun x => List.map LV.pv x) G).take k = List.map (fun x => List.map LV.pv x) (G.take k) := by rw [List.map_take]
theorem drop_pv (G : List (List PV)) (k : Nat) : (List.map (fun x => List.map LV.pv x) G).drop k = List.map (fun x => List.map LV.pv x) (G.drop k) := by rw [List.map_drop]
theorem kdOf_pos {α : Type} {l : List α} (h : l ≠ []) : kdOf l = .loose := by cases l with | nil => exact absurd rfl h | cons _ _ => rfl
theorem rep_pv1 (n : Nat) (p : PV) : List.replicate n [LV.pv p] = List.map (fun x => List.map LV.pv x) (List.replicate n [p]) := by simp
/-- A slice that may be nil, but holds something, is taken as one that is not. -/
theorem ArgsR.loose {E : Env} {w : World} {sz : Nat} {rows : List (List PV)} (hne : rows ≠ []) {l r : List LV} {Vs : List Value} (h : ArgsR E w (l ++ .pv (.ro .any sz rows) :: r) Vs) : ArgsR E w (l ++ .pv (.ro .loose sz rows) :: r) Vs := by
  refine ⟨by simpa using h.1, fun i h1 h2 => ?_⟩
  have h1' : i < (l ++ .pv (.ro .any sz rows) :: r).length := by simpa using h1
  have := h.2 i h1' h2
  by_cases e : i = l.length
  · subst e
    simp only [List.getElem_append_right (Nat.le_refl _), Nat.sub_self, List.getElem_cons_zero] at this ⊢
    exact this.loose hne
  · rcases Nat.lt_or_ge i l.length with hlt | hge
    · rw [List.getElem_append_left hlt] at this ⊢; exact this
    · have : i - l.length ≠ 0 := by omega
      obtain ⟨j, hj⟩ := Nat.exists_eq_succ_of_ne_zero this
      rename_i h'
      rw [List.getElem_append_right hge] at h' ⊢
      simp only [hj, List.getElem_cons_succ] at h' ⊢
      exact h'
theorem LK.drawn3 {P : Program} {Q : Exit → LAct → LSt → Prop} {n nx : Nat} {m : List (Nat × LV)} {mo : List (Nat × LO)} {k : List KI} {id : Nat} {ops : Array Oper} {evs : List Ev} {T' T2 : List (Nat × LV)} {M' M2 : List (Nat × LO)} {n' n2 : Nat} (hm : P.follows .mixedOrders = true)
    (hd : DRun P ops n ops.toList evs m mo nx T' M' n') (ho : okDraw ops evs = true) (hpo : puOk evs mo evs) (eT : T' = T2) (eM : M' = M2) (en : n' = n2) (h : LK P k Q ⟨n, T2⟩ ⟨n2, M2⟩) : LK P (.code (.region id ops true) :: k) Q ⟨n, m⟩ ⟨nx, mo⟩ := by
  subst en; exact LK.drawn2 hm hd ho hpo eT eM h
attribute [go_sem] ounder_pv oidp_pv ids_pv set_pv1 get_pv
end Go.Lw

set_option linter.unusedVariables false
set_option linter.unusedSimpArgs false
namespace Go.Lw
open Go.ChangeShapes Go.RowKit
theorem cell_old {w : World} {a : Addr} {v : Value} (h : w.cell? a = some v) : a.block < w.heap.size ∧ a.spot = none := by
  unfold World.cell? at h
  split at h
  · rename_i c t f hb
    refine ⟨?_, ?_⟩
    · rcases Nat.lt_or_ge a.block w.heap.size with h' | h'
      · exact h'
      · rw [Array.getElem?_eq_none h'] at hb; cases hb
    · cases hs : a.spot with
      | none => rfl
      | some s => simp [hs] at h
  · cases h
theorem add_zero_addr (a : Addr) : a.add 0 = a := by simp [Addr.add]
/-- Cells that lie in a row, seen as a slice that is only read. -/
theorem VRel.incoming {w : World} {a : Addr} {cap : Nat} (vs : List Value) (hl : vs.length ≤ cap) (hm : cap ≤ maxLen) (hc : ∀ i (h : i < vs.length), w.cell? (a.add i) = some vs[i] ∧ (vs[i]).oneCell' = true) : VRel Env.none w (.pv (.ro .loose 1 (vs.map fun v => [.sc v]))) (.slice (some a) vs.length cap) := by
  have hfl : (vs.map fun v => [PV.sc v]).flatten = vs.map PV.sc := flatten_single vs PV.sc
  have hlen : (vs.map fun v => [PV.sc v]).length = vs.length := List.length_map _
  have key := PRel.ro (T := Prot Env.none w) (w := w) .loose 1 (vs.map fun v => [PV.sc v]) a cap (fun j => vs.getD j undef) (.inr ⟨by simp, by simp, by simp, by omega⟩) hm (by simp) (fun hne => ?_) (fun j hj => ?_) (fun j hj => ?_)
  · rw [hlen] at key
    exact .pv _ _ key
  · have hpos : 0 < vs.length := by
      rcases Nat.eq_zero_or_pos vs.length with h | h
      · have : vs = [] := List.eq_nil_of_length_eq_zero h
        subst this; simp at hne
      · exact h
    obtain ⟨h1, h2⟩ := cell_old (hc 0 hpos).1
    rw [add_zero_addr] at h1 h2
    exact ⟨h2, h1, (by rintro ⟨_, _, h, _⟩; cases h), fun h => h⟩
  · rw [hfl, List.length_map] at hj
    have hg : vs.getD j undef = vs[j] := by simp [List.getD_eq_getElem?_getD, hj]
    rw [hg]; exact hc j hj
  · have hj' : j < vs.length := by rw [hfl, List.length_map] at hj; exact hj
    have hg : vs.getD j undef = vs[j] := by simp [List.getD_eq_getElem?_getD, hj']
    have he : (vs.map fun v => [PV.sc v]).flatten[j] = .sc vs[j] := by simp [hfl]
    rw [hg, he]; exact .sc _
theorem VRel.nilIn {w : World} (sz : Nat) : VRel Env.none w (.pv (.ro .any sz [])) (.slice none 0 0) := .pv _ _ (.ronil _ _ (.inr (.inl rfl)))

/-- A slice of integers that comes in. -/
theorem open_ints_in {H : Type} {enc : TypeId × Value → H} {P : Program} {W : World} {t e : TypeId} {k : IntKind} (ht : P.underlying t = some (.slice e)) (he : P.underlying e = some (.int k)) (hc : P.cellsOf e = 1) {a : Option Addr} {len cap : Nat} {d : DataW H} {p : List MemPlace}
    (h : DataW.Trod enc P W 0 (fun _ => true) true t (.slice a len cap) d p) : ∃ (k1 : Kd) (g : List Int), (k1 = .loose ∨ g = []) ∧ (∀ n ∈ g, (Lit.int k n).wf = true) ∧ VRel Env.none W (.pv (.ro k1 1 (g.map fun x => [.sc (.int k x)]))) (.slice a len cap) := by
  obtain ⟨fuel, hf⟩ := h
  rcases open_ints ht he hc hf with ⟨hcs, _⟩ | ⟨x, l, c, zs, hcs, _, hl, hm, hz, _, hcell, hwz⟩
  · simp [Value.cells] at hcs
    obtain ⟨rfl, rfl, rfl⟩ := hcs
    exact ⟨.any, [], .inr rfl, by simp, VRel.nilIn 1⟩
  · simp [Value.cells] at hcs
    obtain ⟨rfl, rfl, rfl⟩ := hcs
    have hz' : zs.length = cap := by simpa using hz
    have hlen : (zs.take len).length = len := by rw [List.length_take]; omega
    refine ⟨.loose, zs.take len, .inl rfl, fun n hn => hwz n (List.mem_of_mem_take hn), ?_⟩
    have := VRel.incoming (w := W) (a := x) (cap := cap) ((zs.take len).map (Value.int k)) (by rw [List.length_map, hlen]; exact hl) hm (fun i hi => by
      rw [List.length_map, hlen] at hi
      have h1 := hcell i (by omega)
      rw [h1]
      refine ⟨?_, ?_⟩
      · have hi' : i < zs.length := by omega
        simp [List.getElem_take, List.getD_eq_getElem?_getD, hi']
      · simp [Value.oneCell'])
    rw [List.length_map, hlen, List.map_map] at this
    exact this
/-- A slice of bools that comes in. -/
theorem open_bools_in {H : Type} {enc : TypeId × Value → H} {P : Program} {W : World} {t e : TypeId} (ht : P.underlying t = some (.slice e)) (he : P.underlying e = some .bool) (hc : P.cellsOf e = 1) {a : Option Addr} {len cap : Nat} {d : DataW H} {p : List MemPlace}
    (h : DataW.Trod enc P W 0 (fun _ => true) true t (.slice a len cap) d p) : ∃ (k1 : Kd) (g : List Bool), (k1 = .loose ∨ g = []) ∧ VRel Env.none W (.pv (.ro k1 1 (g.map fun x => [.sc (.bool x)]))) (.slice a len cap) := by
  obtain ⟨fuel, hf⟩ := h
  rcases Deep.open_bools ht he hc hf with ⟨hcs, _⟩ | ⟨x, l, c, B, hcs, _, hl, hm, _, hcell⟩
  · simp [Value.cells] at hcs
    obtain ⟨rfl, rfl, rfl⟩ := hcs
    exact ⟨.any, [], .inr rfl, VRel.nilIn 1⟩
  · simp [Value.cells] at hcs
    obtain ⟨rfl, rfl, rfl⟩ := hcs
    refine ⟨.loose, (List.range len).map B, .inl rfl, ?_⟩
    have := VRel.incoming (w := W) (a := x) (cap := cap) (((List.range len).map B).map Value.bool) (by simpa using hl) hm (fun i hi => by
      simp only [List.length_map, List.length_range] at hi
      rw [hcell i (by omega)]
      refine ⟨by simp, by simp [Value.oneCell']⟩)
    rw [List.length_map, List.length_map, List.length_range, List.map_map] at this
    exact this
attribute [go_sem] decide_true decide_false if_true if_false Bool.false_eq_true Option.map_some Option.bind_some Option.map_none decide_eq_true_eq List.append_nil List.nil_append List.cons_append List.map_cons List.map_nil List.length_cons List.length_nil List.take_succ_cons List.take_zero List.drop_succ_cons List.drop_zero List.drop_nil List.take_nil List.set_cons_zero List.set_cons_succ List.getElem?_cons_zero List.getElem?_cons_succ Nat.zero_add beq_self_eq_true Bool.not_false Bool.not_true List.isEmpty_nil List.isEmpty_cons Nat.le_refl Nat.zero_le Nat.add_zero Nat.mul_one Nat.one_mul Nat.zero_mul Int.toNat_zero List.all_cons List.all_nil Bool.and_true Bool.true_and and_self and_true true_and
end Go.Lw

set_option linter.unusedVariables false
set_option linter.unusedSimpArgs false
namespace Go.Lw
open Go.ChangeShapes Go.RowKit

theorem Sim.nilObj {E : Env} {w : World} {nx : Nat} {mo : List (Nat × LO)} (sz : Nat) (e : TypeId) (h : Sim E w ⟨nx, mo⟩) : Ext E w (E.put nx ⟨none, 0, 0, sz, e⟩) w ∧ Sim (E.put nx ⟨none, 0, 0, sz, e⟩) w ⟨nx + 1, upd nx (.arr sz []) mo⟩ := by
  have hn : ¬ E.U nx := fun hu => Nat.lt_irrefl _ (h.nx nx hu)
  have := h.put (w' := w) (id := nx) (L' := ⟨none, 0, 0, sz, e⟩) (o := .arr sz []) (.inr hn) (fun _ _ _ => rfl) (fun b hb => by cases hb) (Nat.le_refl _) rfl rfl rfl (fun _ => ⟨rfl, rfl, by simp, .inl ⟨rfl, rfl, rfl⟩⟩)
  simpa [LSt.put] using this

/-- From here on a nil slice in a temporary is an array of our own without rows. -/
theorem LK.own0 {P : Program} {Q : Exit → LAct → LSt → Prop} {n nx : Nat} {m : List (Nat × LV)} {mo : List (Nat × LO)} {c : Code} {k : List KI} {mo2 : List (Nat × LO)} (t sz : Nat) (hu : upd nx (.arr sz []) mo = mo2) (ht : lookB t m = some (.pv (.sc (.slice none 0 0)))) (h : LK P (.code c :: k) Q ⟨n, (t, .own nx 0 0 0) :: m⟩ ⟨nx + 1, mo2⟩) : LK P (.code c :: k) Q ⟨n, m⟩ ⟨nx, mo⟩ := by
  subst hu
  refine LK.lw ?_
  intro r E w A h0 h1 h2 h3
  obtain ⟨g1, g2⟩ := h1.nilObj sz 0
  have hA : AR (E.put nx ⟨none, 0, 0, sz, 0⟩) w ⟨n, (t, .own nx 0 0 0) :: m⟩ A := by
    refine ⟨h2.1, fun u v hv => ?_⟩
    simp only [look] at hv
    split at hv
    · rename_i e
      subst e
      obtain rfl := Option.some.inj hv
      rw [lookB_eq] at ht
      have := h2.2 t _ ht
      generalize A.tmps.getD t undef = V at this
      obtain rfl := this.sc_inv
      refine .own _ _ _ _ _ (.inl rfl) ⟨none, 0, 0, rfl⟩ (fun L hL => ?_)
      simp only [Env.put, if_true, Option.some.injEq] at hL
      subst hL
      exact ⟨Nat.le_refl _, fun _ => ⟨⟨none, rfl⟩, rfl, rfl⟩⟩
    · exact (h2.2 u v hv).mono g1
  have h' : LW P c (post P k Q) ⟨n, (t, .own nx 0 0 0) :: m⟩ ⟨nx + 1, upd nx (.arr sz []) mo⟩ := h
  exact wpIn_mono (h' r _ w A h0 g2 hA (h3.mono g1)) fun x A' w' q => lift_up g1 (.refl _ _) q

section
variable {H : Type} {enc : TypeId × Value → H} {P : Program} {W : World} {t e : TypeId} {fuel : Nat} {cs : List Value} {x : DataW H × List MemPlace}
/-- A cell that holds a slice of integers. -/
theorem ints_cell {k : IntKind} (ht : P.underlying t = some (.slice e)) (he : P.underlying e = some (.int k)) (hc : P.cellsOf e = 1)
    (h : DataW.trod enc P W 0 (fun _ => true) true fuel t cs = some x) : ∃ (V : Value) (k1 : Kd) (g : List Int), cs = [V] ∧ (k1 = .loose ∨ g = []) ∧ (∀ n ∈ g, (Lit.int k n).wf = true) ∧ VRel Env.none W (.pv (.ro k1 1 (g.map fun x => [.sc (.int k x)]))) V := by
  have h0 := h
  rcases open_ints ht he hc h with ⟨rfl, _⟩ | ⟨a, l, c, zs, rfl, _⟩
  · obtain ⟨k1, g, h1, h2, h3⟩ := open_ints_in (a := none) (len := 0) (cap := 0) (d := x.1) (p := x.2) ht he hc ⟨fuel, by simpa [Value.cells] using h0⟩
    exact ⟨_, k1, g, rfl, h1, h2, h3⟩
  · obtain ⟨k1, g, h1, h2, h3⟩ := open_ints_in (a := some a) (len := l) (cap := c) (d := x.1) (p := x.2) ht he hc ⟨fuel, by simpa [Value.cells] using h0⟩
    exact ⟨_, k1, g, rfl, h1, h2, h3⟩
/-- A cell that holds a slice of bools. -/
theorem bools_cell (ht : P.underlying t = some (.slice e)) (he : P.underlying e = some .bool) (hc : P.cellsOf e = 1)
    (h : DataW.trod enc P W 0 (fun _ => true) true fuel t cs = some x) : ∃ (V : Value) (k1 : Kd) (g : List Bool), cs = [V] ∧ (k1 = .loose ∨ g = []) ∧ VRel Env.none W (.pv (.ro k1 1 (g.map fun x => [.sc (.bool x)]))) V := by
  have h0 := h
  rcases Deep.open_bools ht he hc h with ⟨rfl, _⟩ | ⟨a, l, c, B, rfl, _⟩
  · obtain ⟨k1, g, h1, h3⟩ := open_bools_in (a := none) (len := 0) (cap := 0) (d := x.1) (p := x.2) ht he hc ⟨fuel, by simpa [Value.cells] using h0⟩
    exact ⟨_, k1, g, rfl, h1, h3⟩
  · obtain ⟨k1, g, h1, h3⟩ := open_bools_in (a := some a) (len := l) (cap := c) (d := x.1) (p := x.2) ht he hc ⟨fuel, by simpa [Value.cells] using h0⟩
    exact ⟨_, k1, g, rfl, h1, h3⟩
/-- A cell that holds an integer. -/
theorem int_cell {k : IntKind} (ht : P.underlying t = some (.int k)) (h : DataW.trod enc P W 0 (fun _ => true) true fuel t cs = some x) : ∃ n : Int, cs = [.int k n] ∧ (Lit.int k n).wf = true ∧ VRel Env.none W (.pv (.sc (.int k n))) (.int k n) := by
  obtain ⟨m, rfl, _, hw⟩ := DataW.trod_int ht h
  exact ⟨m, rfl, hw, .pv _ _ (.sc _)⟩
end
/-- Two cells of a struct. -/
theorem agg_two {E : Env} {w : World} {u v : LV} {U V : Value} (h1 : VRel E w u U) (h2 : VRel E w v V) : VRel E w (.agg [u, v]) (.agg #[U, V]) := by
  refine .agg [u, v] [U, V] rfl fun i i1 i2 => ?_
  match i, i1, i2 with
  | 0, _, _ => exact h1
  | 1, _, _ => exact h2
/-- A struct of two cells that comes in. -/
theorem struct_two {H : Type} {enc : TypeId × Value → H} {P : Program} {W : World} {t : TypeId} {f0 f1 : Field} {V : Value} {d : DataW H} {p : List MemPlace} (ht : P.underlying t = some (.struct #[f0, f1])) (h0 : f0.offset = 0) (h1 : f1.offset = 1) (c0 : P.cellsOf f0.type = 1) (c1 : P.cellsOf f1.type = 1) (cs : P.cellsOf t = 2)
    {cells : Array Value} (hV : V = .agg cells) (h : DataW.Trod enc P W 0 (fun _ => true) true t V d p) :
    ∃ (A B : Value) (n : Nat) (y0 y1 : DataW H × List MemPlace), V = .agg #[A, B] ∧ DataW.trod enc P W 0 (fun _ => true) true n f0.type [A] = some y0 ∧ DataW.trod enc P W 0 (fun _ => true) true n f1.type [B] = some y1 := by
  obtain ⟨fuel, hf⟩ := h
  subst hV
  obtain ⟨y0, y1, n, _, hl, k0, k1⟩ := trod_struct2 ht hf
  rw [cs] at hl
  simp only [Value.cells] at hl k0 k1
  obtain ⟨l⟩ := cells
  match l, hl with
  | [A, B], _ =>
    refine ⟨A, B, n, y0, y1, rfl, ?_, ?_⟩
    · simpa [h0, c0] using k0
    · simpa [h1, c1] using k1
end Go.Lw

set_option linter.unusedVariables false
set_option linter.unusedSimpArgs false
namespace Go.Lw

theorem PRel.any {T : Nat → Prop} {w : World} {k : Kd} {sz : Nat} {rows : List (List PV)} {V : Value} (h : PRel T w (.ro k sz rows) V) : PRel T w (.ro .any sz rows) V := by
  cases h with
  | ronil => exact .ronil _ _ (.inr (.inl rfl))
  | ro k sz rows a cap g hk hm hs hb hc hv => exact .ro _ _ rows a cap g (.inr ⟨by simp, by simp, by simp, by rcases hk with ⟨_, h⟩ | ⟨_, _, _, h⟩ <;> omega⟩) hm hs hb hc hv

/-- What is known by the one is known by the other. -/
def LV.le (u v : LV) : Prop := ∀ E w V, VRel E w u V → VRel E w v V
def LV.les : List LV → List LV → Prop
  | [], [] => True
  | x :: l, y :: r => x.le y ∧ LV.les l r
  | _, _ => False
theorem LV.le_refl (u : LV) : LV.le u u := fun _ _ _ h => h
theorem LV.le_nil (sz : Nat) : LV.le (.pv (.sc (.slice none 0 0))) (.pv (.ro .any sz [])) := fun E w V h => by
  obtain rfl := h.sc_inv
  exact .pv _ _ (.ronil _ _ (.inr (.inl rfl)))
theorem LV.le_any (k : Kd) (sz : Nat) (rows : List (List PV)) : LV.le (.pv (.ro k sz rows)) (.pv (.ro .any sz rows)) := fun E w V h => by
  cases h with | pv _ _ h => exact .pv _ _ h.any
theorem LV.les_get : ∀ {l r : List LV}, LV.les l r → l.length = r.length ∧ ∀ i (h1 : i < l.length) (h2 : i < r.length), LV.le l[i] r[i]
  | [], [], _ => ⟨rfl, by simp⟩
  | x :: l, y :: r, h => by
    obtain ⟨h1, h2⟩ := LV.les_get h.2
    refine ⟨by simp [h1], fun i i1 i2 => ?_⟩
    cases i with
    | zero => exact h.1
    | succ i => exact h2 i (by simpa using i1) (by simpa using i2)
  | [], _ :: _, h => h.elim
  | _ :: _, [], h => h.elim
theorem LV.le_agg {l r : List LV} (h : LV.les l r) : LV.le (.agg l) (.agg r) := fun E w V hv => by
  obtain ⟨h1, h2⟩ := LV.les_get h
  cases hv with
  | agg _ Vs hl hr => exact .agg r Vs (by omega) fun i i1 i2 => h2 i (by omega) i1 E w _ (hr i (by omega) i2)
theorem LV.le_tup {l r : List LV} (h : LV.les l r) : LV.le (.tup l) (.tup r) := fun E w V hv => by
  obtain ⟨h1, h2⟩ := LV.les_get h
  cases hv with
  | tup _ Vs hl hr => exact .tup r Vs (by omega) fun i i1 i2 => h2 i (by omega) i1 E w _ (hr i (by omega) i2)
theorem LV.les_nil : LV.les [] [] := trivial
theorem LV.les_cons {x y : LV} {l r : List LV} (h : x.le y) (hr : LV.les l r) : LV.les (x :: l) (y :: r) := ⟨h, hr⟩
theorem Fun.le {P : Program} {f : FuncId} {args : List LV} {u v : LV} (hu : LV.le u v) (h : Fun P f args u) : Fun P f args v := by
  intro E w Vs h1 h2
  refine (h E w Vs h1 h2).mono ?_
  rintro e w' ⟨x, V, E', σ', rfl, g1, g2, g3, g4⟩
  subst g4
  exact ⟨v, V, E', σ', rfl, g1, g2, hu _ _ _ g3, rfl⟩
theorem Fun.frozenLe {P : Program} {f : FuncId} {args : List LV} {v : LV} (h : LCalls P f args (fun u σ => LV.le (frz σ u) v) ⟨0, []⟩) : Fun P f args v := by
  intro E w Vs h1 h2
  refine (h E w Vs h1 h2).mono ?_
  rintro e w' ⟨u, V, E', σ', rfl, g1, g2, g3, g4⟩
  exact ⟨v, V, E'.clear, ⟨σ'.nx, []⟩, rfl, g1.trans (Ext.clear E' w'), g2.clear, g4 _ _ _ (frz_sound g2 g3), rfl⟩
theorem Fun.argsLe {P : Program} {f : FuncId} {args args' : List LV} {v : LV} (ha : LV.les args args') (h : Fun P f args' v) : Fun P f args v := by
  obtain ⟨h1, h2⟩ := LV.les_get ha
  exact LCalls.args ⟨h1, fun i i1 i2 => h2 i i1 i2⟩ h

/-! ### One object of our own given out of hand -/
mutual
def frzAt (σ : LSt) (id : Nat) : LV → LV
  | .own i n off len => if i = id then (match σ.get i with
    | some (.arr sz _) => frz1 σ sz i n off len
    | _ => .own i n off len) else .own i n off len
  | .agg l => .agg (frzAts σ id l)
  | .tup l => .tup (frzAts σ id l)
  | .fn f l => .fn f (frzAts σ id l)
  | .pv p => .pv p
  | .ptr i n j k => .ptr i n j k
  | .rp sz rows i j => .rp sz rows i j
  | .mp i => .mp i
def frzAts (σ : LSt) (id : Nat) : List LV → List LV
  | [] => []
  | x :: r => frzAt σ id x :: frzAts σ id r
end
theorem frzAts_map (σ : LSt) (id : Nat) : ∀ l : List LV, frzAts σ id l = l.map (frzAt σ id)
  | [] => rfl
  | x :: r => by rw [frzAts, frzAts_map σ id r, List.map_cons]
def LO.frzAt (σ : LSt) (id : Nat) : LO → LO
  | .arr sz rows => .arr sz (rows.map fun r => r.map (Lw.frzAt σ id))
  | .map es => .map (es.map fun p => (p.1, Lw.frzAt σ id p.2))
  | .loop l st pend n m ps as bd => .loop l st pend n (m.map fun p => (p.1, Lw.frzAt σ id p.2)) ps as bd
  | .iter es seen => .iter es seen
def frzT (σ : LSt) (id : Nat) : List (Nat × LV) → List (Nat × LV)
  | [] => []
  | (t, v) :: r => (t, frzAt σ id v) :: frzT σ id r
def frzO (σ : LSt) (id : Nat) : List (Nat × LO) → List (Nat × LO)
  | [] => []
  | (t, o) :: r => if t = id then frzO σ id r else (t, o.frzAt σ id) :: frzO σ id r
theorem look_frzT (σ : LSt) (id t : Nat) : ∀ l, look t (frzT σ id l) = (look t l).map (frzAt σ id)
  | [] => rfl
  | (k, v) :: r => by
    simp only [frzT, look]
    split
    · rfl
    · exact look_frzT σ id t r
theorem look_frzO (σ : LSt) (id t : Nat) : ∀ l, look t (frzO σ id l) = if t = id then none else (look t l).map (LO.frzAt σ id)
  | [] => by simp [frzO, look]
  | (k, o) :: r => by
    simp only [frzO, look]
    by_cases e : k = id
    · subst e
      rw [if_pos rfl, look_frzO σ k t r]
      by_cases e2 : t = k
      · simp [e2]
      · rw [if_neg e2, if_neg e2, if_neg (Ne.symm e2)]
    · rw [if_neg e]
      simp only [look]
      by_cases e2 : k = t
      · subst e2; simp [e]
      · rw [if_neg e2, if_neg e2, look_frzO σ id t r]

theorem drop_own {E : Env} {w : World} {σ : LSt} (hS : Sim E w σ) {id : Nat} : ∀ L b, E.f id = some L → L.blk = some b → ¬ (E.drop id).Own b := by
  rintro L b h1 h2 ⟨k, L', h3, h4⟩
  simp only [Env.drop] at h3
  split at h3
  · cases h3
  · rename_i hne
    exact hne (hS.sep k id L' L b h3 h1 h4 h2)
theorem frzAt_sound {E : Env} {w : World} {σ : LSt} (hS : Sim E w σ) {id : Nat} {v : LV} {V : Value} (hv : VRel E w v V) : VRel (E.drop id) w (frzAt σ id v) V := by
  have hx := Ext.drop E w id
  induction hv with
  | pv p V h => rw [frzAt]; exact VRel.mono hx (.pv p V h)
  | own i n off len V h1 hp h =>
    have hv : VRel E w (.own i n off len) V := .own i n off len V h1 hp h
    rw [frzAt]
    split
    · rename_i e
      subst e
      split
      · exact frz1_to hS hx (drop_own hS) hv
      · exact hv.mono hx
    · exact hv.mono hx
  | ptr i n j k V h1 hp h => rw [frzAt]; exact VRel.mono hx (.ptr i n j k V h1 hp h)
  | rp sz rows i j a g hs hb hc hv => rw [frzAt]; exact VRel.mono hx (.rp sz rows i j a g hs hb hc hv)
  | agg l Vs hl h ih =>
    rw [frzAt, frzAts_map]
    refine .agg _ Vs (by simpa using hl) fun i h1 h2 => ?_
    rw [List.getElem_map]; exact ih i (by simpa using h1) h2
  | tup l Vs hl h ih =>
    rw [frzAt, frzAts_map]
    refine .tup _ Vs (by simpa using hl) fun i h1 h2 => ?_
    rw [List.getElem_map]; exact ih i (by simpa using h1) h2
  | fn f l Vs hl h ih =>
    rw [frzAt, frzAts_map]
    refine .fn f _ Vs (by simpa using hl) fun i h1 h2 => ?_
    rw [List.getElem_map]; exact ih i (by simpa using h1) h2
  | mp i V h1 hp h => rw [frzAt]; exact VRel.mono hx (.mp i V h1 hp h)

theorem ORel.frzAt {E : Env} {w : World} {σ : LSt} (hS : Sim E w σ) {id : Nat} {L : Loc} {o : LO} (h : ORel E w L o) : ORel (E.drop id) w L (o.frzAt σ id) := by
  cases o with
  | arr sz rows =>
    obtain ⟨h1, h2, h3, h4⟩ := h
    have hfl : (rows.map fun r => r.map (Lw.frzAt σ id)).flatten = rows.flatten.map (Lw.frzAt σ id) := by
      rw [List.map_flatten]
    refine ⟨h1, by rw [List.length_map]; exact h2, fun r hr => ?_, ?_⟩
    · obtain ⟨r0, h0, rfl⟩ := List.mem_map.1 hr
      rw [List.length_map]; exact h3 r0 h0
    · rcases h4 with h4 | ⟨b, C, g1, g2, g3, g4, g5, g6⟩
      · exact .inl h4
      · refine .inr ⟨b, C, g1, g2, g3, g4, g5, fun j hj => ?_⟩
        rw [hfl, List.length_map] at hj
        obtain ⟨V, k1, k2, k3⟩ := g6 j hj
        refine ⟨V, k1, k2, ?_⟩
        have : (rows.map fun r => r.map (Lw.frzAt σ id)).flatten[j]'(by rw [hfl, List.length_map]; exact hj) = Lw.frzAt σ id rows.flatten[j] := by simp only [hfl, List.getElem_map]
        rw [this]
        exact frzAt_sound hS k3
  | map es =>
    obtain ⟨h1, b, kvs, clock, g1, g2, g3, g4, g5, g6⟩ := h
    refine ⟨h1, b, kvs, clock, g1, g2, by rw [List.length_map]; exact g3, fun j hj => ?_, g5, g6⟩
    rw [List.length_map] at hj
    obtain ⟨e, k1, k2, k3, k4⟩ := g4 j hj
    refine ⟨e, k1, ?_, k3, ?_⟩
    · rw [List.getElem_map]; exact k2
    · rw [List.getElem_map]; exact frzAt_sound hS k4
  | loop l st pend n m ps as bd =>
    obtain ⟨h1, h2, r, g1, g2, g3, g4, g5, g6, g7, g8⟩ := h
    refine ⟨h1, h2, r, g1, g2, g3, g4, g5, g6, g7, fun t v hm => ?_⟩
    rw [look_mapv] at hm
    cases hl : look t m with
    | none => rw [hl] at hm; cases hm
    | some u => rw [hl] at hm; obtain rfl := Option.some.inj hm; exact frzAt_sound hS (g8 t u hl)
  | iter es seen => exact ⟨h.1, h.2.1, h.2.2.imp (fun b hp => (Ext.drop E w id).prot hp) (fun _ _ => rfl)⟩

theorem Sim.frzAt {E : Env} {w : World} {nx : Nat} {mo : List (Nat × LO)} (hS : Sim E w ⟨nx, mo⟩) (id : Nat) : Sim (E.drop id) w ⟨nx, frzO ⟨nx, mo⟩ id mo⟩ := by
  have h := hS.drop id
  refine ⟨h.fresh, h.sep, h.low, h.flow, h.nx, fun k o ho => ?_⟩
  simp only [LSt.get, look_frzO] at ho
  split at ho
  · cases ho
  · rename_i hne
    cases hk : look k mo with
    | none => simp [hk] at ho
    | some o' =>
      simp only [hk, Option.map_some, Option.some.injEq] at ho
      subst ho
      obtain ⟨L, h1, h2⟩ := hS.obj k o' hk
      exact ⟨L, by simp [Env.drop, hne, h1], h2.frzAt hS⟩

theorem look_append {α : Type} (t : Nat) : ∀ l r : List (Nat × α), look t (l ++ r) = match look t l with | some v => some v | none => look t r
  | [], r => rfl
  | (k, v) :: l, r => by
    simp only [List.cons_append, look]
    split
    · rfl
    · exact look_append t l r

theorem AR.frzAt {E : Env} {w : World} {n nx : Nat} {m : List (Nat × LV)} {mo : List (Nat × LO)} {A : Act} (hS : Sim E w ⟨nx, mo⟩) (h : AR E w ⟨n, m⟩ A) (id : Nat) {tv : List (Nat × LV)} (ht : ∀ t v, look t tv = some v → look t m = some v) : AR (E.drop id) w ⟨n, frzT ⟨nx, mo⟩ id tv ++ m⟩ A := by
  refine ⟨h.1, fun t v hv => ?_⟩
  simp only [look_append, look_frzT] at hv
  cases hk : look t tv with
  | none => simp only [hk, Option.map_none] at hv; exact (h.2 t v hv).mono (Ext.drop E w id)
  | some u =>
    simp only [hk, Option.map_some, Option.some.injEq] at hv
    subst hv
    exact frzAt_sound hS (h.2 t u (ht t u hk))

mutual
def LV.ownId : LV → Option Nat
  | .own i _ _ _ => some i
  | .agg l => LV.ownIds l
  | .tup l => LV.ownIds l
  | .fn _ l => LV.ownIds l
  | .pv _ => none
  | .ptr _ _ _ _ => none
  | .rp _ _ _ _ => none
  | .mp _ => none
def LV.ownIds : List LV → Option Nat
  | [] => none
  | x :: r => match x.ownId with
    | some i => some i
    | none => LV.ownIds r
end
mutual
def LV.hasOwn (id : Nat) : LV → Bool
  | .own i _ _ _ => Nat.beq i id
  | .agg l => LV.hasOwns id l
  | .tup l => LV.hasOwns id l
  | .fn _ l => LV.hasOwns id l
  | .pv _ => false
  | .ptr _ _ _ _ => false
  | .rp _ _ _ _ => false
  | .mp _ => false
def LV.hasOwns (id : Nat) : List LV → Bool
  | [] => false
  | x :: r => x.hasOwn id || LV.hasOwns id r
end
/-- The temporaries that may name it. -/
def ownKeys (id : Nat) : List (Nat × LV) → List Nat
  | [] => []
  | (t, v) :: r => bif v.hasOwn id then t :: ownKeys id r else ownKeys id r
def ownIn : List (Nat × LV) → Option Nat
  | [] => none
  | (_, v) :: r => match v.ownId with
    | some i => some i
    | none => ownIn r

section
variable {P : Program} {ops : Array Oper} {Q : Exit → LAct → LSt → Prop} {n nx : Nat} {m : List (Nat × LV)} {mo : List (Nat × LO)}
/-- An array of our own that an operation reads is given out of hand ahead of it; all temporaries that name it are told anew. -/
theorem LOps.thaw {o : Oper} {rest : List Oper} {id : Nat} {ks : List Nat} {tv0 tv tvF : List (Nat × LV)} {mo2 : List (Nat × LO)} (h0 : readB m (tmpsOf o.op) = some tv0) (hi : ownIn tv0 = some id) (hk : ownKeys id m = ks) (hl : readB m ks = some tv) (hF : frzT ⟨nx, mo⟩ id tv ++ m = tvF) (hM : frzO ⟨nx, mo⟩ id mo = mo2)
    (h : LOps P ops Q (o :: rest) ⟨n, tvF⟩ ⟨nx, mo2⟩) : LOps P ops Q (o :: rest) ⟨n, m⟩ ⟨nx, mo⟩ := by
  intro r E w A h1 h2 h3
  subst hF; subst hM
  exact LOps.lift (Ext.drop E w id) (.refl _ _) (h r _ w A (h1.frzAt id) (h2.frzAt h1 id fun t v hv => (readB_eq hl).look t v hv) (h3.mono (Ext.drop E w id)))
/-- An array of our own is given out of hand; temporaries that name it are told anew. -/
theorem LK.freeze {c : Code} {k : List KI} (id : Nat) (ts : List Nat) {tv tvF : List (Nat × LV)} {mo2 : List (Nat × LO)} (hl : readB m ts = some tv) (hF : frzT ⟨nx, mo⟩ id tv ++ m = tvF) (hM : frzO ⟨nx, mo⟩ id mo = mo2)
    (h : LK P (.code c :: k) Q ⟨n, tvF⟩ ⟨nx, mo2⟩) : LK P (.code c :: k) Q ⟨n, m⟩ ⟨nx, mo⟩ := by
  subst hF; subst hM
  refine LK.lw fun r E w A h0 h1 h2 h3 => ?_
  have h' : LW P c (post P k Q) ⟨n, frzT ⟨nx, mo⟩ id tv ++ m⟩ ⟨nx, frzO ⟨nx, mo⟩ id mo⟩ := h
  exact wpIn_mono (h' r _ w A h0 (h1.frzAt id) (h2.frzAt h1 id fun t v hv => (readB_eq hl).look t v hv) (h3.mono (Ext.drop E w id))) fun x A' w' q => lift_up (Ext.drop E w id) (.refl _ _) q
end
theorem frzAt_pvrows (σ : LSt) (id : Nat) (G : List (List PV)) : (List.map (fun x => List.map LV.pv x) G).map (fun r => r.map (frzAt σ id)) = List.map (fun x => List.map LV.pv x) G := by
  simp [frzAt]
attribute [go_sem] frzAt_pvrows frzAt frzAts frzT frzO LO.frzAt

/-! ### Maps from integers, by lists of pairs -/
def MapOf {α : Type} (f : α → LV) (l : List (Int × α)) : List (Value × LV) := l.map fun p => (.int .i64 p.1, f p.2)
def aget {α : Type} (n : Int) : List (Int × α) → Option α
  | [] => none
  | (k, v) :: r => if n = k then some v else aget n r
def aput {α : Type} (n : Int) (x : α) : List (Int × α) → List (Int × α)
  | [] => [(n, x)]
  | (k, v) :: r => if n = k then (n, x) :: r else (k, v) :: aput n x r
def adel {α : Type} (n : Int) : List (Int × α) → List (Int × α)
  | [] => []
  | (k, v) :: r => if n = k then r else (k, v) :: adel n r
theorem mfind_mapOf {α : Type} (f : α → LV) (n : Int) : ∀ (l : List (Int × α)) (i : Nat),
    (mfind .i64 n i (MapOf f l) = some none ∧ aget n l = none ∧ (∀ x, aput n x l = l ++ [(n, x)]) ∧ adel n l = l) ∨
    ∃ j v, mfind .i64 n i (MapOf f l) = some (some (i + j, f v)) ∧ aget n l = some v ∧ (∀ x, aput n x l = l.set j (n, x)) ∧ adel n l = l.eraseIdx j
  | [], i => .inl ⟨rfl, rfl, fun _ => rfl, rfl⟩
  | (k, v) :: r, i => by
    by_cases e : n = k
    · subst e
      exact .inr ⟨0, v, by simp [MapOf, mfind], by simp [aget], fun x => by simp [aput], by simp [adel]⟩
    · have hs : mfind .i64 n i (MapOf f ((k, v) :: r)) = mfind .i64 n (i + 1) (MapOf f r) := by simp [MapOf, mfind, e]
      rw [hs]
      rcases mfind_mapOf f n r (i + 1) with ⟨h1, h2, h3, h4⟩ | ⟨j, u, h1, h2, h3, h4⟩
      · exact .inl ⟨h1, by simp [aget, e, h2], fun x => by simp [aput, e, h3], by simp [adel, e, h4]⟩
      · exact .inr ⟨j + 1, u, by rw [h1]; congr 3; omega, by simp [aget, e, h2], fun x => by simp [aput, e, h3], by simp [adel, e, h4]⟩
theorem MapOf_len {α : Type} (f : α → LV) (l : List (Int × α)) : (MapOf f l).length = l.length := by simp [MapOf]
theorem mput_mapOf {α : Type} (f : α → LV) (n : Int) (x : α) (l : List (Int × α)) : mput .i64 n (f x) (MapOf f l) = some (MapOf f (aput n x l)) := by
  unfold mput
  rcases mfind_mapOf f n l 0 with ⟨h1, h2, h3, h4⟩ | ⟨j, u, h1, h2, h3, h4⟩
  · simp only [h1, h3]; simp [MapOf]
  · simp only [h1, h3, Nat.zero_add]; simp [MapOf, List.map_set]
theorem eraseIdx_map' {α β : Type} (f : α → β) : ∀ (l : List α) (j : Nat), (l.map f).eraseIdx j = (l.eraseIdx j).map f
  | [], _ => rfl
  | x :: l, 0 => rfl
  | x :: l, j + 1 => by simp [eraseIdx_map' f l j]
theorem mdel_mapOf {α : Type} (f : α → LV) (n : Int) (l : List (Int × α)) : mdel .i64 n (MapOf f l) = some (MapOf f (adel n l)) := by
  unfold mdel
  rcases mfind_mapOf f n l 0 with ⟨h1, h2, h3, h4⟩ | ⟨j, u, h1, h2, h3, h4⟩
  · simp only [h1, h4]
  · simp only [h1, h4, Nat.zero_add]; simp [MapOf, eraseIdx_map']
theorem llook_mapOf {α : Type} (f : α → LV) (z : LV) (n : Int) (l : List (Int × α)) (ok : Bool) : llook z .i64 n (MapOf f l) ok = some (if ok then .tup [((aget n l).map f).getD z, .pv (.sc (.bool (aget n l).isSome))] else ((aget n l).map f).getD z) := by
  unfold llook
  rcases mfind_mapOf f n l 0 with ⟨h1, h2, h3, h4⟩ | ⟨j, u, h1, h2, h3, h4⟩
  · simp only [h1, h2]; rfl
  · simp only [h1, h2]; rfl
abbrev vB (b : Bool) : LV := .pv (.sc (.bool b))
abbrev vI (n : Int) : LV := .pv (.sc (.int .i64 n))
def mb (l : List (Int × Bool)) (n : Int) : Bool := (aget n l).getD false
def mi (l : List (Int × Int)) (n : Int) : Int := (aget n l).getD 0
def MB (l : List (Int × Bool)) : List (Value × LV) := MapOf vB l
def MI (l : List (Int × Int)) : List (Value × LV) := MapOf vI l
theorem getD_vB (o : Option Bool) : (o.map vB).getD (.pv (.sc (.bool false))) = vB (o.getD false) := by cases o <;> rfl
theorem getD_vI (o : Option Int) : (o.map vI).getD (.pv (.sc (.int .i64 0))) = vI (o.getD 0) := by cases o <;> rfl
theorem llook_MB (n : Int) (l : List (Int × Bool)) : llook (.pv (.sc (.bool false))) .i64 n (MB l) false = some (.pv (.sc (.bool (mb l n)))) := by
  rw [MB, llook_mapOf, getD_vB]; rfl
theorem llook_MB_ok (n : Int) (l : List (Int × Bool)) : llook (.pv (.sc (.bool false))) .i64 n (MB l) true = some (.tup [.pv (.sc (.bool (mb l n))), .pv (.sc (.bool (aget n l).isSome))]) := by
  rw [MB, llook_mapOf, getD_vB]; rfl
theorem llook_MI (n : Int) (l : List (Int × Int)) : llook (.pv (.sc (.int .i64 0))) .i64 n (MI l) false = some (.pv (.sc (.int .i64 (mi l n)))) := by
  rw [MI, llook_mapOf, getD_vI]; rfl
theorem llook_MI_ok (n : Int) (l : List (Int × Int)) : llook (.pv (.sc (.int .i64 0))) .i64 n (MI l) true = some (.tup [.pv (.sc (.int .i64 (mi l n))), .pv (.sc (.bool (aget n l).isSome))]) := by
  rw [MI, llook_mapOf, getD_vI]; rfl
theorem mput_MB (n : Int) (b : Bool) (l : List (Int × Bool)) : mput .i64 n (.pv (.sc (.bool b))) (MB l) = some (MB (aput n b l)) := mput_mapOf vB n b l
theorem mput_MI (n : Int) (b : Int) (l : List (Int × Int)) : mput .i64 n (.pv (.sc (.int .i64 b))) (MI l) = some (MI (aput n b l)) := mput_mapOf vI n b l
theorem mdel_MB (n : Int) (l : List (Int × Bool)) : mdel .i64 n (MB l) = some (MB (adel n l)) := mdel_mapOf vB n l
theorem mdel_MI (n : Int) (l : List (Int × Int)) : mdel .i64 n (MI l) = some (MI (adel n l)) := mdel_mapOf vI n l
theorem MB_len (l : List (Int × Bool)) : (MB l).length = l.length := MapOf_len _ l
theorem MI_len (l : List (Int × Int)) : (MI l).length = l.length := MapOf_len _ l
theorem MB_under (k : Nat) (l : List (Int × Bool)) : (LO.map (MB l)).under k = true := by simp [LO.under, MB, MapOf, LV.under]
theorem MI_under (k : Nat) (l : List (Int × Int)) : (LO.map (MI l)).under k = true := by simp [LO.under, MI, MapOf, LV.under]
theorem MB_idp (p : Nat → Bool) (l : List (Int × Bool)) : (LO.map (MB l)).idp p = true := by simp [LO.idp, MB, MapOf, LV.idp]
theorem MI_idp (p : Nat → Bool) (l : List (Int × Int)) : (LO.map (MI l)).idp p = true := by simp [LO.idp, MI, MapOf, LV.idp]
theorem idss_MB (l : List (Int × Bool)) : (LO.map (MB l)).ids = [] := by
  induction l with
  | nil => rfl
  | cons x l ih => simpa [LO.ids, MB, MapOf, LV.idss, LV.ids] using ih
theorem idss_MI (l : List (Int × Int)) : (LO.map (MI l)).ids = [] := by
  induction l with
  | nil => rfl
  | cons x l ih => simpa [LO.ids, MI, MapOf, LV.idss, LV.ids] using ih
theorem mput_nilB (n : Int) (b : Bool) : mput .i64 n (.pv (.sc (.bool b))) [] = some (MB [(n, b)]) := rfl
theorem mput_nilI (n : Int) (b : Int) : mput .i64 n (.pv (.sc (.int .i64 b))) [] = some (MI [(n, b)]) := rfl
theorem llook_nil (z : LV) (n : Int) (ok : Bool) : llook z .i64 n [] ok = some (if ok then .tup [z, .pv (.sc (.bool false))] else z) := rfl
theorem mdel_nil (n : Int) : mdel .i64 n [] = some [] := rfl
attribute [go_sem] llook_MB llook_MB_ok llook_MI llook_MI_ok mput_MB mput_MI mdel_MB mdel_MI MB_len MI_len MB_under MI_under MB_idp MI_idp idss_MB idss_MI mput_nilB mput_nilI llook_nil mdel_nil
theorem aget_aput {α : Type} (n m : Int) (x : α) : ∀ l : List (Int × α), aget n (aput m x l) = if n = m then some x else aget n l
  | [] => by simp [aput, aget]
  | (k, v) :: r => by
    by_cases e : m = k
    · subst e
      by_cases e2 : n = m <;> simp [aput, aget, e2]
    · by_cases e2 : n = k
      · subst e2
        simp [aput, aget, e, Ne.symm e]
      · simp [aput, aget, e, e2, aget_aput n m x r]
theorem mb_aput (n m : Int) (x : Bool) (l : List (Int × Bool)) : mb (aput m x l) n = if n = m then x else mb l n := by
  unfold mb; rw [aget_aput]; split <;> rfl
theorem mi_aput (n m : Int) (x : Int) (l : List (Int × Int)) : mi (aput m x l) n = if n = m then x else mi l n := by
  unfold mi; rw [aget_aput]; split <;> rfl
theorem aput_len {α : Type} (m : Int) (x : α) : ∀ l : List (Int × α), (aput m x l).length = if (aget m l).isSome then l.length else l.length + 1
  | [] => rfl
  | (k, v) :: r => by
    by_cases e : m = k
    · subst e; simp [aput, aget]
    · simp only [aput, aget, e, if_false, List.length_cons, aput_len m x r]; split <;> rfl
end Go.Lw

set_option linter.unusedVariables false
set_option linter.unusedSimpArgs false
namespace Go.Lw
open Go.ChangeShapes Go.RowKit Go.WideShapes

/-- The shape of a type: numbers, bools, structs, slices. -/
inductive Sh where
  | int (k : IntKind)
  | bool
  | st (fs : List Sh)
  | sl (e : Sh)

mutual
def Sh.size : Sh → Nat
  | .int _ => 1
  | .bool => 1
  | .st fs => Sh.sizes fs
  | .sl _ => 1
def Sh.sizes : List Sh → Nat
  | [] => 0
  | s :: r => s.size + Sh.sizes r
end

mutual
/-- Cells of a shape. -/
def Typed : Sh → List PV → Prop
  | .int k, l => ∃ n, l = [.sc (.int k n)] ∧ (Lit.int k n).wf = true
  | .bool, l => ∃ b, l = [.sc (.bool b)]
  | .st fs, l => TypedL fs l
  | .sl e, l => ∃ rows, l = [.ro .any e.size rows] ∧ ∀ r ∈ rows, Typed e r
def TypedL : List Sh → List PV → Prop
  | [], l => l = []
  | s :: r, l => ∃ a b, l = a ++ b ∧ Typed s a ∧ TypedL r b
end

def shFields (P : Program) (sh : TypeId → Option Sh) : Nat → List Field → Option (List Sh)
  | _, [] => some []
  | o, f :: r => match sh f.type, shFields P sh (o + P.cellsOf f.type) r with
    | some s, some ss => if f.offset = o ∧ s.size = P.cellsOf f.type then some (s :: ss) else none
    | _, _ => none
def shOf (P : Program) : Nat → TypeId → Option Sh
  | 0, _ => none
  | n + 1, t => match P.underlying t with
    | some .bool => some .bool
    | some (.int k) => some (.int k)
    | some (.slice e) => match shOf P n e with
      | some s => if s.size = P.cellsOf e ∧ 0 < s.size then some (.sl s) else none
      | none => none
    | some (.struct fs) => match shFields P (shOf P n) 0 fs.toList with
      | some ss => if Sh.sizes ss = P.cellsOf t then some (.st ss) else none
      | none => none
    | _ => none

mutual
theorem Typed.len : ∀ (s : Sh) (l : List PV), Typed s l → l.length = s.size
  | .int k, l, h => by rw [Typed] at h; obtain ⟨n, rfl, _⟩ := h; rfl
  | .bool, l, h => by rw [Typed] at h; obtain ⟨b, rfl⟩ := h; rfl
  | .st fs, l, h => by rw [Typed] at h; exact TypedL.len fs l h
  | .sl e, l, h => by rw [Typed] at h; obtain ⟨rows, rfl, _⟩ := h; rfl
theorem TypedL.len : ∀ (s : List Sh) (l : List PV), TypedL s l → l.length = Sh.sizes s
  | [], l, h => by rw [TypedL] at h; subst h; rfl
  | s :: r, l, h => by
    rw [TypedL] at h
    obtain ⟨a, b, rfl, h1, h2⟩ := h
    rw [List.length_append, Typed.len s a h1, TypedL.len r b h2]; rfl
end

/-- Cells as they stand. -/
def Stands (w : World) (l : List PV) (cs : List Value) : Prop := l.length = cs.length ∧ ∀ i (h1 : i < l.length) (h2 : i < cs.length), PRel (Prot Env.none w) w l[i] cs[i] ∧ (cs[i]).oneCell' = true
theorem Stands.append {w : World} {l r : List PV} {cs ds : List Value} (h1 : Stands w l cs) (h2 : Stands w r ds) : Stands w (l ++ r) (cs ++ ds) := by
  refine ⟨by simp [h1.1, h2.1], fun i i1 i2 => ?_⟩
  have hl := h1.1
  by_cases c : i < l.length
  · rw [List.getElem_append_left c, List.getElem_append_left (by omega)]
    exact h1.2 i c _
  · simp only [List.length_append] at i1
    rw [List.getElem_append_right (by omega), List.getElem_append_right (by omega)]
    simp only [← hl]
    exact h2.2 _ (by omega) _
theorem Stands.one {w : World} {p : PV} {V : Value} (h : PRel (Prot Env.none w) w p V) (h1 : V.oneCell' = true) : Stands w [p] [V] := ⟨rfl, fun i i1 i2 => by
  match i, i1 with
  | 0, _ => exact ⟨h, h1⟩⟩

theorem rows_of {Q : Nat → List PV → Prop} : ∀ (len : Nat), (∀ i, i < len → ∃ r, Q i r) → ∃ rows : List (List PV), rows.length = len ∧ ∀ i (h : i < rows.length), Q i rows[i]
  | 0, _ => ⟨[], rfl, by simp⟩
  | len + 1, h => by
    obtain ⟨rows, h1, h2⟩ := rows_of len fun i hi => h i (by omega)
    obtain ⟨r, hr⟩ := h len (by omega)
    refine ⟨rows ++ [r], by simp [h1], fun i hi => ?_⟩
    by_cases c : i < rows.length
    · rw [List.getElem_append_left c]; exact h2 i c
    · have : i = len := by simp only [List.length_append, List.length_cons, List.length_nil] at hi; omega
      subst this
      rw [List.getElem_append_right (by omega)]
      simp only [h1, Nat.sub_self, List.getElem_cons_zero]; exact hr

section
variable {H : Type} {enc : TypeId × Value → H} {P : Program} {W : World} {base : Nat}
theorem incoming_fields {m n : Nat} {cs : List Value} (ih : ∀ t S, shOf P m t = some S → ∀ cs x, DataW.trod enc P W 0 (fun _ => true) true n t cs = some x → ∃ l, Typed S l ∧ Stands W l cs) :
    ∀ (fs : List Field) (o : Nat) (ss : List Sh), shFields P (shOf P m) o fs = some ss → (∀ f ∈ fs, ∃ x, DataW.trod enc P W 0 (fun _ => true) true n f.type ((cs.drop f.offset).take (P.cellsOf f.type)) = some x) →
      ∃ l, TypedL ss l ∧ Stands W l ((cs.drop o).take (Sh.sizes ss))
  | [], o, ss, h, _ => by
    simp only [shFields, Option.some.injEq] at h; subst h
    exact ⟨[], by rw [TypedL], by simp [Stands, Sh.sizes]⟩
  | f :: r, o, ss, h, hx => by
    simp only [shFields] at h
    split at h
    case h_2 => cases h
    rename_i s sr hs hr
    split at h
    case isFalse => cases h
    rename_i hc
    obtain ⟨h1, h2⟩ := hc
    simp only [Option.some.injEq] at h; subst h
    obtain ⟨x, hx0⟩ := hx f (by simp)
    obtain ⟨a, a1, a2⟩ := ih f.type s hs _ _ hx0
    obtain ⟨b, b1, b2⟩ := incoming_fields ih r _ sr hr fun f hf => hx f (List.mem_cons_of_mem _ hf)
    refine ⟨a ++ b, by rw [TypedL]; exact ⟨a, b, rfl, a1, b1⟩, ?_⟩
    have e : (cs.drop o).take (Sh.sizes (s :: sr)) = (cs.drop f.offset).take (P.cellsOf f.type) ++ (cs.drop (o + P.cellsOf f.type)).take (Sh.sizes sr) := by
      rw [h1, show Sh.sizes (s :: sr) = P.cellsOf f.type + Sh.sizes sr by rw [Sh.sizes, h2], List.take_add, List.drop_drop]
    rw [e]
    exact a2.append b2

theorem incoming : ∀ (m n : Nat) (t : TypeId) (S : Sh), shOf P m t = some S → ∀ (cs : List Value) (x : DataW H × List MemPlace), DataW.trod enc P W 0 (fun _ => true) true n t cs = some x → ∃ l, Typed S l ∧ Stands W l cs
  | 0, n, t, S, h, cs, x, hx => by cases h
  | m + 1, n, t, S, h, cs, x, hx => by
    rw [shOf] at h
    split at h
    · rename_i ht
      simp only [Option.some.injEq] at h; subst h
      obtain ⟨b, rfl⟩ : ∃ b, cs = [.bool b] := by
        cases n with
        | zero => simp [DataW.trod] at hx
        | succ n =>
          unfold DataW.trod at hx
          rw [ht] at hx
          split at hx <;> simp_all
      exact ⟨[.sc (.bool b)], by rw [Typed]; exact ⟨b, rfl⟩, .one (.sc _) rfl⟩
    · rename_i k ht
      simp only [Option.some.injEq] at h; subst h
      obtain ⟨v, rfl, _, hw⟩ := DataW.trod_int ht hx
      exact ⟨[.sc (.int k v)], by rw [Typed]; exact ⟨v, rfl, hw⟩, .one (.sc _) rfl⟩
    · rename_i e ht
      split at h
      case h_2 => cases h
      rename_i s hs
      split at h
      case isFalse => cases h
      rename_i hc
      obtain ⟨hsz, hpos⟩ := hc
      simp only [Option.some.injEq] at h; subst h
      rcases DataW.trod_slice ht hx with ⟨rfl, _⟩ | ⟨a, len, cap, elems, rest, n', rfl, rfl, _, _, hle, hmx, hel, helems, _⟩
      · exact ⟨[.ro .any s.size []], by rw [Typed]; exact ⟨[], rfl, by simp⟩, .one (.ronil _ _ (.inr (.inl rfl))) rfl⟩
      · have each : ∀ i, i < len → ∃ r, Typed s r ∧ ∃ ci, W.cells? 0 (a.add (i * P.cellsOf e)) (P.cellsOf e) = some ci ∧ Stands W r ci := by
          intro i hi
          have h1 := helems i hi
          rw [List.getElem?_eq_getElem (by omega)] at h1
          cases hci : W.cells? 0 (a.add (i * P.cellsOf e)) (P.cellsOf e) with
          | none => rw [hci] at h1; cases h1
          | some ci =>
            rw [hci] at h1
            obtain ⟨r, r1, r2⟩ := incoming m n' e s hs ci _ h1
            exact ⟨r, r1, ci, rfl, r2⟩
        obtain ⟨rows, hlen, hrows⟩ := rows_of len each
        have hrl : ∀ r ∈ rows, r.length = s.size := fun r hr => by
          obtain ⟨i, hi, rfl⟩ := List.getElem_of_mem hr
          exact Typed.len s _ (hrows i hi).1
        have hat : ∀ j (hj : j < rows.flatten.length), ∃ V, W.cell? (a.add j) = some V ∧ V.oneCell' = true ∧ PRel (Prot Env.none W) W rows.flatten[j] V := by
          intro j hj
          have hfl := flatten_len s.size rows hrl
          have hmod := Nat.mod_lt j hpos
          have hdm := Nat.div_add_mod j s.size
          rw [Nat.mul_comm] at hdm
          have hq : j / s.size < rows.length := by
            rcases Nat.lt_or_ge (j / s.size) rows.length with h | h
            · exact h
            · have : rows.length * s.size ≤ j / s.size * s.size := Nat.mul_le_mul_right _ h
              omega
          obtain ⟨_, ci, c1, c2, c3⟩ := hrows (j / s.size) hq
          obtain ⟨_, d1, d2⟩ := World.cells?_some c1
          have hrj := hrl _ (List.getElem_mem hq)
          have hol : j % s.size < ci.length := by omega
          have hcell := d2 (j % s.size) (by omega)
          rw [Addr.add_add, ← hsz, hdm, List.getElem?_eq_getElem hol] at hcell
          obtain ⟨p1, p2⟩ := c3 (j % s.size) (by omega) hol
          refine ⟨_, hcell, p2, ?_⟩
          have he : rows.flatten[j] = (rows[j / s.size])[j % s.size]'(by omega) := by
            apply Option.some.inj
            rw [← List.getElem?_eq_getElem hj]
            conv => lhs; rw [← hdm]
            rw [flatten_get s.size rows hrl _ _ hmod, List.getElem?_eq_getElem hq, Option.bind_some, List.getElem?_eq_getElem]
          rw [he]; exact p1
        refine ⟨[.ro .any s.size rows], by rw [Typed]; exact ⟨rows, rfl, fun r hr => by
          obtain ⟨i, hi, rfl⟩ := List.getElem_of_mem hr
          exact (hrows i hi).1⟩, .one ?_ rfl⟩
        have key := PRel.ro (T := Prot Env.none W) (w := W) .any s.size rows a cap (fun j => (W.cell? (a.add j)).getD undef) (.inr ⟨by simp, by simp, by simp, by omega⟩) hmx hrl (fun hne => ?_) (fun j hj => ?_) (fun j hj => ?_)
        · rw [hlen] at key; exact key
        · obtain ⟨V, v1, v2, v3⟩ := hat 0 (List.length_pos_iff.2 hne)
          obtain ⟨h1, h2⟩ := cell_old v1
          rw [add_zero_addr] at h1 h2
          exact ⟨h2, h1, (by rintro ⟨_, _, h, _⟩; cases h), fun h => h⟩
        · obtain ⟨V, v1, v2, v3⟩ := hat j hj
          rw [v1]; exact ⟨rfl, v2⟩
        · obtain ⟨V, v1, v2, v3⟩ := hat j hj
          rw [v1]; exact v3
    · rename_i fs ht
      split at h
      case h_2 => cases h
      rename_i ss hss
      split at h
      case isFalse => cases h
      rename_i hsz
      simp only [Option.some.injEq] at h; subst h
      obtain ⟨xs, n', rfl, _, hl, hlen, hf⟩ := DataW.trod_struct ht hx
      obtain ⟨l, h1, h2⟩ := incoming_fields (cs := cs) (n := n') (m := m) (fun t S h cs x hx => incoming m n' t S h cs x hx) fs.toList 0 ss hss (fun f hf' => by
        obtain ⟨i, hi, hfe⟩ := List.getElem_of_mem hf'
        have hi' : i < fs.size := by simpa using hi
        have := hf i f (by rw [Array.getElem?_eq_getElem hi']; congr 1)
        rw [List.getElem?_eq_getElem (by omega)] at this
        exact ⟨_, this⟩)
      refine ⟨l, by rw [Typed]; exact h1, ?_⟩
      rw [hsz, ← hl, List.drop_zero, List.take_length] at h2
      exact h2
    · cases h

theorem arg_one {p : PV} {V : Value} (h : Stands W [p] [V]) : VRel Env.none W (.pv p) V := .pv _ _ (h.2 0 (by simp) (by simp)).1
theorem arg_agg {l : List PV} {cells : Array Value} (h : Stands W l cells.toList) : VRel Env.none W (.agg (l.map .pv)) (.agg cells) := by
  have h1 := h.1
  have := VRel.agg (E := Env.none) (w := W) (l.map .pv) cells.toList (by simpa using h1) (fun i i1 i2 => by
    rw [List.getElem_map]; exact .pv _ _ (h.2 i (by simpa using i1) i2).1)
  simpa using this

/-- An argument that comes in: a number, a bool, a slice, a struct. -/
theorem arg_int {t : TypeId} {k : IntKind} {v : Value} {d : DataW H} {p : List MemPlace} (m : Nat) (hs : shOf P m t = some (.int k)) (ht : P.underlying t = some (.int k)) (ho : Value.okWide P W .any base t v) (h : DataW.Trod enc P W 0 (fun _ => true) true t v d p) : ∃ n, (Lit.int k n).wf = true ∧ VRel Env.none W (.pv (.sc (.int k n))) v := by
  obtain ⟨n, rfl⟩ := okWide_int ht ho
  obtain ⟨fuel, hf⟩ := h
  obtain ⟨l, h1, h2⟩ := incoming m fuel t _ hs _ _ hf
  rw [Typed] at h1
  obtain ⟨n', rfl, hw⟩ := h1
  exact ⟨n', hw, arg_one (by simpa [Value.cells] using h2)⟩
theorem arg_bool {t : TypeId} {v : Value} {d : DataW H} {p : List MemPlace} (m : Nat) (hs : shOf P m t = some .bool) (ht : P.underlying t = some .bool) (ho : Value.okWide P W .any base t v) (h : DataW.Trod enc P W 0 (fun _ => true) true t v d p) : ∃ b, VRel Env.none W (.pv (.sc (.bool b))) v := by
  obtain ⟨n, rfl⟩ := okWide_bool ht ho
  obtain ⟨fuel, hf⟩ := h
  obtain ⟨l, h1, h2⟩ := incoming m fuel t _ hs _ _ hf
  rw [Typed] at h1
  obtain ⟨b, rfl⟩ := h1
  exact ⟨b, arg_one (by simpa [Value.cells] using h2)⟩
theorem arg_slice {t e : TypeId} {s : Sh} {v : Value} {d : DataW H} {p : List MemPlace} (m : Nat) (hs : shOf P m t = some (.sl s)) (ht : P.underlying t = some (.slice e)) (ho : Value.okWide P W .any base t v) (h : DataW.Trod enc P W 0 (fun _ => true) true t v d p) : ∃ rows, (∀ r ∈ rows, Typed s r) ∧ VRel Env.none W (.pv (.ro .any s.size rows)) v := by
  obtain ⟨a, len, cap, rfl⟩ := okWide_slice ht ho
  obtain ⟨fuel, hf⟩ := h
  obtain ⟨l, h1, h2⟩ := incoming m fuel t _ hs _ _ hf
  rw [Typed] at h1
  obtain ⟨rows, rfl, hr⟩ := h1
  exact ⟨rows, hr, arg_one (by simpa [Value.cells] using h2)⟩
theorem arg_struct {t : TypeId} {fs : Array Field} {ss : List Sh} {v : Value} {d : DataW H} {p : List MemPlace} (m : Nat) (hs : shOf P m t = some (.st ss)) (ht : P.underlying t = some (.struct fs)) (ho : Value.okWide P W .any base t v) (h : DataW.Trod enc P W 0 (fun _ => true) true t v d p) : ∃ l, TypedL ss l ∧ VRel Env.none W (.agg (l.map .pv)) v := by
  obtain ⟨cells, rfl, _⟩ := okWide_struct ht ho
  obtain ⟨fuel, hf⟩ := h
  obtain ⟨l, h1, h2⟩ := incoming m fuel t _ hs _ _ hf
  rw [Typed] at h1
  exact ⟨l, h1, arg_agg h2⟩
end

/-- Rows of one number each, of one bool each. -/
def rI (k : IntKind) (l : List Int) : List (List PV) := l.map fun x => [.sc (.int k x)]
def rB (l : List Bool) : List (List PV) := l.map fun x => [.sc (.bool x)]
theorem typed_ints {k : IntKind} : ∀ {rows : List (List PV)}, (∀ r ∈ rows, Typed (.int k) r) → ∃ l : List Int, rows = rI k l ∧ ∀ n ∈ l, (Lit.int k n).wf = true
  | [], _ => ⟨[], rfl, by simp⟩
  | r :: rows, h => by
    obtain ⟨l, rfl, hl⟩ := typed_ints fun r hr => h r (List.mem_cons_of_mem _ hr)
    have := h r (by simp)
    rw [Typed] at this
    obtain ⟨n, rfl, hn⟩ := this
    refine ⟨n :: l, rfl, fun x hx => ?_⟩
    rcases List.mem_cons.1 hx with rfl | hx
    · exact hn
    · exact hl x hx
theorem typed_bools : ∀ {rows : List (List PV)}, (∀ r ∈ rows, Typed .bool r) → ∃ l : List Bool, rows = rB l
  | [], _ => ⟨[], rfl⟩
  | r :: rows, h => by
    obtain ⟨l, rfl⟩ := typed_bools fun r hr => h r (List.mem_cons_of_mem _ hr)
    have := h r (by simp)
    rw [Typed] at this
    obtain ⟨n, rfl⟩ := this
    exact ⟨n :: l, rfl⟩
end Go.Lw

set_option linter.unusedVariables false
set_option linter.unusedSimpArgs false
namespace Go.Lw
/-- Rows, one for each thing of a list. -/
def rF {α : Type} (f : α → List PV) (l : List α) : List (List PV) := l.map f
def cI (k : IntKind) (x : Int) : List PV := [.sc (.int k x)]
def cB (x : Bool) : List PV := [.sc (.bool x)]
section
variable {α : Type} (f : α → List PV) (l r : List α)
theorem rF_len : (rF f l).length = l.length := by simp [rF]
theorem rF_get (k : Nat) : (rF f l)[k]? = (l[k]?).map f := by simp [rF]
theorem rF_take (k : Nat) : (rF f l).take k = rF f (l.take k) := by simp [rF, List.map_take]
theorem rF_drop (k : Nat) : (rF f l).drop k = rF f (l.drop k) := by simp [rF, List.map_drop]
theorem rF_append : rF f l ++ rF f r = rF f (l ++ r) := by simp [rF]
theorem rF_nil : rF f [] = [] := rfl
theorem rF_cons (x : α) : rF f (x :: l) = f x :: rF f l := rfl
/-- The same as an array's of our own. -/
def oF : List (List LV) := List.map (fun x => List.map LV.pv x) (rF f l)
theorem oF_eq : List.map (fun x => List.map LV.pv x) (rF f l) = oF f l := rfl
theorem oF_len : (oF f l).length = l.length := by simp [oF, rF]
theorem oF_get (k : Nat) : (oF f l)[k]? = (l[k]?).map fun x => (f x).map LV.pv := by simp [oF, rF, Function.comp_def]
theorem oF_take (k : Nat) : (oF f l).take k = oF f (l.take k) := by simp [oF, rF, List.map_take]
theorem oF_drop (k : Nat) : (oF f l).drop k = oF f (l.drop k) := by simp [oF, rF, List.map_drop]
theorem oF_append : oF f l ++ oF f r = oF f (l ++ r) := by simp [oF, rF]
theorem oF_set (k : Nat) (x : α) : (oF f l).set k ((f x).map LV.pv) = oF f (l.set k x) := by simp [oF, rF, List.map_set]
theorem oF_pv : pvRows (oF f l) = some (rF f l) := pvRows_map _
theorem oF_under (n s : Nat) : (LO.arr s (oF f l)).under n = true := ounder_pv n s _
theorem oF_idp (p : Nat → Bool) (s : Nat) : (LO.arr s (oF f l)).idp p = true := oidp_pv p s _
theorem oF_ids (s : Nat) : (LO.arr s (oF f l)).ids = [] := ids_pv s _
theorem oF_frzAt (σ : LSt) (id : Nat) : (oF f l).map (fun r => r.map (frzAt σ id)) = oF f l := frzAt_pvrows σ id _
theorem oF_rep (n : Nat) (x : α) : List.replicate n ((f x).map LV.pv) = oF f (List.replicate n x) := by simp [oF, rF]
end
theorem oF_idss {α : Type} (f : α → List PV) (l : List α) : LV.idss (oF f l).flatten = [] := idss_pv _
theorem oF_all_under {α : Type} (f : α → List PV) (l : List α) (n : Nat) : ((oF f l).all fun r => r.all (·.under n)) = true := under_pv n _
theorem oF_all_idp {α : Type} (f : α → List PV) (l : List α) (p : Nat → Bool) : ((oF f l).all fun r => r.all (·.idp p)) = true := idp_pv p _
theorem oF_nil {α : Type} (f : α → List PV) : oF f [] = [] := rfl
theorem cI_map (k : IntKind) (x : Int) : (cI k x).map LV.pv = [.pv (.sc (.int k x))] := rfl
theorem cB_map (x : Bool) : (cB x).map LV.pv = [.pv (.sc (.bool x))] := rfl
theorem oI_set (k : IntKind) (l : List Int) (j : Nat) (x : Int) : (oF (cI k) l).set j [.pv (.sc (.int k x))] = oF (cI k) (l.set j x) := oF_set (cI k) l j x
theorem oB_set (l : List Bool) (j : Nat) (x : Bool) : (oF cB l).set j [.pv (.sc (.bool x))] = oF cB (l.set j x) := oF_set cB l j x
theorem oI_push (k : IntKind) (l : List Int) (x : Int) : oF (cI k) l ++ [[.pv (.sc (.int k x))]] = oF (cI k) (l ++ [x]) := oF_append (cI k) l [x]
theorem oB_push (l : List Bool) (x : Bool) : oF cB l ++ [[.pv (.sc (.bool x))]] = oF cB (l ++ [x]) := oF_append cB l [x]
theorem oI_rep (n : Nat) (k : IntKind) (x : Int) : List.replicate n [LV.pv (.sc (.int k x))] = oF (cI k) (List.replicate n x) := oF_rep (cI k) n x
theorem oB_rep (n : Nat) (x : Bool) : List.replicate n [LV.pv (.sc (.bool x))] = oF cB (List.replicate n x) := oF_rep cB n x
theorem rI_rF (k : IntKind) (l : List Int) : rI k l = rF (cI k) l := rfl
theorem rB_rF (l : List Bool) : rB l = rF cB l := rfl
attribute [go_sem] rF_len rF_get rF_take rF_drop oF_eq oF_len oF_get oF_take oF_drop oF_append oF_pv oF_under oF_idp oF_ids oF_frzAt oF_nil cI_map cB_map oI_set oB_set oI_push oB_push oI_rep oB_rep cI cB List.take_length List.length_set List.length_append List.length_replicate List.length_map Int.toNat_natCast Int.natCast_nonneg List.drop_length List.replicate_one List.flatten_cons List.flatten_nil Nat.sub_self List.take_replicate Nat.min_self

/-- A slice of which it is not known whether it is nil: two ways. -/
theorem Fun.kind {P : Program} {f : FuncId} {sz : Nat} {rows : List (List PV)} {l r : List LV} {v : LV} (h0 : rows = [] → Fun P f (l ++ .pv (.ro .nil sz []) :: r) v) (h1 : Fun P f (l ++ .pv (.ro .loose sz rows) :: r) v) : Fun P f (l ++ .pv (.ro .any sz rows) :: r) v := by
  intro E w Vs hS hA
  have hlen : l.length < (l ++ .pv (.ro .any sz rows) :: r).length := by simp
  have hlv : l.length < Vs.length := by rw [← hA.1]; exact hlen
  have hx := hA.2 l.length hlen hlv
  rw [List.getElem_append_right (Nat.le_refl _)] at hx
  simp only [Nat.sub_self, List.getElem_cons_zero] at hx
  have put : ∀ u : LV, VRel E w u (Vs[l.length]) → ArgsR E w (l ++ u :: r) Vs := by
    intro u hu
    refine ⟨by have := hA.1; simpa using this, fun i i1 i2 => ?_⟩
    have hi := hA.2 i (by simpa using i1) i2
    rcases Nat.lt_trichotomy i l.length with c | c | c
    · rw [List.getElem_append_left c] at hi ⊢; exact hi
    · subst c
      rw [List.getElem_append_right (Nat.le_refl _)]
      simp only [Nat.sub_self, List.getElem_cons_zero]
      exact hu
    · rw [List.getElem_append_right (by omega)] at hi ⊢
      obtain ⟨j, hj⟩ : ∃ j, i - l.length = j + 1 := ⟨i - l.length - 1, by omega⟩
      simp only [hj, List.getElem_cons_succ] at hi ⊢
      exact hi
  generalize hV : Vs[l.length] = V at hx put
  cases hx with
  | pv _ _ hp =>
    cases hp with
    | ronil => exact h0 rfl E w Vs hS (put _ (.pv _ _ (.ronil _ _ (.inl rfl))))
    | ro k sz rows a cap g hk hm hs hb hc hv =>
      refine h1 E w Vs hS (put _ (.pv _ _ (.ro _ _ rows a cap g (.inr ⟨by simp, by simp, by simp, ?_⟩) hm hs hb hc hv)))
      rcases hk with ⟨_, h⟩ | ⟨_, _, _, h⟩ <;> omega
abbrev nil0 : LV := .pv (.sc (.slice none 0 0))
/-- A slice that is only read. -/
abbrev sF {α : Type} (sz : Nat) (f : α → List PV) (l : List α) : LV := .pv (.ro .any sz (rF f l))
theorem le_nilF {α : Type} (sz : Nat) (f : α → List PV) : LV.le nil0 (sF sz f []) := LV.le_nil sz
theorem idx_all {α : Type} {l : List α} {k : Nat} (h : k < l.length) : ∃ x, l[k]? = some x := ⟨_, List.getElem?_eq_getElem h⟩
theorem lt_of_get {α : Type} {l : List α} {k : Nat} {x : α} (h : l[k]? = some x) : k < l.length := by
  rcases Nat.lt_or_ge k l.length with g | g
  · exact g
  · rw [List.getElem?_eq_none g] at h; cases h
theorem wrapn {n : Nat} (h : n < 4611686018427387904) : IntKind.i64.wrap ((n : Int) + 1) = ((n + 1 : Nat) : Int) := by rw [IntKind.wrap_i64]; omega
theorem upd_same {α : Type} {t : Nat} {x : α} : ∀ {l : List (Nat × α)}, Lw.look t l = some x → upd t x l = l
  | [], h => by cases h
  | (k, v) :: r, h => by
    simp only [Lw.look] at h
    split at h
    · rename_i e; subst e; obtain rfl := Option.some.inj h; simp [upd]
    · rename_i e; simp only [upd, if_neg e, upd_same h]
theorem upd_upd {α : Type} {t : Nat} {x y : α} : ∀ {l : List (Nat × α)}, upd t y (upd t x l) = upd t y l
  | [] => by simp [upd]
  | (k, v) :: r => by
    by_cases e : k = t
    · simp [upd, e]
    · simp [upd, e, upd_upd (l := r)]
end Go.Lw

set_option linter.unusedVariables false
set_option linter.unusedSimpArgs false
namespace Go.Lw

mutual
/-- The same with other numbers of objects. -/
def LV.shift (d : Nat) : LV → LV
  | .pv p => .pv p
  | .own id n off len => .own (d + id) n off len
  | .ptr id n i j => .ptr (d + id) n i j
  | .rp sz rows i j => .rp sz rows i j
  | .agg l => .agg (LV.shifts d l)
  | .tup l => .tup (LV.shifts d l)
  | .fn f l => .fn f (LV.shifts d l)
  | .mp id => .mp (d + id)
def LV.shifts (d : Nat) : List LV → List LV
  | [] => []
  | x :: r => x.shift d :: LV.shifts d r
end
theorem shifts_map (d : Nat) : ∀ l : List LV, LV.shifts d l = l.map (LV.shift d)
  | [] => rfl
  | x :: r => by rw [LV.shifts, shifts_map d r, List.map_cons]
def LO.shift (d : Nat) : LO → LO
  | .arr sz rows => .arr sz (rows.map fun r => r.map (LV.shift d))
  | .map es => .map (es.map fun p => (p.1, p.2.shift d))
  | .loop l st pend n m ps as bd => .loop l st pend n (m.map fun p => (p.1, p.2.shift d)) ps as bd
  | .iter es seen => .iter es seen
def shiftO (d : Nat) : List (Nat × LO) → List (Nat × LO)
  | [] => []
  | (t, o) :: r => (d + t, o.shift d) :: shiftO d r
theorem look_shiftO (d t : Nat) : ∀ l, look (d + t) (shiftO d l) = (look t l).map (LO.shift d)
  | [] => rfl
  | (k, o) :: r => by
    simp only [shiftO, look]
    by_cases e : k = t
    · subst e; simp
    · rw [if_neg (by omega), if_neg e, look_shiftO d t r]
theorem look_shiftO_low (d t : Nat) (h : t < d) : ∀ l, look t (shiftO d l) = none
  | [] => rfl
  | (k, o) :: r => by
    simp only [shiftO, look]
    rw [if_neg (by omega), look_shiftO_low d t h r]

theorem VRel.shift {E E' : Env} {w : World} {d : Nat} (hf : ∀ id, E'.f (d + id) = E.f id) (hU : ∀ id, E.U id → E'.U (d + id)) (hp : ∀ b, Prot E w b → Prot E' w b ∧ w.heap[b]? = w.heap[b]?) {v : LV} {V : Value} (h : VRel E w v V) : VRel E' w (v.shift d) V := by
  induction h with
  | pv p V h => rw [LV.shift]; exact .pv p V (h.mono hp)
  | own id m off len V h1 h2 h => rw [LV.shift]; exact .own _ m off len V (hU id h1) h2 (by rw [hf id]; exact h)
  | ptr id m i j V h1 h2 h => rw [LV.shift]; exact .ptr _ m i j V (hU id h1) h2 (by rw [hf id]; exact h)
  | rp sz rows i j a g hs ht hc hv =>
    rw [LV.shift]
    exact .rp sz rows i j a g hs ⟨ht.1, (hp _ ht.2).1⟩ hc (fun j hj => (hv j hj).mono hp)
  | agg l Vs hl h ih =>
    rw [LV.shift, shifts_map]
    refine .agg _ Vs (by simpa using hl) fun i h1 h2 => ?_
    rw [List.getElem_map]; exact ih i (by simpa using h1) h2
  | tup l Vs hl h ih =>
    rw [LV.shift, shifts_map]
    refine .tup _ Vs (by simpa using hl) fun i h1 h2 => ?_
    rw [List.getElem_map]; exact ih i (by simpa using h1) h2
  | fn f l Vs hl h ih =>
    rw [LV.shift, shifts_map]
    refine .fn f _ Vs (by simpa using hl) fun i h1 h2 => ?_
    rw [List.getElem_map]; exact ih i (by simpa using h1) h2
  | mp id V h1 h2 h => rw [LV.shift]; exact .mp _ V (hU id h1) h2 (by rw [hf id]; exact h)

theorem ORel.shift {E E' : Env} {w : World} {d : Nat} (hf : ∀ id, E'.f (d + id) = E.f id) (hU : ∀ id, E.U id → E'.U (d + id)) (hp : ∀ b, Prot E w b → Prot E' w b ∧ w.heap[b]? = w.heap[b]?) {L : Loc} {o : LO} (h : ORel E w L o) : ORel E' w L (o.shift d) := by
  cases o with
  | arr sz rows =>
    obtain ⟨h1, h2, h3, h4⟩ := h
    have hfl : (rows.map fun r => r.map (LV.shift d)).flatten = rows.flatten.map (LV.shift d) := by rw [List.map_flatten]
    refine ⟨h1, by rw [List.length_map]; exact h2, fun r hr => ?_, ?_⟩
    · obtain ⟨r0, h0, rfl⟩ := List.mem_map.1 hr
      rw [List.length_map]; exact h3 r0 h0
    · rcases h4 with h4 | ⟨b, C, g1, g2, g3, g4, g5, g6⟩
      · exact .inl h4
      · refine .inr ⟨b, C, g1, g2, g3, g4, g5, fun j hj => ?_⟩
        rw [hfl, List.length_map] at hj
        obtain ⟨V, k1, k2, k3⟩ := g6 j hj
        refine ⟨V, k1, k2, ?_⟩
        have : (rows.map fun r => r.map (LV.shift d)).flatten[j]'(by rw [hfl, List.length_map]; exact hj) = LV.shift d rows.flatten[j] := by simp only [hfl, List.getElem_map]
        rw [this]
        exact k3.shift hf hU hp
  | map es =>
    obtain ⟨h1, b, kvs, clock, g1, g2, g3, g4, g5, g6⟩ := h
    refine ⟨h1, b, kvs, clock, g1, g2, by rw [List.length_map]; exact g3, fun j hj => ?_, g5, g6⟩
    rw [List.length_map] at hj
    obtain ⟨e, k1, k2, k3, k4⟩ := g4 j hj
    refine ⟨e, k1, ?_, k3, ?_⟩
    · rw [List.getElem_map]; exact k2
    · rw [List.getElem_map]; exact k4.shift hf hU hp
  | loop l st pend n m ps as bd =>
    obtain ⟨h1, h2, r, g1, g2, g3, g4, g5, g6, g7, g8⟩ := h
    refine ⟨h1, h2, r, g1, g2, g3, g4, g5, g6, g7, fun t v hm => ?_⟩
    rw [look_mapv] at hm
    cases hl : look t m with
    | none => rw [hl] at hm; cases hm
    | some u => rw [hl] at hm; obtain rfl := Option.some.inj hm; exact (g8 t u hl).shift hf hU hp
  | iter es seen => exact ⟨h.1, h.2.1, h.2.2.imp hp (fun _ _ => rfl)⟩

/-- What a call that is given nothing of ours hands back of its own: a value, and objects. -/
def Own (P : Program) (f : FuncId) (args : List LV) (u : LV) (k : Nat) (mo : List (Nat × LO)) : Prop :=
  LCalls P f args (fun v σ => v = u ∧ σ.nx ≤ k ∧ ∀ id o, look id mo = some o → look id σ.m = some o) ⟨0, []⟩

theorem Own.call {P : Program} {f : FuncId} {args : List LV} {u : LV} {k : Nat} {mo : List (Nat × LO)} (h : Own P f args u k mo) (ha : args.all (·.under 0) = true) (nx : Nat) (m : List (Nat × LO)) : LCalls P f args (fun v σ' => v = u.shift nx ∧ σ' = ⟨nx + k, shiftO nx mo ++ m⟩) ⟨nx, m⟩ := by
  intro E w Vs h1 h2
  have h0 : Sim ⟨fun _ => none, fun _ => False, fun b => E.F b ∨ E.Own b⟩ w ⟨0, []⟩ := by
    refine ⟨by simp, by simp, by simp, ?_, by simp, by simp [LSt.get, look]⟩
    rintro b (hb | ⟨id, L, hL, e⟩)
    · exact h1.flow b hb
    · exact (h1.low id L b hL e).1
  have hown : ∀ b, ¬ Env.Own ⟨fun _ => none, fun _ => False, fun b => E.F b ∨ E.Own b⟩ b := by rintro b ⟨id, L, hL, e⟩; cases hL
  have hp : ∀ b, Prot E w b → Prot ⟨fun _ => none, fun _ => False, fun b => E.F b ∨ E.Own b⟩ w b ∧ w.heap[b]? = w.heap[b]? := by
    rintro b ⟨g1, g2, g3⟩
    exact ⟨⟨g1, hown b, fun k => k.elim g3 g2⟩, rfl⟩
  refine (h _ w Vs h0 ⟨h2.1, fun i i1 i2 => (h2.2 i i1 i2).move (n := 0) (by simp) (fun id hi => absurd hi (Nat.not_lt_zero _)) hp ?_⟩).mono ?_
  · rw [List.all_eq_true] at ha; exact ha _ (List.getElem_mem i1)
  · rintro e w' ⟨v, V, E1, σ1, rfl, g1, g2, g3, rfl, g4, g5⟩
    have hF : E1.F = fun b => E.F b ∨ E.Own b := g1.F
    have hheap : ∀ b, b < w.heap.size → w'.heap[b]? = w.heap[b]? ∧ ¬ E1.Own b := fun b hb => g1.heap b hb (hown b)
    have hnx : ∀ id, E.U id → id < nx := h1.nx
    have cases_f : ∀ id L, (if id < nx then E.f id else E1.f (id - nx)) = some L → (id < nx ∧ E.f id = some L) ∨ (nx ≤ id ∧ E1.f (id - nx) = some L) := by
      intro id L h
      split at h
      · exact .inl ⟨‹_›, h⟩
      · exact .inr ⟨by omega, h⟩
    have hlow : ∀ id L b, E.f id = some L → L.blk = some b → b < w.heap.size := fun id L b hL e => (h1.low id L b hL e).1
    have hX : Ext E w ⟨fun id => if id < nx then E.f id else E1.f (id - nx), fun id => (id < nx ∧ E.U id) ∨ (nx ≤ id ∧ E1.U (id - nx)), E.F⟩ w' := by
      refine ⟨fun id hu => .inl ⟨hnx id hu, hu⟩, rfl, fun id L' h hu => ?_, fun b hb ho => ⟨(hheap b hb).1, ?_⟩, g1.size, g1.os, g1.output⟩
      · have := hnx id hu
        simp only [if_pos this] at h
        exact ⟨L', h, Nat.le_refl _, fun _ => rfl⟩
      · rintro ⟨id, L, hL, e⟩
        rcases cases_f id L hL with ⟨_, h⟩ | ⟨_, h⟩
        · exact ho ⟨id, L, h, e⟩
        · exact (hheap b hb).2 ⟨_, L, h, e⟩
    have hfs : ∀ id, (fun id => if id < nx then E.f id else E1.f (id - nx)) (nx + id) = E1.f id := by
      intro id
      simp only
      rw [if_neg (by omega), Nat.add_sub_cancel_left]
    have hUs : ∀ id, E1.U id → (fun id => (id < nx ∧ E.U id) ∨ (nx ≤ id ∧ E1.U (id - nx))) (nx + id) := by
      intro id hu
      exact .inr ⟨by omega, by rw [Nat.add_sub_cancel_left]; exact hu⟩
    have hprot : ∀ b, Prot E1 w' b → Prot ⟨fun id => if id < nx then E.f id else E1.f (id - nx), fun id => (id < nx ∧ E.U id) ∨ (nx ≤ id ∧ E1.U (id - nx)), E.F⟩ w' b ∧ w'.heap[b]? = w'.heap[b]? := by
      rintro b ⟨p1, p2, p3⟩
      rw [hF] at p3
      refine ⟨⟨p1, ?_, fun h => p3 (.inl h)⟩, rfl⟩
      rintro ⟨id, L, hL, e⟩
      rcases cases_f id L hL with ⟨_, h⟩ | ⟨_, h⟩
      · exact p3 (.inr ⟨id, L, h, e⟩)
      · exact p2 ⟨_, L, h, e⟩
    refine ⟨_, V, _, _, rfl, hX, ⟨?_, ?_, ?_, ?_, ?_, ?_⟩, g3.shift hfs hUs hprot, rfl, rfl⟩
    · intro id L h
      rcases cases_f id L h with ⟨a, h⟩ | ⟨a, h⟩
      · exact .inl ⟨a, h1.fresh id L h⟩
      · exact .inr ⟨a, g2.fresh _ L h⟩
    · intro i i' L L' b h h' e e'
      rcases cases_f i L h with ⟨a, h⟩ | ⟨a, h⟩ <;> rcases cases_f i' L' h' with ⟨a', h'⟩ | ⟨a', h'⟩
      · exact h1.sep i i' L L' b h h' e e'
      · exact absurd ⟨_, L', h', e'⟩ (hheap b (hlow i L b h e)).2
      · exact absurd ⟨_, L, h, e⟩ (hheap b (hlow i' L' b h' e')).2
      · have := g2.sep _ _ L L' b h h' e e'; omega
    · intro id L b h e
      rcases cases_f id L h with ⟨a, h⟩ | ⟨a, h⟩
      · obtain ⟨k1, k2⟩ := h1.low id L b h e
        exact ⟨Nat.lt_of_lt_of_le k1 g1.size, k2⟩
      · obtain ⟨k1, k2⟩ := g2.low _ L b h e
        rw [hF] at k2
        exact ⟨k1, fun h => k2 (.inl h)⟩
    · exact fun b hb => Nat.lt_of_lt_of_le (h1.flow b hb) g1.size
    · rintro id (⟨a, h⟩ | ⟨a, h⟩)
      · show id < nx + k; omega
      · have := g2.nx _ h
        show id < nx + k; omega
    · intro id o ho
      simp only [LSt.get, look_append] at ho
      by_cases c : id < nx
      · rw [look_shiftO_low nx id c] at ho
        obtain ⟨L, k1, k2⟩ := h1.obj id o ho
        exact ⟨L, by simp only [if_pos c]; exact k1, k2.mono hX fun b hb => (hheap b (hlow id L b k1 hb)).1⟩
      · obtain ⟨j, rfl⟩ : ∃ j, id = nx + j := ⟨id - nx, by omega⟩
        rw [look_shiftO] at ho
        cases hj : look j mo with
        | some o' =>
          simp only [hj, Option.map_some, Option.some.injEq] at ho
          subst ho
          obtain ⟨L, k1, k2⟩ := g2.obj j o' (g5 j o' hj)
          exact ⟨L, (hfs j).trans k1, k2.shift hfs hUs hprot⟩
        | none =>
          simp only [hj, Option.map_none] at ho
          obtain ⟨L, k1, _⟩ := h1.obj (nx + j) o ho
          have := hnx _ (h1.fresh _ L k1)
          omega
theorem oF_shift {α : Type} (f : α → List PV) (l : List α) (d : Nat) : (oF f l).map (fun r => r.map (LV.shift d)) = oF f l := by
  simp [oF, rF, LV.shift]
attribute [go_sem] oF_shift LV.shift LV.shifts LO.shift shiftO
end Go.Lw

set_option linter.unusedVariables false
set_option linter.unusedSimpArgs false
namespace Go.Lw

mutual
/-- It names no memory. -/
def LV.flat : LV → Bool
  | .pv (.sc _) => true
  | .pv (.ro _ _ _) => false
  | .pv (.rm _) => false
  | .pv (.rmx _ _) => false
  | .agg l => LV.flats l
  | .tup l => LV.flats l
  | .own _ _ _ _ => false
  | .ptr _ _ _ _ => false
  | .rp _ _ _ _ => false
  | .fn _ _ => false
  | .mp _ => false
def LV.flats : List LV → Bool
  | [] => true
  | x :: r => x.flat && LV.flats r
end
theorem flats_all : ∀ l : List LV, LV.flats l = l.all (·.flat)
  | [] => rfl
  | x :: r => by simp [LV.flats, flats_all r]
theorem VRel.flat {E E' : Env} {w w' : World} {v : LV} {V : Value} (h : VRel E w v V) (hf : v.flat = true) : VRel E' w' v V := by
  induction h with
  | pv p V h =>
    cases h with
    | sc v => exact .pv _ _ (.sc _)
    | ronil => simp [LV.flat] at hf
    | ro => simp [LV.flat] at hf
    | rm => simp [LV.flat] at hf
    | rmx => simp [LV.flat] at hf
  | agg l Vs hl h ih =>
    rw [LV.flat, flats_all, List.all_eq_true] at hf
    exact .agg l Vs hl fun i h1 h2 => ih i h1 h2 (hf _ (List.getElem_mem h1))
  | tup l Vs hl h ih =>
    rw [LV.flat, flats_all, List.all_eq_true] at hf
    exact .tup l Vs hl fun i h1 h2 => ih i h1 h2 (hf _ (List.getElem_mem h1))
  | own => simp [LV.flat] at hf
  | ptr => simp [LV.flat] at hf
  | rp => simp [LV.flat] at hf
  | fn => simp [LV.flat] at hf
  | mp => simp [LV.flat] at hf

theorem ArgsR.frzs {E : Env} {w : World} {σ : LSt} (hS : Sim E w σ) {args : List LV} {Vs : List Value} (h : ArgsR E w args Vs) : ArgsR E.clear w (frzs σ args) Vs := by
  refine ⟨by rw [frzs_map, List.length_map]; exact h.1, fun i i1 i2 => ?_⟩
  have i3 : i < args.length := by rw [frzs_map, List.length_map] at i1; exact i1
  have e : (Lw.frzs σ args)[i] = frz σ args[i] := by simp only [frzs_map, List.getElem_map]
  rw [e]
  exact frz_sound hS (h.2 i i3 i2)

/-- A contract serves where arrays of our own are given that it only reads, as long as it hands back nothing that names memory. -/
theorem LCalls.borrow {P : Program} {f : FuncId} {args : List LV} {v : LV} {σ : LSt} (h : Fun P f (frzs σ args) v) (ha : (frzs σ args).all (·.under 0) = true) (hv : v.flat = true) : LCalls P f args (fun u σ' => u = v ∧ σ' = σ) σ := by
  intro E w Vs h1 h2
  have h0 : Sim ⟨fun _ => none, fun _ => False, E.F⟩ w ⟨0, []⟩ :=
    ⟨by simp, by simp, by simp, h1.flow, by simp, by simp [LSt.get, look]⟩
  have hown : ∀ b, ¬ Env.Own ⟨fun _ => none, fun _ => False, E.F⟩ b := by rintro b ⟨id, L, hL, e⟩; cases hL
  have hp : ∀ b, Prot E.clear w b → Prot ⟨fun _ => none, fun _ => False, E.F⟩ w b ∧ w.heap[b]? = w.heap[b]? := by
    rintro b ⟨g1, g2, g3⟩
    exact ⟨⟨g1, hown b, g3⟩, rfl⟩
  have h3 := ArgsR.frzs h1 h2
  refine (h _ w Vs h0 ⟨h3.1, fun i i1 i2 => (h3.2 i i1 i2).move (n := 0) (by simp) (fun id hi => absurd hi (Nat.not_lt_zero _)) hp ?_⟩).mono ?_
  · rw [List.all_eq_true] at ha; exact ha _ (List.getElem_mem i1)
  · rintro e w' ⟨u, V, E', σ', rfl, g1, g2, g3, g4⟩
    subst g4
    have hheap : ∀ b, b < w.heap.size → w'.heap[b]? = w.heap[b]? := fun b hb => (g1.heap b hb (hown b)).1
    have hX : Ext E w E w' := by
      refine ⟨fun _ h => h, rfl, fun id L' h _ => ⟨L', h, Nat.le_refl _, fun _ => rfl⟩, fun b hb ho => ⟨hheap b hb, ho⟩, g1.size, g1.os, g1.output⟩
    refine ⟨u, V, E, σ, rfl, hX, ?_, g3.flat hv, rfl, rfl⟩
    refine ⟨h1.fresh, h1.sep, fun id L b hL e => ?_, fun b hb => Nat.lt_of_lt_of_le (h1.flow b hb) g1.size, h1.nx, fun id o ho => ?_⟩
    · obtain ⟨k1, k2⟩ := h1.low id L b hL e
      exact ⟨Nat.lt_of_lt_of_le k1 g1.size, k2⟩
    · obtain ⟨L, k1, k2⟩ := h1.obj id o ho
      exact ⟨L, k1, k2.mono hX fun b hb => hheap b (h1.low id L b k1 hb).1⟩

section
variable {P : Program} {ops : Array Oper} {Q : Exit → LAct → LSt → Prop} {rest : List Oper} {n : Nat} {m : List (Nat × LV)} {σ : LSt} {d : Nat} {op : Op} {ty : TypeId} {pos : String} {af : Array Edge} {g : Option (Nat × Bool)} {v : LV}
theorem LOps.borrowFn (hw : Goes ops m g true) {tv : List (Nat × LV)} (hl : readB m (tmpsOf op) = some tv) (hd : Nat.blt d n = true) {f : FuncId} {args args2 : List LV} (hg : lcalleeE op ⟨n, tv⟩ = some (f, args)) (hc : callable P f = true)
    (he : frzs σ args = args2) (h : Fun P f args2 v) (ha : args2.all (·.under 0) = true) (hv : v.flat = true) (hr : LOps P ops Q rest ⟨n, (d, v) :: m⟩ σ) : LOps P ops Q (⟨some d, op, ty, pos, af, g⟩ :: rest) ⟨n, m⟩ σ := by
  subst he
  refine LOps.locCall hw hl (fun k hk => by cases hk; exact bltE hd) hg hc ((LCalls.borrow h ha hv).mono ?_)
  rintro u σ' ⟨rfl, rfl⟩
  exact LOps.weaken (fun _ _ => look_cons_upd) hr
end

/-- What a call hands back of its own, at our numbers. -/
theorem Own.at {P : Program} {f : FuncId} {args : List LV} {u u' : LV} {k nx nx' : Nat} {mo m mo' : List (Nat × LO)} (h : Own P f args u k mo) (ha : args.all (·.under 0) = true) (hu : u.shift nx = u') (hn : nx + k = nx') (hm : shiftO nx mo ++ m = mo') : LCalls P f args (fun v σ' => v = u' ∧ σ' = ⟨nx', mo'⟩) ⟨nx, m⟩ := by
  subst hu; subst hn; subst hm
  exact Own.call h ha nx m
/-- How a walk ends that hands back objects of its own. -/
theorem Own.end {u v : LV} {k nx : Nat} {mo m : List (Nat × LO)} {ks : List Nat} (hu : v = u) (hn : Nat.ble nx k = true) (hks : mo.map (·.1) = ks) (hm : readB m ks = some mo) : v = u ∧ (⟨nx, m⟩ : LSt).nx ≤ k ∧ ∀ id o, look id mo = some o → look id (⟨nx, m⟩ : LSt).m = some o := by
  refine ⟨hu, Nat.le_of_ble_eq_true hn, fun id o h => ?_⟩
  subst hks
  have hl := readB_look _ _ _ hm
  exact hl (id, o) (look_mem id o mo h)
/-- A slice of which it is not known whether it is nil: two ways, for whatever is owed. -/
theorem LCalls.kind {P : Program} {f : FuncId} {sz : Nat} {rows : List (List PV)} {l r : List LV} {Q : LV → LSt → Prop} {σ : LSt} (h0 : rows = [] → LCalls P f (l ++ .pv (.ro .nil sz []) :: r) Q σ) (h1 : LCalls P f (l ++ .pv (.ro .loose sz rows) :: r) Q σ) : LCalls P f (l ++ .pv (.ro .any sz rows) :: r) Q σ := by
  intro E w Vs hS hA
  have hlen : l.length < (l ++ .pv (.ro .any sz rows) :: r).length := by simp
  have hlv : l.length < Vs.length := by rw [← hA.1]; exact hlen
  have hx := hA.2 l.length hlen hlv
  rw [List.getElem_append_right (Nat.le_refl _)] at hx
  simp only [Nat.sub_self, List.getElem_cons_zero] at hx
  have put : ∀ u : LV, VRel E w u (Vs[l.length]) → ArgsR E w (l ++ u :: r) Vs := by
    intro u hu
    refine ⟨by have := hA.1; simpa using this, fun i i1 i2 => ?_⟩
    have hi := hA.2 i (by simpa using i1) i2
    rcases Nat.lt_trichotomy i l.length with c | c | c
    · rw [List.getElem_append_left c] at hi ⊢; exact hi
    · subst c
      rw [List.getElem_append_right (Nat.le_refl _)]
      simp only [Nat.sub_self, List.getElem_cons_zero]
      exact hu
    · rw [List.getElem_append_right (by omega)] at hi ⊢
      obtain ⟨j, hj⟩ : ∃ j, i - l.length = j + 1 := ⟨i - l.length - 1, by omega⟩
      simp only [hj, List.getElem_cons_succ] at hi ⊢
      exact hi
  generalize hV : Vs[l.length] = V at hx put
  cases hx with
  | pv _ _ hp =>
    cases hp with
    | ronil => exact h0 rfl E w Vs hS (put _ (.pv _ _ (.ronil _ _ (.inl rfl))))
    | ro k sz rows a cap g hk hm hs hb hc hv =>
      refine h1 E w Vs hS (put _ (.pv _ _ (.ro _ _ rows a cap g (.inr ⟨by simp, by simp, by simp, ?_⟩) hm hs hb hc hv)))
      rcases hk with ⟨_, h⟩ | ⟨_, _, _, h⟩ <;> omega
attribute [go_sem] frz frzs frz1
end Go.Lw
namespace Go.Lw
/-- A nil slice handed back is an array of its own without rows. -/
theorem LCalls.own0 {P : Program} {f : FuncId} {args : List LV} {σ : LSt} {nx : Nat} {m : List (Nat × LO)} (sz : Nat) (h : LCalls P f args (fun v σ' => v = .pv (.sc (.slice none 0 0)) ∧ σ' = ⟨nx, m⟩) σ) : LCalls P f args (fun v σ' => v = .own nx 0 0 0 ∧ σ' = ⟨nx + 1, upd nx (.arr sz []) m⟩) σ := by
  intro E w Vs h1 h2
  refine (h E w Vs h1 h2).mono ?_
  rintro e w' ⟨u, V, E', σ', rfl, g1, g2, g3, rfl, rfl⟩
  obtain ⟨k1, k2⟩ := g2.nilObj sz 0
  refine ⟨_, V, _, _, rfl, g1.trans k1, k2, ?_, rfl, rfl⟩
  obtain rfl := g3.sc_inv
  refine .own _ _ _ _ _ (.inl rfl) ⟨none, 0, 0, rfl⟩ (fun L hL => ?_)
  simp only [Env.put, if_true, Option.some.injEq] at hL
  subst hL
  exact ⟨Nat.le_refl _, fun _ => ⟨⟨none, rfl⟩, rfl, rfl⟩⟩
end Go.Lw

set_option linter.unusedVariables false
set_option linter.unusedSimpArgs false
namespace Go.Lw

def sl2 (P : Program) (t : TypeId) (σ : LSt) (v : LV) (lo hi : Option Value) : Option (LV × LSt) :=
  match telem P t with
  | some e => match tsize P e with
    | some s => match v with
      | .own id n off len => match σ.arr id n, loB lo, hi with
        | some (sz, _), some l, some (.int _ h) => if sz = s ∧ 0 ≤ h ∧ l ≤ h.toNat ∧ off + h.toNat ≤ n ∧ off + len ≤ n then some (.own id n (off + l) (h.toNat - l), σ) else none
        | _, _, _ => none
      | _ => none
    | none => none
  | none => none
def sl3 (P : Program) (t : TypeId) (σ : LSt) (v : LV) (lo hi mx : Option Value) : Option Bool :=
  match telem P t with
  | some e => match tsize P e with
    | some s => match v with
      | .own id n off len => match σ.arr id n, lo, hi, mx with
        | some (sz, _), some (.int _ l), some (.int _ h), some (.int _ k) => if sz = s ∧ 0 ≤ l ∧ l ≤ h ∧ h ≤ k ∧ off + k.toNat ≤ n ∧ off + len ≤ n then some true else none
        | _, _, _, _ => none
      | _ => none
    | none => none
  | none => none
def sl2E (P : Program) (op : Op) (a : LAct) (σ : LSt) : Option (LV × LSt) :=
  match op with
  | .slice t x lo hi none => match a.ev x, scV lo a, scV hi a with
    | some v, some lo, some hi => sl2 P t σ v lo hi
    | _, _, _ => none
  | _ => none
def sl3E (P : Program) (op : Op) (a : LAct) (σ : LSt) : Option Bool :=
  match op with
  | .slice t x lo hi (some mx) => match a.ev x, scV lo a, scV hi a, scV (some mx) a with
    | some v, some lo, some hi, some mx => sl3 P t σ v lo hi mx
    | _, _, _, _ => none
  | _ => none
attribute [go_sem] sl2 sl3 sl2E sl3E

theorem own_cap {E : Env} {w : World} {σ : LSt} (hS : Sim E w σ) {id sz n off len : Nat} {rows : List (List LV)} {V : Value} (hv : VRel E w (.own id n off len) V) (hg : σ.get id = some (.arr sz rows)) (hn : rows.length = n) (hle : off + len ≤ n) :
    ∃ L a cap, E.f id = some L ∧ L.sz = sz ∧ L.n = n ∧ V = .slice a len cap ∧ n - off ≤ cap ∧ ((L.blk = none ∧ n = 0 ∧ cap = 0) ∨ ∃ b a', L.blk = some b ∧ a = some a' ∧ cap = L.cap - off ∧ n ≤ L.cap ∧ (0 < L.cap - off → a' = ⟨b, off * L.sz, none⟩)) := by
  obtain ⟨L, l1, l2, l3, l4⟩ := own_val hS hv hg hn
  obtain ⟨L', q1, q2, q3, q4, q5⟩ := hS.obj id _ hg
  obtain rfl : L = L' := by rw [l1] at q1; simpa using q1
  unfold Loc.isSlice at l4
  rcases q5 with ⟨e, e2, e3⟩ | ⟨b, C, e1, e2, e3, e4, e5, e6⟩
  · rw [e] at l4
    obtain ⟨⟨a, rfl⟩, h0, h1⟩ := l4
    exact ⟨L, a, 0, l1, l2, l3, by rw [h1], by omega, .inl ⟨e, by omega, rfl⟩⟩
  · rw [e1] at l4
    obtain ⟨r1, a, rfl, r2⟩ := l4
    exact ⟨L, some a, L.cap - off, l1, l2, l3, rfl, by omega, .inr ⟨b, a, e1, rfl, rfl, by omega, r2⟩⟩

theorem bounds2 {P : Program} {w : World} {len cap l : Nat} {h : Int} {hk : IntKind} {lo : Option Value} (hl : loB lo = some l) (h0 : 0 ≤ h) (h1 : l ≤ h.toNat) (h2 : h.toNat ≤ cap) : (Instr.sliceBounds true len cap lo (some (.int hk h)) none).run P w = .ok (l, h.toNat, cap) w := by
  have e2 : (0 ≤ h ∧ h ≤ (cap : Int)) := ⟨h0, by omega⟩
  unfold loB at hl
  cases lo with
  | none =>
    simp only [Option.some.injEq] at hl
    subst hl
    simp [Instr.sliceBounds, Instr.sliceBound, asIntOf, Sem.run_bind, e2]
  | some v =>
    cases v <;> simp only [reduceCtorEq] at hl
    split at hl <;> simp only [Option.some.injEq, reduceCtorEq] at hl
    rename_i i hi0
    subst hl
    have e1 : (0 ≤ i ∧ i ≤ h) := ⟨hi0, by omega⟩
    have e3 : (0 ≤ i ∧ i ≤ ((h.toNat : Nat) : Int)) := ⟨hi0, by omega⟩
    simp [Instr.sliceBounds, Instr.sliceBound, asIntOf, Sem.run_bind, e2, e1, e3]
    try omega
theorem bounds3 {P : Program} {w : World} {len cap : Nat} {l h k : Int} {lk hk mk : IntKind} (h0 : 0 ≤ l) (h1 : l ≤ h) (h2 : h ≤ k) (h3 : k.toNat ≤ cap) : (Instr.sliceBounds true len cap (some (.int lk l)) (some (.int hk h)) (some (.int mk k))).run P w = .ok (l.toNat, h.toNat, k.toNat) w := by
  have e1 : (0 ≤ k ∧ k ≤ (cap : Int)) := ⟨by omega, by omega⟩
  have e2 : (0 ≤ h ∧ h ≤ ((k.toNat : Nat) : Int)) := ⟨by omega, by omega⟩
  have e3 : (0 ≤ l ∧ l ≤ ((h.toNat : Nat) : Int)) := ⟨by omega, by omega⟩
  have e4 : max h 0 = h := by omega
  have e5 : max k 0 = k := by omega
  simp [Instr.sliceBounds, Instr.sliceBound, asIntOf, Sem.run_bind, e1, e2, e3, e4, e5, h0, h1, h2]
  try omega

theorem sl2_sound {P : Program} {t : TypeId} {E : Env} {w : World} {σ σ' : LSt} (hS : Sim E w σ) {v u : LV} {V : Value} (hv : VRel E w v V) {lo hi : Option Value} (h : sl2 P t σ v lo hi = some (u, σ')) : σ' = σ ∧ ∃ U, (Instr.sliceAt t V lo hi none).run P w = .ok U w ∧ VRel E w u U := by
  unfold sl2 at h
  split at h
  case h_2 => cases h
  rename_i e he
  split at h
  case h_2 => cases h
  rename_i s hs
  split at h
  case h_2 => cases h
  rename_i id n off len
  split at h
  case h_2 => cases h
  rename_i sz rows l k hh ha hl
  split at h
  case isFalse => cases h
  rename_i hc
  obtain ⟨rfl, c0, c1, c2, c3⟩ := hc
  simp only [Option.some.injEq, Prod.mk.injEq] at h
  obtain ⟨rfl, rfl⟩ := h
  refine ⟨rfl, ?_⟩
  obtain ⟨g1, g2⟩ := arr_inv ha
  have hU : E.U id := by cases hv; assumption
  obtain ⟨L, a, cap, l1, l2, l3, rfl, hcap, hcase⟩ := own_cap hS hv g1 g2 c3
  have hu := telem_inv he
  refine ⟨.slice (if cap = l then a else a.map (·.add (l * sz))) (hh.toNat - l) (cap - l), ?_, ?_⟩
  · simp only [Instr.sliceAt, Sem.run_bind, run_underlying hu, Result.andThen_ok, Instr.slice, bounds2 hl c0 c1 (show hh.toNat ≤ cap by omega), run_size hs, Sem.run_pure]
  · refine .own _ _ _ _ _ hU ⟨_, _, _, rfl⟩ fun L' hL => ?_
    obtain rfl : L = L' := by rw [l1] at hL; simpa using hL
    refine ⟨by omega, fun _ => ?_⟩
    unfold Loc.isSlice
    rcases hcase with ⟨e, e2, e3⟩ | ⟨b, a', e1, rfl, e3, e4, e5⟩
    · rw [e]
      refine ⟨⟨if cap = l then a else a.map (·.add (l * sz)), ?_⟩, by omega, by omega⟩
      rw [show hh.toNat - l = 0 by omega, show cap - l = 0 by omega]
    · rw [e1]
      refine ⟨by omega, ?_⟩
      by_cases e : cap = l
      · rw [if_pos e]; exact ⟨a', by rw [show cap - l = L.cap - (off + l) by omega], fun hp => by omega⟩
      · rw [if_neg e]
        refine ⟨a'.add (l * sz), by rw [show cap - l = L.cap - (off + l) by omega]; rfl, fun hp => ?_⟩
        obtain rfl := e5 (by omega)
        rw [addr_add, Nat.add_mul, l2]

theorem sl3_sound {bb : Bool} {P : Program} {t : TypeId} {E : Env} {w : World} {σ : LSt} (hS : Sim E w σ) {v : LV} {V : Value} (hv : VRel E w v V) {lo hi mx : Option Value} (h : sl3 P t σ v lo hi mx = some bb) : ∃ U, (Instr.sliceAt t V lo hi mx).run P w = .ok U w := by
  unfold sl3 at h
  split at h
  case h_2 => cases h
  rename_i e he
  split at h
  case h_2 => cases h
  rename_i s hs
  split at h
  case h_2 => cases h
  rename_i id n off len
  split at h
  case h_2 => cases h
  rename_i sz rows k1 l k2 h' k3 k ha
  split at h
  case isFalse => cases h
  rename_i hc
  obtain ⟨rfl, c0, c1, c2, c3, c4⟩ := hc
  obtain ⟨g1, g2⟩ := arr_inv ha
  obtain ⟨L, a, cap, l1, l2, l3, rfl, hcap, hcase⟩ := own_cap hS hv g1 g2 c4
  have hu := telem_inv he
  refine ⟨.slice (if k.toNat = l.toNat then a else a.map (·.add (l.toNat * sz))) (h'.toNat - l.toNat) (k.toNat - l.toNat), ?_⟩
  simp only [Instr.sliceAt, Sem.run_bind, run_underlying hu, Result.andThen_ok, Instr.slice, bounds3 c0 c1 c2 (show k.toNat ≤ cap by omega), run_size hs, Sem.run_pure]

section
variable {P : Program} {ops : Array Oper} {Q : Exit → LAct → LSt → Prop} {n : Nat} {m : List (Nat × LV)} {σ σ' : LSt} {rest : List Oper} {d : Nat} {op : Op} {ty : TypeId} {pos : String} {af : Array Edge} {g : Option (Nat × Bool)} {v : LV}
/-- A part of an array of our own, past the part's length. -/
theorem LOps.sliceUp (hw : Goes ops m g true) {tv : List (Nat × LV)} (hl : readB m (tmpsOf op) = some tv) (hd : Nat.blt d n = true) (h : sl2E P op ⟨n, tv⟩ σ = some (v, σ')) (hr : LOps P ops Q rest ⟨n, (d, v) :: m⟩ σ') : LOps P ops Q (⟨some d, op, ty, pos, af, g⟩ :: rest) ⟨n, m⟩ σ := by
  refine LOps.step (a := ⟨n, m⟩) hw.wanted (fun k hk => by cases hk; exact bltE hd) (fun E w A h1 h2 => ?_) (LOps.weaken (fun _ _ => look_cons_upd) hr)
  have hA := (readB_eq hl).ar h2
  unfold sl2E at h
  split at h
  case h_2 => cases h
  rename_i t x lo hi
  split at h
  case h_2 => cases h
  rename_i u lo' hi' hu hlo hhi
  obtain ⟨rfl, U, k1, k2⟩ := sl2_sound (P := P) h1 (hA.ev hu) h
  exact ⟨U, w, E, .inl (by simp [execOp, Sem.run_bind, scV_sound hA hlo, scV_sound hA hhi, k1]), .refl _ _, h1, k2⟩
/-- Bounds that are only looked at. -/
theorem LOps.bounds {bb : Bool} (hw : Goes ops m g true) {tv : List (Nat × LV)} (hl : readB m (tmpsOf op) = some tv) (hd : Nat.blt d n = true) (hu : lookB d m = none) (h : sl3E P op ⟨n, tv⟩ σ = some bb) (hr : LOps P ops Q rest ⟨n, m⟩ σ) : LOps P ops Q (⟨some d, op, ty, pos, af, g⟩ :: rest) ⟨n, m⟩ σ := by
  intro r E w A h1 h2 h3
  have hA := (readB_eq hl).ar h2
  have hx : ∃ U, (execOp A.eval ⟨some d, op, ty, pos, af, g⟩).run P w = .ok (.value U) w := by
    unfold sl3E at h
    split at h
    case h_2 => cases h
    rename_i t x lo hi mx
    split at h
    case h_2 => cases h
    rename_i u lo' hi' mx' hu hlo hhi hmx
    obtain ⟨U, k1⟩ := sl3_sound (P := P) h1 (hA.ev hu) h
    have e3 := scV_sound hA hmx
    exact ⟨U, by simp [execOp, Sem.run_bind, scV_sound hA hlo, scV_sound hA hhi, e3, k1]⟩
  obtain ⟨U, hx⟩ := hx
  have hd' : d < n := bltE hd
  have hwt := hw.wanted (o := ⟨some d, op, ty, pos, af, g⟩) (a := ⟨n, m⟩)
  refine wpList_value (wanted_of h2 hwt) (.inl hx) ?_
  have h4 : AR E w ⟨n, m⟩ (A.put (some d) U) := by
    refine ⟨by simpa [Act.put] using h2.1, fun t v hv => ?_⟩
    have hne : t ≠ d := by rintro rfl; rw [lookB_eq] at hu; rw [hu] at hv; cases hv
    have := h2.2 t v hv
    simpa [Act.put, Array.getD_eq_getD_getElem?, Array.getElem?_setIfInBounds, Ne.symm hne] using this
  have hn := hr r E w (A.put (some d) U) h1 h4 (defers_put h3)
  rw [put_defers] at hn
  exact hn
end
end Go.Lw
namespace Go.Lw
theorem MB_all_under (k : Nat) (l : List (Int × Bool)) : ((MB l).all fun e => LV.under k e.2) = true := by simp [MB, MapOf, LV.under]
theorem MI_all_under (k : Nat) (l : List (Int × Int)) : ((MI l).all fun e => LV.under k e.2) = true := by simp [MI, MapOf, LV.under]
theorem MB_all_idp (p : Nat → Bool) (l : List (Int × Bool)) : ((MB l).all fun e => LV.idp p e.2) = true := by simp [MB, MapOf, LV.idp]
theorem MI_all_idp (p : Nat → Bool) (l : List (Int × Int)) : ((MI l).all fun e => LV.idp p e.2) = true := by simp [MI, MapOf, LV.idp]
end Go.Lw
namespace Go.Lw
theorem LCalls.borrowE {P : Program} {f : FuncId} {args args2 : List LV} {v : LV} {σ : LSt} (he : frzs σ args = args2) (h : Fun P f args2 v) (ha : args2.all (·.under 0) = true) (hv : v.flat = true) : LCalls P f args (fun u σ' => u = v ∧ σ' = σ) σ := by
  subst he; exact LCalls.borrow h ha hv
end Go.Lw

set_option linter.unusedVariables false
set_option linter.unusedSimpArgs false
namespace Go.Lw
/-- What a call has laid is forgotten, its numbers free again. -/
theorem LCalls.forget {P : Program} {f : FuncId} {args : List LV} {v : LV} {nx : Nat} {M0 M : List (Nat × LO)} (hv : v.under nx = true) (hM : (M.all fun p => decide (p.1 < nx) && p.2.under nx) = true)
    (h : LCalls P f args (fun u s => u = v ∧ readB s.m (M.map (·.1)) = some M) ⟨nx, M0⟩) : LCalls P f args (fun u s => u = v ∧ s = ⟨nx, M⟩) ⟨nx, M0⟩ := by
  intro E w Vs h1 h2
  refine (h E w Vs h1 h2).mono ?_
  rintro e w' ⟨u, V, E', σ', rfl, g1, g2, g3, rfl, g5⟩
  refine ⟨u, V, E'.cut nx, ⟨nx, M⟩, rfl, g1.cut h1.nx, g2.cut rfl fun id o ho => ?_, g3.cut hv, rfl, rfl⟩
  have hmem := look_mem _ _ _ ho
  rw [List.all_eq_true] at hM
  have := hM _ hmem
  simp only [Bool.and_eq_true, decide_eq_true_eq] at this
  exact ⟨readB_look _ _ _ g5 _ hmem, this.1, this.2⟩
end Go.Lw
namespace Go.Lw
section
variable {P : Program} {Q : Exit → LAct → LSt → Prop} {a : LAct} {σ : LSt} {k : List KI}
theorem LK.condCF {x y : Code} (h : LK P (.code y :: k) Q a σ) : LK P (.code (.cond (.const (.bool false)) x y) :: k) Q a σ := LK.condC (b := false) h
theorem LK.condCT {x y : Code} (h : LK P (.code x :: k) Q a σ) : LK P (.code (.cond (.const (.bool true)) x y) :: k) Q a σ := LK.condC (b := true) h
end
end Go.Lw

set_option linter.unusedVariables false
set_option linter.unusedSimpArgs false
namespace Go.Lw

/-- The call of a loop's yield. -/
def lyield (o : Oper) (a : LAct) : Option (Nat × List LV) :=
  match o.op with
  | .call { callee := .value f, args, argTypes } => match a.ev f, levs a args.toList with
    | some (.fn (.yield l) _), some vs => some (l, vs)
    | _, _ => none
  | _ => none
theorem lyield_sound {P : Program} {o : Oper} {a : LAct} {l : Nat} {args : List LV} (h : lyield o a = some (l, args)) {E : Env} {w : World} {A : Act} (hA : AR E w a A) :
    ∃ Vs, (execOp A.eval o).run P w = (Instr.yield l Vs.toArray).run P w ∧ ArgsR E w args Vs := by
  unfold lyield at h
  split at h
  case h_2 => cases h
  rename_i f xs ts ho
  split at h
  case h_2 => cases h
  rename_i l' cap vs hf hvs
  simp only [Option.some.injEq, Prod.mk.injEq] at h
  obtain ⟨rfl, rfl⟩ := h
  have h1 := hA.ev hf
  have h2 := levs_sound hA hvs
  generalize hF : A.eval f = F at h1
  cases h1 with
  | fn _ _ Vc hl hr =>
    have hm : xs.map A.eval = (xs.toList.map A.eval).toArray := Array.ext' (by rw [Array.toList_map])
    refine ⟨xs.toList.map A.eval, ?_, h2⟩
    simp only [execOp, ho, resolve, Sem.run_bind, hF, Deferred.ofValue, Sem.run_pure, Result.andThen_ok, invoke, hm, Array.empty_append]

/-- The loop's variables take what yield is given. -/
def putPs : List Tmp → List LV → List (Nat × LV) → List (Nat × LV)
  | t :: ts, v :: vs, m => putPs ts vs ((t, v) :: m)
  | _, _, m => m
theorem putPs_sound {E : Env} {w : World} {n : Nat} : ∀ (ts : List Tmp) (vs : List LV) (Vs : List Value) (m : List (Nat × LV)) (tmps : Array Value), ts.length = vs.length → ArgsR E w vs Vs → ts.all (fun t => Nat.blt t n) = true → AR E w ⟨n, m⟩ ⟨tmps, []⟩ →
    AR E w ⟨n, putPs ts vs m⟩ ⟨(ts.zip Vs).foldl (fun tmps (x : Tmp × Value) => tmps.setIfInBounds x.1 x.2) tmps, []⟩
  | [], [], Vs, m, tmps, _, _, _, h => by simpa [putPs] using h
  | t :: ts, v :: vs, [], m, tmps, _, h, _, _ => by have := h.1; simp at this
  | t :: ts, v :: vs, V :: Vs, m, tmps, hl, ha, hb, h => by
    simp only [List.all_cons, Bool.and_eq_true] at hb
    have hv : VRel E w v V := ha.2 0 (by simp) (by simp)
    have hr : ArgsR E w vs Vs := ⟨by have := ha.1; simpa using this, fun i h1 h2 => ha.2 (i + 1) (by simpa using h1) (by simpa using h2)⟩
    have hp := h.put (d := some t) (v := v) (V := V) (fun k hk => by cases hk; exact bltE hb.1) hv
    have hp' : AR E w ⟨n, (t, v) :: m⟩ ⟨tmps.setIfInBounds t V, []⟩ := by
      refine ⟨hp.1, fun u x hx => hp.2 u x ?_⟩
      exact look_cons_upd hx
    have := putPs_sound ts vs Vs ((t, v) :: m) (tmps.setIfInBounds t V) (by simpa using hl) hr hb.2 hp'
    simpa [putPs] using this

/-- What follows when the loop's variables have taken the values: the record is busy; the body. -/
def midQ (P : Program) (bd : Code) (id : Nat) (o o2 : LO) (R : Exit → LAct → LSt → Prop) : Exit → LAct → LSt → Prop
  | .normal, a, σ => σ.get id = some o ∧ LW P bd R a (σ.put id o2)
  | _, _, _ => False
/-- What follows when the body has been left. -/
def roundQ (P : Program) (ops : Array Oper) (Q : Exit → LAct → LSt → Prop) (rest : List Oper) (n d : Nat) (m : List (Nat × LV)) (id : Nat) (o : LoopState → Option Code → LO) : Exit → LAct → LSt → Prop
  | .normal, _, σ => σ.get id = some (o .busy none) ∧ LOps P ops Q rest ⟨n, (d, .pv (.sc (.bool true))) :: m⟩ (σ.put id (o .ready none))
  | .ret, _, σ => σ.get id = some (o .busy none) ∧ LOps P ops Q rest ⟨n, (d, .pv (.sc (.bool false))) :: m⟩ (σ.put id (o .done (some .ret)))
  | .exit k, _, σ => σ.get id = some (o .busy none) ∧ LOps P ops Q rest ⟨n, (d, .pv (.sc (.bool false))) :: m⟩ (σ.put id (o .done (some (.exit k))))
  | _, _, _ => False

/-- The record of a loop turns. -/
theorem Sim.loopPut {E : Env} {w : World} {σ : LSt} (hS : Sim E w σ) {id l : Nat} {st : LoopState} {pend : Option Code} {n : Nat} {m : List (Nat × LV)} {ps : Array Tmp} {as bd : Code} (hg : σ.get id = some (.loop l st pend n m ps as bd)) (st' : LoopState) (pend' : Option Code) :
    ∃ r : Loop, w.heap[l]? = some (.loop r) ∧ r.state = st ∧ r.pending = pend ∧ r.params = ps ∧ r.assign = as ∧ r.body = bd ∧ r.tmps.size = n ∧ (∀ t v, look t m = some v → VRel E w v (r.tmps.getD t undef)) ∧
      ∃ E', Ext E w E' (w.putObj l (.loop { r with state := st', pending := pend' })) ∧ Sim E' (w.putObj l (.loop { r with state := st', pending := pend' })) (σ.put id (.loop l st' pend' n m ps as bd)) := by
  obtain ⟨L, h1, h2, h3, r, g1, g2, g3, g4, g5, g6, g7, g8⟩ := hS.obj id _ hg
  refine ⟨r, g1, g2, g3, g4, g5, g6, g7, g8, E.put id L, ?_⟩
  have hlt : l < w.heap.size := lt_of_heap g1
  have hsz : (w.putObj l (.loop { r with state := st', pending := pend' })).heap.size = w.heap.size := World.putObj_size
  refine hS.put (L' := L) (.inl ⟨L, h1, .inl rfl⟩) (fun k hk hne => ?_) (fun b hb => .inr ⟨L, h1, hb⟩) (by rw [hsz]; exact Nat.le_refl _) rfl rfl rfl (fun hx => ?_)
  · rw [World.putObj_heap_other (by rintro rfl; exact hne L h1 h3)]
  · exact ⟨h2, h3, _, World.putObj_heap_same hlt, rfl, rfl, g4, g5, g6, g7, fun t v hv => (g8 t v hv).mono hx⟩

section
variable {P : Program} {ops : Array Oper} {Q : Exit → LAct → LSt → Prop} {n : Nat} {m : List (Nat × LV)} {σ σ' : LSt} {rest : List Oper} {d : Nat} {op : Op} {ty : TypeId} {pos : String} {af : Array Edge} {g : Option (Nat × Bool)} {v : LV}

/-- A call of yield: a round of the loop. -/
theorem LOps.yld (hw : Goes ops m g true) {tv : List (Nat × LV)} (hl : readB m (tmpsOf op) = some tv) (hd : Nat.blt d n = true) {l : Nat} {args : List LV} (hy : lyield ⟨none, op, 0, "", #[], none⟩ ⟨n, tv⟩ = some (l, args)) (id : Nat)
    {nl : Nat} {ml ml2 : List (Nat × LV)} {ps : Array Tmp} {as bd : Code} (hg : σ.get id = some (.loop l .ready none nl ml ps as bd)) (hps : ps.toList.length = args.length) (hpb : ps.toList.all (fun t => Nat.blt t nl) = true) (hr1 : ranges as = false) (hr2 : ranges bd = false) (hm2 : putPs ps.toList args ml = ml2)
    (h : LW P as (midQ P bd id (.loop l .ready none nl ml ps as bd) (.loop l .busy none nl ml ps as bd) (roundQ P ops Q rest n d m id fun st pend => .loop l st pend nl ml ps as bd)) ⟨nl, ml2⟩ σ) :
    LOps P ops Q (⟨some d, op, ty, pos, af, g⟩ :: rest) ⟨n, m⟩ σ := by
  subst hm2
  intro rd E w A hS hA hM
  obtain ⟨L, h1, h2, h3, r, g1, g2, g3, g4, g5, g6, g7, g8⟩ := hS.obj id _ hg
  obtain ⟨Vs, hrun, hargs⟩ := lyield_sound (P := P) (o := ⟨some d, op, ty, pos, af, g⟩) hy ((readB_eq hl).ar (a := ⟨n, m⟩) hA)
  have hsz : Vs.toArray.size = r.params.size := by
    rw [g4, List.size_toArray, ← hargs.1, ← hps]; simp
  rw [run_yield g1 hsz] at hrun
  have hwt := wanted_of hA (hw.wanted (o := ⟨some d, op, ty, pos, af, g⟩) (a := ⟨n, m⟩))
  simp only [wpListIn, hwt, if_true]
  refine ⟨fun _ _ => trivial, ?_⟩
  rw [sem_at hrun (by simp), Oper.uponIn_round]
  refine ⟨wd_depth, roundIn_of_wpIn trivial ?_⟩
  have hfold : ((r.params.zip Vs.toArray).foldl (fun tmps (x : Tmp × Value) => tmps.setIfInBounds x.1 x.2) r.tmps) = (ps.toList.zip Vs).foldl (fun tmps (x : Tmp × Value) => tmps.setIfInBounds x.1 x.2) r.tmps := by
    rw [g4, ← Array.foldl_toList, Array.toList_zip]
  have hA0 : AR E w ⟨nl, putPs ps.toList args ml⟩ ⟨(r.params.zip Vs.toArray).foldl (fun tmps (x : Tmp × Value) => tmps.setIfInBounds x.1 x.2) r.tmps, []⟩ := by
    rw [hfold]
    exact putPs_sound _ _ _ _ _ hps hargs hpb ⟨g7, g8⟩
  subst g5; subst g6
  refine wpIn_mono (h (some l) E w _ (.inr hr1) hS hA0 (Marks.nil _ _)) ?_
  rintro x A1 w1 ⟨hc, a1, σ1, E1, k1, k2, k3, k4, k5⟩
  cases x with
  | normal =>
    obtain ⟨j1, j2⟩ := k5
    obtain ⟨r1, q1, q2, q3, q4, q5, q6, q7, q8, E2, q9, q10⟩ := k2.loopPut j1 .busy none
    refine ⟨w1.putObj l (.loop { r1 with state := .busy }), run_beginRound q1 q2, ?_⟩
    have e1 : ({ r1 with state := .busy } : Loop) = { r1 with state := .busy, pending := none } := by rw [← q3]
    rw [e1]
    refine wpIn_mono (j2 (some l) E2 (w1.putObj l (.loop { r1 with state := .busy, pending := none })) A1 (.inr hr2) q10 (k3.mono q9) (k4.1.mono q9)) ?_
    rintro x A2 w2 ⟨hc2, a2, σ2, E3, p1, p2, p3, p4, p5⟩
    have hX : Ext E w E3 w2 := (k1.trans q9).trans p1
    have fin : ∀ (b : Bool) (jump : Option Code), σ2.get id = some (.loop l .busy none nl ml ps r.assign r.body) → jump.isNone = b →
        LOps P ops Q rest ⟨n, (d, .pv (.sc (.bool b))) :: m⟩ (σ2.put id (.loop l (if b then .ready else .done) jump nl ml ps r.assign r.body)) →
        ∃ v w', (Instr.endRound l jump).run P w2 = .ok v w' ∧ wpListIn (wd rd) 0 P ops (Lw.lift E w A.defers Q) rest (A.put (some d) v) w' := by
      intro b jump hb1 hj hb2
      obtain ⟨r2, s1, s2, s3, s4, s5, s6, s7, s8, E4, s9, s10⟩ := p2.loopPut hb1 (if b then .ready else .done) jump
      refine ⟨_, _, run_endRound jump s1, ?_⟩
      rw [hj]
      have hX2 := hX.trans s9
      have hd' : d < n := bltE hd
      have hA3 : AR E4 (w2.putObj l (.loop { r2 with state := if b then .ready else .done, pending := jump })) ⟨n, (d, .pv (.sc (.bool b))) :: m⟩ (A.put (some d) (.bool b)) := by
        have := (hA.mono hX2).put (d := some d) (v := .pv (.sc (.bool b))) (V := .bool b) (fun k hk => by cases hk; exact hd') (.pv _ _ (.sc _))
        exact ⟨this.1, fun t v hv => this.2 t v (look_cons_upd hv)⟩
      have hn := hb2 rd E4 _ (A.put (some d) (.bool b)) s10 hA3 (defers_put (hM.mono hX2))
      rw [put_defers] at hn
      exact LOps.lift hX2 (.refl _ _) hn
    cases x with
    | normal => exact fin true none p5.1 rfl p5.2
    | ret => exact fin false (some .ret) p5.1 rfl p5.2
    | exit id => exact fin false (some (.exit id)) p5.1 rfl p5.2
    | goto t => exact p5.elim
    | panic c => exact hc2.elim
    | outgrown => exact hc2.elim
  | exit id => exact k5.elim
  | goto t => exact k5.elim
  | ret => exact k5.elim
  | panic c => exact hc.elim
  | outgrown => exact hc.elim
end

/-! ### How the walk goes on -/
section
variable {P : Program} {ops : Array Oper} {Q : Exit → LAct → LSt → Prop} {R : Exit → LAct → LSt → Prop} {rest : List Oper} {n d id : Nat} {m : List (Nat × LV)} {a : LAct} {σ σ2 : LSt} {bd : Code} {o o2 : LO} {ol : LoopState → Option Code → LO}
theorem midQ.go (h1 : σ.get id = some o) (h2 : σ.put id o2 = σ2) (h : LK P [.code bd] R a σ2) : midQ P bd id o o2 R .normal a σ := ⟨h1, by rw [h2]; exact h⟩
theorem roundQ.normal (h1 : σ.get id = some (ol .busy none)) (h2 : σ.put id (ol .ready none) = σ2) (h : LOps P ops Q rest ⟨n, (d, .pv (.sc (.bool true))) :: m⟩ σ2) : roundQ P ops Q rest n d m id ol .normal a σ := ⟨h1, by rw [h2]; exact h⟩
theorem roundQ.ret (h1 : σ.get id = some (ol .busy none)) (h2 : σ.put id (ol .done (some .ret)) = σ2) (h : LOps P ops Q rest ⟨n, (d, .pv (.sc (.bool false))) :: m⟩ σ2) : roundQ P ops Q rest n d m id ol .ret a σ := ⟨h1, by rw [h2]; exact h⟩
theorem roundQ.exit {k : Nat} (h1 : σ.get id = some (ol .busy none)) (h2 : σ.put id (ol .done (some (.exit k))) = σ2) (h : LOps P ops Q rest ⟨n, (d, .pv (.sc (.bool false))) :: m⟩ σ2) : roundQ P ops Q rest n d m id ol (.exit k) a σ := ⟨h1, by rw [h2]; exact h⟩
theorem post_exit_out {id : Nat} : ∀ (k : List KI) {Q : Exit → LAct → LSt → Prop}, outOf id k = none → Q (.exit id) a σ → post P k Q (.exit id) a σ
  | [], _, _, h => h
  | .code _ :: k, _, ho, h => post_exit_code (post_exit_out k ho h)
  | .fin _ :: k, _, ho, h => post_exit_fin (post_exit_out k ho h)
  | .blk j :: k, _, ho, h => by
    unfold outOf at ho
    split at ho
    · cases ho
    · rename_i hne; exact post_exit_other (fun e => hne e) (post_exit_out k ho h)
/-- A way out of a round, past all its blocks. -/
theorem LK.exitOut {k : List KI} (ho : outOf id k = none) (h : Q (.exit id) a σ) : LK P (.code (.exit id) :: k) Q a σ := LK.exit (post_exit_out k ho h)
/-- The end of a round's body, or of the assignments. -/
theorem LK.doneQ (h : Q .normal a σ) : LK P [] Q a σ := LK.done h
end

/-- Behind a loop over a function the jump that is pending is taken up. -/
def afterQ (P : Program) (k : List KI) (Q : Exit → LAct → LSt → Prop) (a : LAct) (id : Nat) (o : LoopState → Option Code → LO) : LSt → Prop := fun σ =>
  (∃ st, st ≠ .busy ∧ σ.get id = some (o st none) ∧ LK P k Q a (σ.drop id)) ∨ ∃ st c, st ≠ .busy ∧ σ.get id = some (o st (some c)) ∧ LK P (.code c :: k) Q a (σ.drop id)

theorem Sim.grow {E : Env} {w : World} {σ : LSt} (hS : Sim E w σ) (o : Obj) : Ext E w E (w.alloc o) ∧ Sim E (w.alloc o) σ := by
  have hsz : (w.alloc o).heap.size = w.heap.size + 1 := by show (w.heap.push o).size = _; simp
  have hX : Ext E w E (w.alloc o) := ⟨fun _ h => h, rfl, fun id L' h _ => ⟨L', h, Nat.le_refl _, fun _ => rfl⟩, fun b hb h => ⟨heap_alloc_old w o hb, h⟩, by omega, rfl, rfl⟩
  refine ⟨hX, hS.fresh, hS.sep, fun id L b h e => ?_, fun b hb => ?_, hS.nx, fun id oo ho => ?_⟩
  · have := hS.low id L b h e; exact ⟨by omega, this.2⟩
  · have := hS.flow b hb; omega
  · obtain ⟨L, g1, g2⟩ := hS.obj id oo ho
    exact ⟨L, g1, g2.mono hX fun b hb => heap_alloc_old w o (hS.low id L b g1 hb).1⟩

section
variable {P : Program} {Q : Exit → LAct → LSt → Prop} {n nx : Nat} {m : List (Nat × LV)} {mo mo2 : List (Nat × LO)} {k : List KI}
/-- A RANGE OVER A FUNCTION. -/
theorem LK.range {t : Nat} {ps : Array Tmp} {as bd : Code} {g : FuncId} {caps : List LV} (ht : lookB t m = some (.fn (.func g) caps)) (hc : callable P g = true)
    (h : ∀ l, LCalls P g (.fn (.yield l) [] :: caps) (fun _ σ' => afterQ P k Q ⟨n, m⟩ nx (fun st pend => .loop l st pend n m ps as bd) σ') ⟨nx + 1, upd nx (.loop l .ready none n m ps as bd) mo⟩) : LK P (.code (.rangeFunc (.tmp t) ps as bd) :: k) Q ⟨n, m⟩ ⟨nx, mo⟩ := by
  refine LK.lw fun rd E w A h0 hS hA hM => ?_
  obtain rfl : rd = none := by
    rcases h0 with h0 | h0
    · exact h0
    · cases h0
  rw [lookB_eq] at ht
  have hv := hA.2 t _ ht
  generalize hV : A.tmps.getD t undef = V at hv
  cases hv with
  | fn _ _ Vc hl hr =>
  refine wpIn_rangeFunc fun fn _ => ?_
  obtain ⟨W2, hW2⟩ : ∃ W2, (w.alloc (.deferred (some []))).alloc (.loop { state := .ready, pending := none, fn, tmps := A.tmps, params := ps, assign := as, body := bd, defers := w.heap.size }) = W2 := ⟨_, rfl⟩
  refine ⟨_, _, W2, ⟨.fn (.func g) Vc.toArray, #[.func (.yield (w.heap.size + 1)) #[] #[]]⟩, W2, g, (Value.func (.yield (w.heap.size + 1)) #[] #[] :: Vc).toArray, W2, by rw [← hW2]; exact run_enterLoop_outer fn A.tmps ps as bd, ?_, fun _ _ => trivial, ?_, wd_depth, ?_⟩
  · simp only [resolve, Act.eval, hV, Deferred.ofValue, Sem.run_pure]
    simp [Act.eval]
  · unfold callable at hc
    split at hc
    case h_2 => cases hc
    rename_i fnn hfn
    simp only [Bool.and_eq_true, bne_iff_ne] at hc
    obtain ⟨n1, n2⟩ := hc
    have n3 : fnn.body.isNone = false := by
      cases hb : fnn.body with
      | none => simp [hb] at n2
      | some b => rfl
    have e1 : (fnn.name == "runtime.NumGoroutine") = false := by simpa using n1
    simp only [invoke, callFunc, Sem.run_bind, run_program, Result.andThen_ok, hfn, e1, n3, Bool.false_eq_true, if_false, Sem.run_pure]
    simp
  · subst hW2
    obtain ⟨x1, x2⟩ := hS.grow (.deferred (some []))
    have hsz1 : (w.alloc (.deferred (some []))).heap.size = w.heap.size + 1 := by show (w.heap.push _).size = _; simp
    generalize hW : (w.alloc (.deferred (some []))) = W at x1 x2 hsz1 ⊢
    have hWd : W.heap[w.heap.size]? = some (.deferred (some [])) := by rw [← hW]; exact heap_alloc_new w _
    have hnU : ¬ E.U nx := fun hu => Nat.lt_irrefl _ (hS.nx nx hu)
    obtain ⟨y1, y2⟩ := x2.put (w' := W.alloc (.loop { state := .ready, pending := none, fn, tmps := A.tmps, params := ps, assign := as, body := bd, defers := w.heap.size })) (id := nx) (L' := ⟨some (w.heap.size + 1), 0, 0, 0, 0⟩) (o := .loop (w.heap.size + 1) .ready none n m ps as bd) (.inr hnU)
      (fun b hb _ => heap_alloc_old W _ hb) (fun b hb => .inl (by obtain rfl := Option.some.inj hb; exact ⟨by omega, by show _ < (W.heap.push _).size; simp [hsz1]⟩)) (by show _ ≤ (W.heap.push _).size; simp) rfl rfl rfl
      (fun hx => ⟨rfl, rfl, _, (by rw [← hsz1]; exact heap_alloc_new W _), rfl, rfl, rfl, rfl, rfl, hA.1, fun u v hv => ((hA.2 u v hv).mono x1).mono hx⟩)
    have hput : (⟨nx, mo⟩ : LSt).put nx (.loop (w.heap.size + 1) .ready none n m ps as bd) = ⟨nx + 1, upd nx (.loop (w.heap.size + 1) .ready none n m ps as bd) mo⟩ := by simp [LSt.put]
    rw [hput] at y2
    have hXA := x1.trans y1
    have hargs : ArgsR (E.put nx ⟨some (w.heap.size + 1), 0, 0, 0, 0⟩) (W.alloc (.loop { state := .ready, pending := none, fn, tmps := A.tmps, params := ps, assign := as, body := bd, defers := w.heap.size })) (.fn (.yield (w.heap.size + 1)) [] :: caps) (Value.func (.yield (w.heap.size + 1)) #[] #[] :: Vc) :=
      ArgsR.cons (.fn _ [] [] rfl (by simp)) ⟨hl, fun i h1 h2 => (hr i h1 h2).mono hXA⟩
    refine CallsIn.mono (calls_wd (h (w.heap.size + 1) _ _ _ y2 hargs)) ?_
    rintro e w3 ⟨v, V, E3, σ3, rfl, z1, z2, z3, z4⟩
    have hlt0 : w.heap.size < W.heap.size := by omega
    have hnO : ¬ (E.put nx ⟨some (w.heap.size + 1), 0, 0, 0, 0⟩).Own w.heap.size := by
      rintro ⟨i, L, q1, q2⟩
      simp only [Env.put] at q1
      split at q1
      · obtain rfl := Option.some.inj q1
        simp at q2
      · have := (hS.low i L _ q1 q2).1
        omega
    have hk0 := z1.heap w.heap.size (by show _ < (W.heap.push _).size; simp; omega) hnO
    have hd3 : w3.heap[w.heap.size]? = some (.deferred (some [])) := by
      rw [hk0.1, heap_alloc_old W _ hlt0]; exact hWd
    have hXall : Ext E w E3 w3 := hXA.trans z1
    -- the record is shut, and forgotten
    have go : ∀ (st : LoopState) (pend : Option Code), st ≠ .busy → σ3.get nx = some (.loop (w.heap.size + 1) st pend n m ps as bd) →
        ∃ w4 E4, (Instr.endLoop (w.heap.size + 1)).run P w3 = .ok pend w4 ∧ Ext E w E4 w4 ∧ Sim E4 w4 (σ3.drop nx) ∧ AR E4 w4 ⟨n, m⟩ { A with defers := [mark w.heap.size] ++ A.defers } ∧ Marks E4 w4 ([mark w.heap.size] ++ A.defers) := by
      intro st pend hst hg
      obtain ⟨r3, s1, s2, s3, s4, s5, s6, s7, s8, E4, s9, s10⟩ := z2.loopPut hg .exhausted pend
      have e1 : ({ r3 with state := .exhausted } : Loop) = { r3 with state := .exhausted, pending := pend } := by rw [← s3]
      refine ⟨_, E4.drop nx, ?_, (hXall.trans s9).trans (Ext.drop _ _ _), ?_, ?_, ?_⟩
      · rw [run_endLoop s1 (by rw [s2]; exact hst), s3]
      · refine (s10.drop nx).less ?_ fun i o ho => ?_
        · simp only [LSt.drop, LSt.put]
          have : nx < σ3.nx := by
            obtain ⟨L, q1, _⟩ := z2.obj nx _ hg
            exact z2.nx nx (z2.fresh nx L q1)
          rw [if_pos this]
        · simp only [LSt.get, LSt.drop, look_del, LSt.put, look_upd] at ho ⊢
          split at ho
          · cases ho
          · rename_i hne; rw [if_neg hne, if_neg hne]; exact ho
      · have := hA.mono ((hXall.trans s9).trans (Ext.drop E4 _ nx))
        exact ⟨this.1, this.2⟩
      · have hM4 := hM.mono ((hXall.trans s9).trans (Ext.drop E4 _ nx))
        obtain ⟨rs, q1, q2, q3⟩ := hM4
        have hk9 := s9.heap w.heap.size (lt_of_heap hd3) hk0.2
        refine ⟨w.heap.size :: rs, by rw [q1]; rfl, List.nodup_cons.2 ⟨fun hmem => ?_, q2⟩, fun r hr => ?_⟩
        · obtain ⟨rs', q1', _, q3'⟩ := hM
          have : rs = rs' := by
            have hj : ∀ (a b : Nat), mark a = mark b → a = b := by intro a b h; simpa [mark] using h
            exact List.map_inj_right (fun a b => hj a b) |>.1 (q1.symm.trans q1')
          subst this
          have := lt_of_heap (q3' _ hmem).1
          omega
        · rcases List.mem_cons.1 hr with rfl | hr
          · refine ⟨hk9.1.trans hd3, ?_⟩
            rintro ⟨i, L, p1, p2⟩
            simp only [Env.drop] at p1
            split at p1
            · cases p1
            · exact hk9.2 ⟨i, L, p1, p2⟩
          · exact q3 r hr
    rcases z4 with ⟨st, hst, hg, hk⟩ | ⟨st, c, hst, hg, hk⟩
    · obtain ⟨w4, E4, p1, p2, p3, p4, p5⟩ := go st none hst hg
      refine ⟨none, w4, p1, trivial, ⟨n, m⟩, σ3.drop nx, E4, p2, p3, p4, ⟨p5, [w.heap.size], rfl, by simp⟩, hk⟩
    · obtain ⟨w4, E4, p1, p2, p3, p4, p5⟩ := go st (some c) hst hg
      refine ⟨some c, w4, p1, ?_⟩
      have hk' : LW P c (post P k Q) ⟨n, m⟩ (σ3.drop nx) := hk
      exact wpIn_mono (hk' none E4 w4 _ (.inl rfl) p3 p4 p5) fun x A' w' q => lift_up p2 ⟨[w.heap.size], rfl, by simp⟩ q
end
attribute [go_sem] lyield putPs LSt.drop del
end Go.Lw
namespace Go.Lw
def loopKey : List (Nat × LO) → Option Nat
  | [] => none
  | (i, .loop _ _ _ _ _ _ _ _) :: _ => some i
  | _ :: r => loopKey r
section
variable {P : Program} {ops : Array Oper} {Q : Exit → LAct → LSt → Prop} {n nx : Nat} {m : List (Nat × LV)} {mo : List (Nat × LO)} {rest : List Oper} {d : Nat} {op : Op} {ty : TypeId} {pos : String} {af : Array Edge} {g : Option (Nat × Bool)}
/-- A call of yield, its parts in the order in which they are found. -/
theorem LOps.yield (hw : Goes ops m g true) {tv : List (Nat × LV)} (hl : readB m (tmpsOf op) = some tv) (hd : Nat.blt d n = true) {l : Nat} {args : List LV} (hy : lyield ⟨none, op, 0, "", #[], none⟩ ⟨n, tv⟩ = some (l, args)) {id : Nat} (hk : loopKey mo = some id)
    {nl : Nat} {ml ml2 : List (Nat × LV)} {ps : Array Tmp} {as bd : Code} (hg : lookB id mo = some (.loop l .ready none nl ml ps as bd)) (hps : ps.toList.length = args.length) (hpb : ps.toList.all (fun t => Nat.blt t nl) = true) (hr1 : ranges as = false) (hr2 : ranges bd = false) (hm2 : putPs ps.toList args ml = ml2)
    (h : LK P [.code as] (midQ P bd id (.loop l .ready none nl ml ps as bd) (.loop l .busy none nl ml ps as bd) (roundQ P ops Q rest n d m id fun st pend => .loop l st pend nl ml ps as bd)) ⟨nl, ml2⟩ ⟨nx, mo⟩) :
    LOps P ops Q (⟨some d, op, ty, pos, af, g⟩ :: rest) ⟨n, m⟩ ⟨nx, mo⟩ :=
  LOps.yld hw hl hd hy id (by rw [lookB_eq] at hg; exact hg) hps hpb hr1 hr2 hm2 h
variable {k : List KI} {a : LAct} {σ σ2 : LSt} {id : Nat} {o : LoopState → Option Code → LO} {c : Code}
theorem afterQ.go (hg : σ.get id = some (o .ready none)) (hd : σ.drop id = σ2) (h : LK P k Q a σ2) : afterQ P k Q a id o σ := .inl ⟨.ready, by simp, hg, by rw [hd]; exact h⟩
theorem afterQ.jump (hg : σ.get id = some (o .done (some c))) (hd : σ.drop id = σ2) (h : LK P (.code c :: k) Q a σ2) : afterQ P k Q a id o σ := .inr ⟨.done, c, by simp, hg, by rw [hd]; exact h⟩
end
end Go.Lw

set_option linter.unusedVariables false
set_option linter.unusedSimpArgs false
namespace Go.Lw
mutual
theorem LV.under_le {n k : Nat} (h : n ≤ k) : ∀ v : LV, v.under n = true → v.under k = true
  | .pv _, _ => rfl
  | .own id _ _ _, hv => by simp only [LV.under, decide_eq_true_eq] at hv ⊢; omega
  | .ptr id _ _ _, hv => by simp only [LV.under, decide_eq_true_eq] at hv ⊢; omega
  | .rp _ _ _ _, _ => rfl
  | .agg l, hv => by rw [LV.under] at hv ⊢; exact LV.unders_le h l hv
  | .tup l, hv => by rw [LV.under] at hv ⊢; exact LV.unders_le h l hv
  | .fn _ l, hv => by rw [LV.under] at hv ⊢; exact LV.unders_le h l hv
  | .mp id, hv => by simp only [LV.under, decide_eq_true_eq] at hv ⊢; omega
theorem LV.unders_le {n k : Nat} (h : n ≤ k) : ∀ l : List LV, LV.unders n l = true → LV.unders k l = true
  | [], _ => rfl
  | x :: r, hv => by
    rw [LV.unders, Bool.and_eq_true] at hv ⊢
    exact ⟨LV.under_le h x hv.1, LV.unders_le h r hv.2⟩
end
/-- The record of a loop over a function, in whatever state. -/
structure IsLoop (id l : Nat) (ol : LoopState → Option Code → LO) (nl : Nat) (ml : List (Nat × LV)) (ps : Array Tmp) (as bd : Code) : Prop where
  eq : ol = fun st pend => .loop l st pend nl ml ps as bd
section
variable {P : Program} {ops : Array Oper} {Q : Exit → LAct → LSt → Prop} {n nx : Nat} {m : List (Nat × LV)} {mo : List (Nat × LO)} {rest : List Oper} {d : Nat} {op : Op} {ty : TypeId} {pos : String} {af : Array Edge} {g : Option (Nat × Bool)} {k : List KI}
/-- A RANGE OVER A FUNCTION, the record behind a name. -/
theorem LK.over {t : Nat} {ps : Array Tmp} {as bd : Code} {g : FuncId} {caps : List LV} {nx1 : Nat} (ht : lookB t m = some (.fn (.func g) caps)) (hc : callable P g = true) (hm : (m.all fun p => p.2.under nx) = true) (hn : nx + 1 = nx1) {mo' : LO → List (Nat × LO)} (hmo : ∀ o, upd nx o mo = mo' o)
    (h : ∀ l (ol : LoopState → Option Code → LO), IsLoop nx l ol n m ps as bd → (∀ st pend, (ol st pend).under nx1 = true) → LCalls P g (.fn (.yield l) [] :: caps) (fun _ σ' => afterQ P k Q ⟨n, m⟩ nx ol σ') ⟨nx1, mo' (ol .ready none)⟩) : LK P (.code (.rangeFunc (.tmp t) ps as bd) :: k) Q ⟨n, m⟩ ⟨nx, mo⟩ := by
  subst hn
  refine LK.range ht hc fun l => ?_
  have := h l _ ⟨rfl⟩ (fun st pend => by
    simp only [LO.under, List.all_eq_true] at hm ⊢
    intro p hp
    have := hm p hp
    clear hmo h
    revert this
    generalize p.2 = v
    intro hv
    have mono : ∀ v : LV, v.under nx = true → v.under (nx + 1) = true := fun v => LV.under_le (Nat.le_succ nx) v
    exact mono v hv)
  rw [← hmo] at this
  exact this
/-- A call of yield. -/
theorem LOps.yieldN (hw : Goes ops m g true) {tv : List (Nat × LV)} (hl : readB m (tmpsOf op) = some tv) (hd : Nat.blt d n = true) {l : Nat} {args : List LV} (hy : lyield ⟨none, op, 0, "", #[], none⟩ ⟨n, tv⟩ = some (l, args)) {id : Nat} {ol : LoopState → Option Code → LO}
    {nl : Nat} {ml ml2 : List (Nat × LV)} {ps : Array Tmp} {as bd : Code} (hol : IsLoop id l ol nl ml ps as bd) (hg : lookB id mo = some (ol .ready none)) (hps : ps.toList.length = args.length) (hpb : ps.toList.all (fun t => Nat.blt t nl) = true) (hr1 : ranges as = false) (hr2 : ranges bd = false) (hm2 : putPs ps.toList args ml = ml2)
    (h : LK P [.code as] (midQ P bd id (ol .ready none) (ol .busy none) (roundQ P ops Q rest n d m id ol)) ⟨nl, ml2⟩ ⟨nx, mo⟩) :
    LOps P ops Q (⟨some d, op, ty, pos, af, g⟩ :: rest) ⟨n, m⟩ ⟨nx, mo⟩ := by
  obtain ⟨rfl⟩ := hol
  exact LOps.yld hw hl hd hy id (by rw [lookB_eq] at hg; exact hg) hps hpb hr1 hr2 hm2 h
end
end Go.Lw

set_option linter.unusedVariables false
set_option linter.unusedSimpArgs false
namespace Go.Lw
/-- An object of our own is told in another way. -/
theorem Sim.retell {E : Env} {w : World} {nx id : Nat} {mo : List (Nat × LO)} {o o' : LO} (hS : Sim E w ⟨nx, mo⟩) (ho : look id mo = some o) (h : ∀ L, E.f id = some L → ORel E w L o → ORel E w L o') : Sim E w ⟨nx, upd id o' mo⟩ := by
  refine ⟨hS.fresh, hS.sep, hS.low, hS.flow, hS.nx, fun i x hx => ?_⟩
  simp only [LSt.get, look_upd] at hx
  split at hx
  · rename_i e
    subst e
    obtain rfl := Option.some.inj hx
    obtain ⟨L, g1, g2⟩ := hS.obj id o ho
    exact ⟨L, g1, h L g1 g2⟩
  · exact hS.obj i x hx
section
variable {P : Program} {Q : Exit → LAct → LSt → Prop} {n nx : Nat} {m : List (Nat × LV)} {mo mo2 : List (Nat × LO)} {c : Code} {k : List KI}
/-- From here on a nil slice in a variable is an array of our own without rows. -/
theorem LK.ownBox (id sz : Nat) (hid : id < nx) (ho : lookB id mo = some (.arr 1 [[.pv (.sc (.slice none 0 0))]])) (hm : upd id (.arr 1 [[.own nx 0 0 0]]) (upd nx (.arr sz []) mo) = mo2) (h : LK P (.code c :: k) Q ⟨n, m⟩ ⟨nx + 1, mo2⟩) : LK P (.code c :: k) Q ⟨n, m⟩ ⟨nx, mo⟩ := by
  subst hm
  refine LK.lw fun r E w A h0 h1 h2 h3 => ?_
  obtain ⟨g1, g2⟩ := h1.nilObj sz 0
  have hne : nx ≠ id := by omega
  have g3 := g2.retell (id := id) (o := .arr 1 [[.pv (.sc (.slice none 0 0))]]) (o' := .arr 1 [[.own nx 0 0 0]]) (by rw [look_upd, if_neg hne, ← lookB_eq]; exact ho) (fun L hL hO => by
    obtain ⟨q1, q2, q3, q4⟩ := hO
    refine ⟨q1, q2, by simp, ?_⟩
    rcases q4 with q4 | ⟨b, C, p1, p2, p3, p4, p5, p6⟩
    · exact .inl q4
    · refine .inr ⟨b, C, p1, p2, p3, p4, p5, fun j hj => ?_⟩
      obtain ⟨V, s1, s2, s3⟩ := p6 j hj
      obtain rfl : j = 0 := by simpa using hj
      simp only [List.flatten_cons, List.flatten_nil, List.append_nil, List.getElem_cons_zero] at s3 ⊢
      obtain rfl := s3.sc_inv
      refine ⟨_, s1, s2, .own _ _ _ _ _ (.inl rfl) ⟨none, 0, 0, rfl⟩ (fun L' hL' => ?_)⟩
      simp only [Env.put, if_true, Option.some.injEq] at hL'
      subst hL'
      exact ⟨Nat.le_refl _, fun _ => ⟨⟨none, rfl⟩, rfl, rfl⟩⟩)
  have h' : LW P c (post P k Q) ⟨n, m⟩ ⟨nx + 1, upd id (.arr 1 [[.own nx 0 0 0]]) (upd nx (.arr sz []) mo)⟩ := h
  exact wpIn_mono (h' r _ w A h0 g3 (h2.mono g1) (h3.mono g1)) fun x A' w' q => lift_up g1 (.refl _ _) q
end
end Go.Lw

set_option linter.unusedVariables false
set_option linter.unusedSimpArgs false
namespace Go.Lw
theorem LOps.idxStr {P : Program} {ops : Array Oper} {Q : Exit → LAct → LSt → Prop} {rest : List Oper} {a : LAct} {σ : LSt} {o : Oper} {t : TypeId} {b : ByteArray} {y : Operand} {k : IntKind} {i : Int} {c : UInt8} (ho : o.op = .index t (.const (.string b)) y) (hw : wantedL ops o a = some true) (hd : dstOk o a = true) (ht : (P.underlying t).map isStrD = some true) (hy : a.ev y = some (.pv (.sc (.int k i)))) (hi : 0 ≤ i) (hc : b[i.toNat]? = some c) (hr : LOps P ops Q rest (a.put o.dst (.pv (.sc (.int .u8 c.toNat)))) σ) : LOps P ops Q (o :: rest) a σ := by
  refine LOps.step hw (dstOk_inv hd) ?_ hr
  intro E w A hS hA
  have hu := isStrD_inv ht
  have hv : A.eval y = .int k i := by
    have := (hA.ev hy).sc_inv
    exact this
  refine ⟨.int .u8 c.toNat, w, E, .inl ?_, .refl _ _, hS, VRel.scalar _⟩
  simp only [execOp, ho, hv]
  simp only [Instr.index, asIntOf, Sem.run_bind, Sem.run_pure, Result.andThen_ok, run_underlying hu, Act.eval, if_pos hi, hc]
end Go.Lw

set_option linter.unusedVariables false
set_option linter.unusedSimpArgs false
namespace Go.Lw
section
variable {P : Program} {Q : Exit → LAct → LSt → Prop} {n nx : Nat} {m : List (Nat × LV)} {mo mo2 : List (Nat × LO)} {c : Code} {k : List KI}
/-- From here on a nil slice in a part of a variable is an array of our own without rows. -/
theorem LK.ownCell (id sz z : Nat) (pre suf : List LV) (hid : id < nx) (ho : lookB id mo = some (.arr z [pre ++ .pv (.sc (.slice none 0 0)) :: suf])) (hm : upd id (.arr z [pre ++ .own nx 0 0 0 :: suf]) (upd nx (.arr sz []) mo) = mo2) (h : LK P (.code c :: k) Q ⟨n, m⟩ ⟨nx + 1, mo2⟩) : LK P (.code c :: k) Q ⟨n, m⟩ ⟨nx, mo⟩ := by
  subst hm
  refine LK.lw fun r E w A h0 h1 h2 h3 => ?_
  obtain ⟨g1, g2⟩ := h1.nilObj sz 0
  have hne : nx ≠ id := by omega
  have g3 := g2.retell (id := id) (o := .arr z [pre ++ .pv (.sc (.slice none 0 0)) :: suf]) (o' := .arr z [pre ++ .own nx 0 0 0 :: suf]) (by rw [look_upd, if_neg hne, ← lookB_eq]; exact ho) (fun L hL hO => by
    obtain ⟨q1, q2, q3, q4⟩ := hO
    refine ⟨q1, q2, fun r hr => ?_, ?_⟩
    · have := q3 _ (List.mem_singleton.2 rfl)
      rw [List.mem_singleton.1 hr]
      simpa using this
    rcases q4 with q4 | ⟨b, C, p1, p2, p3, p4, p5, p6⟩
    · exact .inl q4
    · have hlen : ([pre ++ LV.own nx 0 0 0 :: suf].flatten).length = ([pre ++ LV.pv (.sc (.slice none 0 0)) :: suf].flatten).length := by simp
      refine .inr ⟨b, C, p1, p2, p3, p4, p5, fun j hj => ?_⟩
      obtain ⟨V, s1, s2, s3⟩ := p6 j (by rw [← hlen]; exact hj)
      refine ⟨V, s1, s2, ?_⟩
      by_cases e : j = pre.length
      · subst e
        have e1 : ([pre ++ LV.pv (.sc (.slice none 0 0)) :: suf].flatten)[pre.length]'(by rw [← hlen]; exact hj) = LV.pv (.sc (.slice none 0 0)) := by simp
        have e2 : ([pre ++ LV.own nx 0 0 0 :: suf].flatten)[pre.length]'hj = LV.own nx 0 0 0 := by simp
        rw [e1] at s3
        rw [e2]
        obtain rfl := s3.sc_inv
        refine .own _ _ _ _ _ (.inl rfl) ⟨none, 0, 0, rfl⟩ (fun L' hL' => ?_)
        simp only [Env.put, if_true, Option.some.injEq] at hL'
        subst hL'
        exact ⟨Nat.le_refl _, fun _ => ⟨⟨none, rfl⟩, rfl, rfl⟩⟩
      · have e3 : ([pre ++ LV.own nx 0 0 0 :: suf].flatten)[j]'hj = ([pre ++ LV.pv (.sc (.slice none 0 0)) :: suf].flatten)[j]'(by rw [← hlen]; exact hj) := by
          simp only [List.flatten_cons, List.flatten_nil, List.append_nil]
          rw [List.getElem_append, List.getElem_append]
          split
          · rfl
          · rw [List.getElem_cons, List.getElem_cons]
            rw [dif_neg (by omega), dif_neg (by omega)]
        rw [e3]; exact s3)
  have h' : LW P c (post P k Q) ⟨n, m⟩ ⟨nx + 1, upd id (.arr z [pre ++ .own nx 0 0 0 :: suf]) (upd nx (.arr sz []) mo)⟩ := h
  exact wpIn_mono (h' r _ w A h0 g3 (h2.mono g1) (h3.mono g1)) fun x A' w' q => lift_up g1 (.refl _ _) q
end
end Go.Lw

set_option linter.unusedVariables false
set_option linter.unusedSimpArgs false
namespace Go.Lw
def Env.move (E : Env) (a b : Nat) : Env := ⟨fun k => if k = b then E.f a else if k = a then Option.none else E.f k, E.U, E.F⟩
theorem Ext.move {E : Env} {w : World} {a b : Nat} {La Lb : Loc} (ha : E.f a = some La) (hb : E.f b = some Lb) (hlt : Lb.n < La.n) : Ext E w (E.move a b) w := by
  refine ⟨fun _ h => h, rfl, ?_, ?_, Nat.le_refl _, rfl, rfl⟩
  · intro k L h _
    simp only [Env.move] at h
    split at h
    · rename_i e; subst e
      rw [ha] at h; obtain rfl := Option.some.inj h
      exact ⟨Lb, hb, Nat.le_of_lt hlt, fun e => absurd e (Nat.ne_of_lt hlt)⟩
    · split at h
      · cases h
      · exact ⟨L, h, Nat.le_refl _, fun _ => rfl⟩
  · intro k _ h
    refine ⟨rfl, ?_⟩
    rintro ⟨i, L, hi, e⟩
    simp only [Env.move] at hi
    split at hi
    · exact h ⟨a, L, hi, e⟩
    · split at hi
      · cases hi
      · exact h ⟨i, L, hi, e⟩
theorem Sim.move {E : Env} {w : World} {nx a b sz : Nat} {mo : List (Nat × LO)} {rows rows' : List (List LV)} (hS : Sim E w ⟨nx, mo⟩) (hab : a ≠ b) (ha : look a mo = some (.arr sz rows)) {sz' : Nat} (hb : look b mo = some (.arr sz' rows')) (hlt : rows'.length < rows.length) : ∃ La Lb, E.f a = some La ∧ E.f b = some Lb ∧ Ext E w (E.move a b) w ∧ Sim (E.move a b) w ⟨nx, upd b (.arr sz rows) (del a mo)⟩ := by
  obtain ⟨La, a1, a2⟩ := hS.obj a _ ha
  obtain ⟨Lb, b1, b2⟩ := hS.obj b _ hb
  have hn : Lb.n < La.n := by rw [a2.2.1, b2.2.1]; exact hlt
  have hx := Ext.move (w := w) a1 b1 hn
  refine ⟨La, Lb, a1, b1, hx, ?_⟩
  have hf : ∀ k L, (E.move a b).f k = some L → (k = b ∧ E.f a = some L) ∨ (k ≠ b ∧ k ≠ a ∧ E.f k = some L) := by
    intro k L h
    simp only [Env.move] at h
    split at h
    · exact .inl ⟨‹_›, h⟩
    · split at h
      · cases h
      · exact .inr ⟨‹_›, ‹_›, h⟩
  refine ⟨fun k L h => ?_, fun i i' L L' c h h' e e' => ?_, fun k L c h e => ?_, hS.flow, hS.nx, fun k o hk => ?_⟩
  · rcases hf k L h with ⟨rfl, _⟩ | ⟨_, _, h⟩
    · exact hS.fresh k Lb b1
    · exact hS.fresh k L h
  · rcases hf i L h with ⟨r1, h1⟩ | ⟨r1, r2, h1⟩ <;> rcases hf i' L' h' with ⟨s1, k1⟩ | ⟨s1, s2, k1⟩
    · rw [r1, s1]
    · exact absurd (hS.sep _ _ _ _ _ h1 k1 e e') (Ne.symm s2)
    · exact absurd (hS.sep _ _ _ _ _ h1 k1 e e') r2
    · exact hS.sep _ _ _ _ _ h1 k1 e e'
  · rcases hf k L h with ⟨_, h⟩ | ⟨_, _, h⟩
    · exact hS.low a L c h e
    · exact hS.low k L c h e
  · simp only [LSt.get, look_upd] at hk
    split at hk
    · rename_i e
      obtain rfl := Option.some.inj hk
      exact ⟨La, by simp [Env.move, e, a1], a2.mono hx (fun _ _ => rfl)⟩
    · rename_i e
      rw [look_del] at hk
      split at hk
      · cases hk
      · rename_i e2
        obtain ⟨L, h1, h2⟩ := hS.obj k o hk
        exact ⟨L, by simp [Env.move, Ne.symm e, Ne.symm e2, h1], h2.mono hx (fun _ _ => rfl)⟩
theorem VRel.moved {E : Env} {w : World} {a b n off len : Nat} {V : Value} {La Lb : Loc} (ha : E.f a = some La) (hb : E.f b = some Lb) (hU : E.U b) (h : VRel E w (.own a n off len) V) : VRel (E.move a b) w (.own b n off len) V := by
  cases h with
  | own _ _ _ _ _ h1 hp h =>
    refine .own _ _ _ _ _ hU hp fun L hL => ?_
    simp only [Env.move, if_true] at hL
    exact h L hL
section
variable {P : Program} {Q : Exit → LAct → LSt → Prop} {n nx : Nat} {m : List (Nat × LV)} {mo mo2 : List (Nat × LO)} {c : Code} {k : List KI}
/-- From here on an array of our own goes by the number of one that has fewer rows; a temporary that names it is told anew. -/
theorem LK.move (a b t sz sz' nn off len : Nat) {rows rows' : List (List LV)} (hab : a ≠ b) (ha : lookB a mo = some (.arr sz rows)) (hb : lookB b mo = some (.arr sz' rows')) (hlt : rows'.length < rows.length) (ht : lookB t m = some (.own a nn off len)) (hm : upd b (.arr sz rows) (del a mo) = mo2)
    (h : LK P (.code c :: k) Q ⟨n, (t, .own b nn off len) :: m⟩ ⟨nx, mo2⟩) : LK P (.code c :: k) Q ⟨n, m⟩ ⟨nx, mo⟩ := by
  subst hm
  refine LK.lw fun r E w A h0 h1 h2 h3 => ?_
  rw [lookB_eq] at ha hb ht
  obtain ⟨La, Lb, a1, b1, hx, hS⟩ := h1.move hab ha hb hlt
  have hA : AR (E.move a b) w ⟨n, (t, .own b nn off len) :: m⟩ A := by
    have h2' := h2.mono hx
    refine ⟨h2'.1, fun u v hv => ?_⟩
    simp only [look] at hv
    split at hv
    · rename_i e; subst e
      obtain rfl := Option.some.inj hv
      exact (h2.2 _ _ ht).moved a1 b1 (h1.fresh b Lb b1)
    · exact h2'.2 u v hv
  have h' : LW P c (post P k Q) ⟨n, (t, .own b nn off len) :: m⟩ ⟨nx, upd b (.arr sz rows) (del a mo)⟩ := h
  exact wpIn_mono (h' r _ w A h0 hS hA (h3.mono hx)) fun x A' w' q => lift_up hx (.refl _ _) q
end
end Go.Lw

namespace Go.Lw
section
variable {P : Program} {ops : Array Oper} {Q : Exit → LAct → LSt → Prop} {rest : List Oper} {a : LAct} {σ : LSt}
theorem LOps.once {r : Option Nat} {E : Env} {w : World} {A : Act} {o : Oper} {V : Value} {w' : World} {E' : Env} {v : LV} {σ' : LSt} (hw : wantedL ops o a = some true) (hd : dstOk o a = true) (h2 : AR E w a A) (h3 : Marks E w A.defers)
    (hr : (execOp A.eval o).run P w = .ok (.value V) w') (g1 : Ext E w E' w') (g2 : Sim E' w' σ') (g3 : VRel E' w' v V) (h : LOps P ops Q rest (a.put o.dst v) σ') : wpListIn (wd r) 0 P ops (_root_.Go.Lw.lift E w A.defers Q) (o :: rest) A w := by
  refine wpList_value (wanted_of h2 hw) (.inl hr) ?_
  have hn := h r E' w' (A.put o.dst V) g2 ((h2.mono g1).put (dstOk_inv hd) g3) (defers_put (h3.mono g1))
  rw [put_defers] at hn
  exact LOps.lift g1 (.refl _ _) hn
end
end Go.Lw

set_option linter.unusedVariables false
set_option linter.unusedSimpArgs false
namespace Go.Lw
mutual
/-- The same with objects' numbers turned. -/
def LV.ren (g : Nat → Nat) : LV → LV
  | .pv p => .pv p
  | .own id n off len => .own (g id) n off len
  | .ptr id n i j => .ptr (g id) n i j
  | .rp sz rows i j => .rp sz rows i j
  | .agg l => .agg (LV.rens g l)
  | .tup l => .tup (LV.rens g l)
  | .fn f l => .fn f (LV.rens g l)
  | .mp id => .mp (g id)
def LV.rens (g : Nat → Nat) : List LV → List LV
  | [] => []
  | x :: r => x.ren g :: LV.rens g r
end
theorem rens_map (g : Nat → Nat) : ∀ l : List LV, LV.rens g l = l.map (LV.ren g)
  | [] => rfl
  | x :: r => by rw [LV.rens, rens_map g r, List.map_cons]
def LO.ren (g : Nat → Nat) : LO → LO
  | .arr sz rows => .arr sz (rows.map fun r => r.map (LV.ren g))
  | .map es => .map (es.map fun p => (p.1, p.2.ren g))
  | .loop l st pend n m ps as bd => .loop l st pend n (m.map fun p => (p.1, p.2.ren g)) ps as bd
  | .iter es seen => .iter es seen
def Env.ren (E : Env) (g : Nat → Nat) (N : Nat) : Env := ⟨fun k => if k < N then E.f (g k) else Option.none, fun k => k < N ∧ E.U (g k), E.F⟩
theorem Env.ren_f {E : Env} {g : Nat → Nat} {N k : Nat} {L : Loc} (h : (E.ren g N).f k = some L) : k < N ∧ E.f (g k) = some L := by
  simp only [Env.ren] at h
  split at h
  · exact ⟨‹_›, h⟩
  · cases h
theorem Env.ren_own {E : Env} {g : Nat → Nat} {N b : Nat} (h : (E.ren g N).Own b) : E.Own b := by
  obtain ⟨k, L, hk, e⟩ := h
  exact ⟨_, L, (Env.ren_f hk).2, e⟩
theorem Env.ren_prot {E : Env} {g : Nat → Nat} {N : Nat} {w : World} {b : Nat} (h : Prot E w b) : Prot (E.ren g N) w b ∧ w.heap[b]? = w.heap[b]? :=
  ⟨⟨h.1, fun k => h.2.1 (Env.ren_own k), h.2.2⟩, rfl⟩
theorem VRel.ren {E : Env} {w : World} {g : Nat → Nat} {N : Nat} {u : LV} {V : Value} (h : VRel E w u V) : ∀ v : LV, u = v.ren g → v.under N = true → VRel (E.ren g N) w v V := by
  induction h with
  | pv p V h =>
    intro v e hu
    cases v <;> simp only [LV.ren] at e <;> try (cases e)
    exact .pv p V (h.mono fun b hp => Env.ren_prot hp)
  | own id m off len V h1 h2 h =>
    intro v e hu
    cases v with
    | own id' n' off' len' =>
      simp only [LV.ren, LV.own.injEq] at e
      obtain ⟨rfl, rfl, rfl, rfl⟩ := e
      have hi : id' < N := by simpa [LV.under] using hu
      exact .own id' _ _ _ V ⟨hi, h1⟩ h2 fun L hL => h L (Env.ren_f hL).2
    | _ => simp only [LV.ren] at e; cases e
  | ptr id m i j V h1 h2 h =>
    intro v e hu
    cases v with
    | ptr id' n' i' j' =>
      simp only [LV.ren, LV.ptr.injEq] at e
      obtain ⟨rfl, rfl, rfl, rfl⟩ := e
      have hi : id' < N := by simpa [LV.under] using hu
      exact .ptr id' _ _ _ V ⟨hi, h1⟩ h2 fun L hL => h L (Env.ren_f hL).2
    | _ => simp only [LV.ren] at e; cases e
  | rp sz rows i j a c hs ht hc hv =>
    intro v e hu
    cases v <;> simp only [LV.ren] at e <;> try (cases e)
    exact .rp sz rows i j a c hs ⟨ht.1, (Env.ren_prot ht.2).1⟩ hc (fun j hj => (hv j hj).mono fun b hp => Env.ren_prot hp)
  | agg l Vs hl h ih =>
    intro v e hu
    cases v with
    | agg l' =>
      simp only [LV.ren, LV.agg.injEq, rens_map] at e
      subst e
      rw [under_agg, List.all_eq_true] at hu
      refine .agg l' Vs (by simpa using hl) fun i h1 h2 => ?_
      exact ih i (by simpa using h1) h2 _ (by rw [List.getElem_map]) (hu _ (List.getElem_mem h1))
    | _ => simp only [LV.ren] at e; cases e
  | tup l Vs hl h ih =>
    intro v e hu
    cases v with
    | tup l' =>
      simp only [LV.ren, LV.tup.injEq, rens_map] at e
      subst e
      rw [under_tup, List.all_eq_true] at hu
      refine .tup l' Vs (by simpa using hl) fun i h1 h2 => ?_
      exact ih i (by simpa using h1) h2 _ (by rw [List.getElem_map]) (hu _ (List.getElem_mem h1))
    | _ => simp only [LV.ren] at e; cases e
  | fn f l Vs hl h ih =>
    intro v e hu
    cases v with
    | fn f' l' =>
      simp only [LV.ren, LV.fn.injEq, rens_map] at e
      obtain ⟨rfl, rfl⟩ := e
      rw [under_fn, List.all_eq_true] at hu
      refine .fn _ l' Vs (by simpa using hl) fun i h1 h2 => ?_
      exact ih i (by simpa using h1) h2 _ (by rw [List.getElem_map]) (hu _ (List.getElem_mem h1))
    | _ => simp only [LV.ren] at e; cases e
  | mp id V h1 hp h =>
    intro v e hu
    cases v with
    | mp id' =>
      simp only [LV.ren, LV.mp.injEq] at e
      obtain rfl := e
      have hi : id' < N := by simpa [LV.under] using hu
      exact .mp id' V ⟨hi, h1⟩ hp fun L hL => h L (Env.ren_f hL).2
    | _ => simp only [LV.ren] at e; cases e
theorem ORel.ren {E : Env} {w : World} {g : Nat → Nat} {N : Nat} {L : Loc} {o : LO} (h : ORel E w L (o.ren g)) (hu : o.under N = true) : ORel (E.ren g N) w L o := by
  cases o with
  | arr sz rows =>
    obtain ⟨h1, h2, h3, h4⟩ := h
    have hfl : (rows.map fun r => r.map (LV.ren g)).flatten = rows.flatten.map (LV.ren g) := by rw [List.map_flatten]
    refine ⟨h1, by rw [List.length_map] at h2; exact h2, fun r hr => ?_, ?_⟩
    · have := h3 _ (List.mem_map_of_mem hr)
      rwa [List.length_map] at this
    · rcases h4 with h4 | ⟨b, C, g1, g2, g3, g4, g5, g6⟩
      · exact .inl h4
      · refine .inr ⟨b, C, g1, g2, g3, g4, g5, fun j hj => ?_⟩
        obtain ⟨V, k1, k2, k3⟩ := g6 j (by rw [hfl, List.length_map]; exact hj)
        refine ⟨V, k1, k2, k3.ren _ ?_ ?_⟩
        · simp only [hfl, List.getElem_map]
        · simp only [LO.under, List.all_eq_true] at hu
          obtain ⟨r, hr, hm⟩ := List.mem_flatten.1 (List.getElem_mem hj)
          exact hu r hr _ hm
  | map es =>
    obtain ⟨h1, b, kvs, clock, g1, g2, g3, g4, g5, g6⟩ := h
    refine ⟨h1, b, kvs, clock, g1, g2, by rw [List.length_map] at g3; exact g3, fun j hj => ?_, g5, g6⟩
    obtain ⟨e, k1, k2, k3, k4⟩ := g4 j (by rw [List.length_map]; exact hj)
    rw [List.getElem_map] at k2 
    refine ⟨e, k1, k2, k3, k4.ren _ (by rw [List.getElem_map]) ?_⟩
    simp only [LO.under, List.all_eq_true] at hu
    exact hu _ (List.getElem_mem hj)
  | loop l st pend k m ps as bd =>
    obtain ⟨h1, h2, r, g1, g2, g3, g4, g5, g6, g7, g8⟩ := h
    simp only [LO.under, List.all_eq_true] at hu
    refine ⟨h1, h2, r, g1, g2, g3, g4, g5, g6, g7, fun t v hm => ?_⟩
    exact (g8 t (v.ren g) (by rw [look_mapv, hm]; rfl)).ren v rfl (hu _ (look_mem0 t v m hm))
  | iter es seen => exact ⟨h.1, h.2.1, h.2.2.imp (fun b hp => Env.ren_prot hp) (fun _ _ => rfl)⟩
/-- Of the state (a, σ) no more is known than (a', σ'), in which objects go by other numbers. -/
def SubR (g : Nat → Nat) (a : LAct) (σ : LSt) (a' : LAct) (σ' : LSt) : Prop :=
  a'.n = a.n ∧ (∀ p ∈ a'.m, look p.1 a.m = some (p.2.ren g) ∧ p.2.under σ'.nx = true) ∧ (∀ p ∈ σ'.m, σ.get (g p.1) = some (p.2.ren g) ∧ p.1 < σ'.nx ∧ p.2.under σ'.nx = true)
theorem SubR.use {g : Nat → Nat} {a a' : LAct} {σ σ' : LSt} (h : SubR g a σ a' σ') {n0 : Nat} (hle : n0 ≤ σ'.nx) (hid : ∀ k, k < n0 → g k = k) (hinj : ∀ i j, i < σ'.nx → j < σ'.nx → g i = g j → i = j)
    {E0 E : Env} {w0 w : World} {A : Act} (hx : Ext E0 w0 E w) (hn : ∀ k, E0.U k → k < n0) (hS : Sim E w σ) (hA : AR E w a A) :
    ∃ E', Ext E0 w0 E' w ∧ Sim E' w σ' ∧ AR E' w a' A ∧ ∀ b, E'.Own b → E.Own b := by
  refine ⟨E.ren g σ'.nx, ?_, ?_, ⟨hA.1.trans h.1.symm, fun t v hv => ?_⟩, fun b hb => Env.ren_own hb⟩
  · refine ⟨fun k hk => ⟨Nat.lt_of_lt_of_le (hn k hk) hle, by rw [hid k (hn k hk)]; exact hx.U k hk⟩, hx.F, ?_, fun b hb ho => ⟨(hx.heap b hb ho).1, fun k => (hx.heap b hb ho).2 (Env.ren_own k)⟩, hx.size, hx.os, hx.output⟩
    intro id L hL hu
    have := (Env.ren_f hL).2
    rw [hid id (hn id hu)] at this
    exact hx.ids id L this hu
  · refine ⟨fun k L h => ⟨(Env.ren_f h).1, hS.fresh _ L (Env.ren_f h).2⟩, fun i i' L L' b h h' e e' => ?_, fun k L b h => hS.low _ L b (Env.ren_f h).2, hS.flow, fun k hk => hk.1, ?_⟩
    · obtain ⟨a1, a2⟩ := Env.ren_f h
      obtain ⟨b1, b2⟩ := Env.ren_f h'
      exact hinj _ _ a1 b1 (hS.sep _ _ L L' b a2 b2 e e')
    · intro id o ho
      obtain ⟨h1, h2, h3⟩ := h.2.2 (id, o) (look_mem _ _ _ ho)
      obtain ⟨L, g1, g2⟩ := hS.obj _ _ h1
      exact ⟨L, by simp only [Env.ren, if_pos h2]; exact g1, g2.ren h3⟩
  · obtain ⟨h1, h2⟩ := h.2.1 (t, v) (look_mem _ _ _ hv)
    exact (hA.2 t _ h1).ren v rfl h2
section
variable {P : Program} {Q : Exit → LAct → LSt → Prop} {a : LAct} {σ : LSt}
theorem LW.loopR {α : Type} {c : Code} (m : α → Nat) (ok : α → Prop) (A : α → LAct) (S : α → LSt) (s₀ : α) (h₀ : ok s₀) (hnx0 : (S s₀).nx = σ.nx) (hnx : ∀ s, ok s → σ.nx ≤ (S s).nx) (hs : Sub a σ (A s₀) (S s₀))
    (round : ∀ s, ok s → ∀ K : LAct → LSt → Prop, (∀ a' σ', (∃ s' g, ok s' ∧ m s' < m s ∧ (∀ k, k < σ.nx → g k = k) ∧ (∀ i j, i < (S s').nx → j < (S s').nx → g i = g j → i = j) ∧ SubR g a' σ' (A s') (S s')) → K a' σ') → LW P c (thenQ K Q) (A s) (S s)) : LW P (.loop c) Q a σ := by
  intro r E w B h0 h1 h2 h3
  have hnxE : ∀ k, E.U k → k < σ.nx := h1.nx
  refine wpIn_loop_ghost (fun n B' w' => ∃ s E', ok s ∧ m s = n ∧ Ext E w E' w' ∧ Sim E' w' (S s) ∧ AR E' w' (A s) B' ∧ Marks E' w' B'.defers ∧ More w B.defers B'.defers) (m s₀) ?_ ?_
  · obtain ⟨E', g1, g2, g3⟩ := hs.use (Ext.refl E w) (by rw [hnx0]; exact hnxE) h1 h2
    exact ⟨s₀, E', h₀, rfl, g1, g2, g3, h3.mono g1, .refl _ _⟩
  · rintro n B' w' ⟨s, E', hok, rfl, g1, g2, g3, g4, g6⟩
    refine wpIn_mono (round s hok _ (fun _ _ h => h) r E' w' B' h0 g2 g3 g4) ?_
    rintro x A2 w2 q
    obtain ⟨hc, a2, σ2, E2, k1, k2, k3, k4, k5⟩ := lift_up g1 g6 q
    cases x with
    | normal =>
      obtain ⟨s', g, j1, j2, j3, j4, j5⟩ := k5
      obtain ⟨E3, l1, l2, l3, l4⟩ := j5.use (hnx s' j1) j3 j4 k1 hnxE k2 k3
      exact ⟨m s', j2, s', E3, j1, rfl, l1, l2, l3, ⟨k4.1.less l4, k4.2⟩⟩
    | panic c => exact hc.elim
    | outgrown => exact hc.elim
    | exit id => exact ⟨hc, a2, σ2, E2, k1, k2, k3, k4, k5⟩
    | goto l => exact ⟨hc, a2, σ2, E2, k1, k2, k3, k4, k5⟩
    | ret => exact ⟨hc, a2, σ2, E2, k1, k2, k3, k4, k5⟩
/-- A loop whose objects, laid since it began, may go by other numbers from round to round. -/
theorem LK.loopR {α : Type} {c : Code} {k : List KI} (m : α → Nat) (ok : α → Prop) (A : α → LAct) (S : α → LSt) (s₀ : α) (h₀ : ok s₀) (hnx0 : (S s₀).nx = σ.nx) (hnx : ∀ s, ok s → σ.nx ≤ (S s).nx) (hs : Sub a σ (A s₀) (S s₀))
    (round : ∀ s, ok s → ∀ J : LAct → LSt → Prop, (∀ a' σ', (∃ s' g, ok s' ∧ m s' < m s ∧ (∀ k, k < σ.nx → g k = k) ∧ (∀ i j, i < (S s').nx → j < (S s').nx → g i = g j → i = j) ∧ SubR g a' σ' (A s') (S s')) → J a' σ') → LK P (.code c :: .fin J :: k) Q (A s) (S s)) : LK P (.code (.loop c) :: k) Q a σ :=
  LK.lw (LW.loopR m ok A S s₀ h₀ hnx0 hnx hs fun s hok J hJ => round s hok J hJ)
end
end Go.Lw

set_option linter.unusedVariables false
set_option linter.unusedSimpArgs false
namespace Go.Lw
/-- An array of our own goes by a new number. -/
theorem Sim.anew {E : Env} {w : World} {nx id sz : Nat} {m : List (Nat × LO)} {rows : List (List LV)} (hS : Sim E w ⟨nx, m⟩) (hg : look id m = some (.arr sz rows)) :
    ∃ E', Ext E w E' w ∧ Sim E' w ⟨nx + 1, (nx, .arr sz rows) :: del id m⟩ ∧ ∀ V n off len, VRel E w (.own id n off len) V → VRel E' w (.own nx n off len) V := by
  obtain ⟨L, a1, a2⟩ := hS.obj id _ hg
  have hidU := hS.fresh _ _ a1
  have hidlt : id < nx := hS.nx _ hidU
  have hnU : ¬ E.U nx := fun h => Nat.lt_irrefl _ (hS.nx _ h)
  have hf : ∀ k L', (if k = nx then E.f id else if k = id then Option.none else E.f k) = some L' → (k = nx ∧ E.f id = some L') ∨ (k ≠ nx ∧ k ≠ id ∧ E.f k = some L') := by
    intro k L' h
    split at h
    · exact .inl ⟨‹_›, h⟩
    · split at h
      · cases h
      · exact .inr ⟨‹_›, ‹_›, h⟩
  have hx : Ext E w ⟨fun k => if k = nx then E.f id else if k = id then Option.none else E.f k, fun k => k = nx ∨ E.U k, E.F⟩ w := by
    refine ⟨fun k h => .inr h, rfl, ?_, ?_, Nat.le_refl _, rfl, rfl⟩
    · intro k L' h hu
      rcases hf k L' h with ⟨rfl, _⟩ | ⟨_, _, h⟩
      · exact absurd hu hnU
      · exact ⟨L', h, Nat.le_refl _, fun _ => rfl⟩
    · intro b _ h
      refine ⟨rfl, ?_⟩
      rintro ⟨k, L', hk, e⟩
      rcases hf k L' hk with ⟨_, h'⟩ | ⟨_, _, h'⟩
      · exact h ⟨id, L', h', e⟩
      · exact h ⟨k, L', h', e⟩
  refine ⟨_, hx, ⟨?_, ?_, ?_, hS.flow, ?_, ?_⟩, ?_⟩
  · intro k L' h
    rcases hf k L' h with ⟨rfl, _⟩ | ⟨_, _, h⟩
    · exact .inl rfl
    · exact .inr (hS.fresh k L' h)
  · intro i i' L1 L2 c h h' e e'
    rcases hf i L1 h with ⟨r1, h1⟩ | ⟨r1, r2, h1⟩ <;> rcases hf i' L2 h' with ⟨s1, k1⟩ | ⟨s1, s2, k1⟩
    · rw [r1, s1]
    · exact absurd (hS.sep _ _ _ _ _ h1 k1 e e') (Ne.symm s2)
    · exact absurd (hS.sep _ _ _ _ _ h1 k1 e e') r2
    · exact hS.sep _ _ _ _ _ h1 k1 e e'
  · intro k L' c h e
    rcases hf k L' h with ⟨_, h⟩ | ⟨_, _, h⟩
    · exact hS.low id L' c h e
    · exact hS.low k L' c h e
  · rintro k (rfl | h)
    · exact Nat.lt_succ_self _
    · exact Nat.lt_succ_of_lt (hS.nx k h)
  · intro k o hk
    simp only [LSt.get, look] at hk
    split at hk
    · rename_i e
      obtain rfl := Option.some.inj hk
      exact ⟨L, by simp [← e, a1], a2.mono hx (fun _ _ => rfl)⟩
    · rename_i e
      rw [look_del] at hk
      split at hk
      · cases hk
      · rename_i e2
        obtain ⟨L', h1, h2⟩ := hS.obj k o hk
        exact ⟨L', by simp [Ne.symm e, Ne.symm e2, h1], h2.mono hx (fun _ _ => rfl)⟩
  · intro V n off len h
    cases h with
    | own _ _ _ _ _ h1 hp h =>
      refine .own _ _ _ _ _ (.inl rfl) hp fun L' hL => ?_
      simp only [if_true] at hL
      exact h L' hL
theorem run_append_room_off {P : Program} (w : World) (t ty e e' : TypeId) (i : TypeInfo) (ht : P.underlying t = some (.slice e)) (hi : P.info? e = some i)
    (g p sLen sCap : Nat) (cur : Array Value) (hg : w.heap[g]? = some (.cells cur e' (0, 0)))
    (a : Addr) (m c : Nat) (news : List Value) (hl : news.length = m * i.size) (hnews : ∀ j u, news[j]? = some u → w.cell? (a.add j) = some u) (h1 : ∀ u ∈ news, u.oneCell' = true)
    (hroom : sLen + m ≤ sCap) (hfit : p + sLen * i.size + news.length ≤ cur.size) :
    (Builtin.append_ #[t, t] ty #[.slice (some ⟨g, p, none⟩) sLen sCap, .slice (some a) m c]).run P w =
      .ok (.slice (some ⟨g, p, none⟩) (sLen + m) sCap) (w.setRow g (cur.toList.take (p + sLen * i.size) ++ news ++ cur.toList.drop (p + sLen * i.size + news.length)).toArray) := by
  have hf := run_firstCells_some (P := P) w i.size m a m c news hl hnews
  have hst := run_storeCells_at P g (p + sLen * i.size) e' news 0 cur w hg (by simpa using hfit) h1
  simp only [Nat.add_zero] at hst
  simp [Builtin.append_, run_underlying ht, Go.sizeOf, typeInfo, hi, Builtin.lenOf, hroom, hf, Addr.add_lit, hst]
set_option maxHeartbeats 4000000 in
theorem append_off {P : Program} {t ty e : TypeId} {sz by_ : Nat} {z : Value} (ht : telem P t = some e) (hs : tsize P e = some sz) (hb : tbytes P e = some by_) (hz : tzero P e = some z) (hzs : z.cells.size = sz) (hpos : 0 < sz)
    {E : Env} {w : World} {nx : Nat} {mo : List (Nat × LO)} (hS : Sim E w ⟨nx, mo⟩) {id n off len : Nat} {V : Value} (hv : VRel E w (.own id n off len) V) {old : List (List LV)} (hg : look id mo = some (.arr sz old)) (hn : old.length = n) (ho : off + len = n)
    {x : LV} {X : Value} (hx : VRel E w x X) {rows : List (List LV)} (hr : srcRows sz ⟨nx, mo⟩ x = some rows) (h0 : 0 < rows.length) (hm : len + rows.length ≤ maxLen) (hby : (len + rows.length) * by_ ≤ 140737488355328) :
    ∃ U w' E' R n' off', (Builtin.append_ #[t, t] ty #[V, X]).run P w = .ok U w' ∧ Ext E w E' w' ∧ Sim E' w' ⟨nx + 1, (nx, .arr sz R) :: del id mo⟩ ∧ VRel E' w' (.own nx n' off' (len + rows.length)) U ∧
      R.length = n' ∧ off' + (len + rows.length) = n' ∧ ((R = old ++ rows ∧ off' = off) ∨ (R = old.drop off ++ rows ∧ off' = 0)) := by
  obtain ⟨L, l1, l2, l3, l4⟩ := own_val hS hv hg hn
  have hidlt := hS.fresh _ _ l1
  obtain ⟨L', q1, q2, q3, q4, q5⟩ := hS.obj id _ hg
  obtain rfl : L = L' := by rw [l1] at q1; simpa using q1
  have hsl := l4
  unfold Loc.isSlice at hsl
  obtain ⟨i, i1, i2, i3, i4⟩ := info_of hs hb hz
  have hu := telem_inv ht
  rcases q5 with ⟨e0, e1, e2⟩ | ⟨b, C, e1, e2, e3, e4, e5, e6⟩
  · rw [e0] at hsl
    obtain ⟨⟨a, rfl⟩, rfl, rfl⟩ := hsl
    obtain rfl : n = 0 := by omega
    have hold : old = [] := List.eq_nil_of_length_eq_zero (by omega)
    subst hold
    obtain ⟨U, w', E', h1, h2, h3, h4⟩ := append_none (ty := ty) ht hs hb hz hzs hpos hS (a := a) (id := nx) (.inr rfl) hx hr (by simpa using hm) (by simpa using hby)
    have h3' : Sim E' w' ⟨nx + 1, (nx, .arr sz rows) :: mo⟩ := by
      refine ⟨h3.fresh, h3.sep, h3.low, h3.flow, fun k hk => ?_, fun k o hk => ?_⟩
      · have := h3.nx k hk; simpa [LSt.put] using this
      · refine h3.obj k o ?_
        simp only [LSt.get, LSt.put, look_upd]
        simp only [LSt.get, look] at hk
        exact hk
    have h5 := h3'.drop id
    have hne : nx ≠ id := by have := hS.nx _ hidlt; simp only at this; omega
    simp only [LSt.drop, del, if_neg hne] at h5
    refine ⟨U, w', _, rows, rows.length, 0, h1, h2.trans (Ext.drop E' w' id), h5, ?_, rfl, by omega, .inr ⟨by simp, rfl⟩⟩
    rw [Nat.zero_add]
    exact h4.mono (Ext.drop E' w' id)
  · rw [e1] at hsl
    obtain ⟨r1, a, rfl, r2⟩ := hsl
    obtain ⟨xb, c, Vs, rfl, hc, hA⟩ := src_sound hS hx hr
    have hfl : rows.flatten.length = Vs.length := by rw [flatten_len sz rows hA.row, hA.len]
    have hrow : ∀ r ∈ old ++ rows, r.length = sz := by
      intro r h
      rcases List.mem_append.1 h with h | h
      · exact q4 r h
      · exact hA.row r h
    have hnsz : off * sz + len * sz = n * sz := by rw [← Nat.add_mul, ho]
    have hofl : old.flatten.length = n * sz := by rw [flatten_len sz old q4, hn]
    have hCs : n * sz ≤ C.size := by rw [e5, l2]; exact Nat.mul_le_mul_right _ (by omega)
    have holdlen : (C.toList.take (n * sz)).length = n * sz := by simp; omega
    have hCold : ∀ j (hj : j < n * sz), ∃ V, (C.toList.take (n * sz))[j]? = some V ∧ V.oneCell' = true ∧ C[j]? = some V := by
      intro j hj
      obtain ⟨V, v1, v2, _⟩ := e6 j (by omega)
      exact ⟨V, by rw [List.getElem?_take, if_pos hj, Array.getElem?_toList, v1], v2, v1⟩
    have hrel1 : ∀ (E' : Env) (w' : World), Ext E w E' w' → ∀ j (h1 : j < old.flatten.length) (h2 : j < (C.toList.take (n * sz)).length), VRel E' w' old.flatten[j] (C.toList.take (n * sz))[j] := by
      intro E' w' hX j h1 h2
      obtain ⟨V, v1, v2, v3⟩ := e6 j h1
      have : (C.toList.take (n * sz))[j] = V := by
        apply Option.some.inj
        rw [← List.getElem?_eq_getElem, List.getElem?_take, if_pos (by omega), Array.getElem?_toList, v1]
      rw [this]; exact v3.mono hX
    obtain ⟨b', rfl, hcell⟩ := hA.src hpos (by omega)
    by_cases hroom : len + rows.length ≤ L.cap - off
    · obtain rfl := r2 (by omega)
      have hfit : off * L.sz + len * i.size + Vs.length ≤ C.size := by
        rw [i2, hA.len, e5, l2, ← Nat.add_mul, ← Nat.add_mul]; exact Nat.mul_le_mul_right _ (by omega)
      have hrun := run_append_room_off (P := P) w t ty e L.e i hu i1 b (off * L.sz) len (L.cap - off) C e2 b' rows.length c Vs (by rw [hA.len, i2]) hcell hA.one hroom hfit
      rw [i2, l2, hnsz] at hrun
      have hput := hS.put (w' := w.setRow b (C.toList.take (n * sz) ++ Vs ++ C.toList.drop (n * sz + Vs.length)).toArray) (id := id) (L' := { L with n := n + rows.length }) (o := .arr sz (old ++ rows))
        (.inl ⟨L, l1, .inr (by show L.n < n + rows.length; omega)⟩) (fun k _ hne => setRow_other w b k _ (fun e => hne L l1 (by rw [e1, e]))) (fun b' hb => .inr ⟨L, l1, hb⟩) (by simp) rfl rfl rfl
        (fun hX => ⟨l2, by simp [hn], hrow, .inr ⟨b, _, e1, setRow_heap w b C _ L.e _ e2, by show n + rows.length ≤ L.cap; omega, e4, by
          simp only [List.size_toArray, List.length_append, holdlen, List.length_drop, Array.length_toList]; rw [i2, l2, hnsz] at hfit; rw [← e5]; omega, fun j hj => by
            obtain ⟨V, v1, v2⟩ := flatten_append_rel (r2 := rows) (V2 := Vs) q4 (by rw [holdlen, hn]) (hrel1 _ _ hX) (fun j k1 k2 => (hA.rel j k1 k2).mono hX) hfl j hj
            refine ⟨V, ?_, ?_, v2⟩
            · have hj' := (List.getElem?_eq_some_iff.1 v1).1
              rw [List.getElem?_toArray, List.getElem?_append_left hj', v1]
            · rcases Nat.lt_or_ge j (n * sz) with c | c
              · obtain ⟨V', w1, w2, _⟩ := hCold j c
                rw [List.getElem?_append_left (by omega), w1] at v1
                rw [← Option.some.inj v1]; exact w2
              · rw [List.getElem?_append_right (by omega)] at v1
                exact hA.one _ (List.mem_of_getElem? v1)⟩⟩)
      have hid' := hS.nx _ hidlt
      simp only at hid'
      have hS1 := hput.2
      simp only [LSt.put, if_pos hid'] at hS1
      obtain ⟨E2, k1, k2, k3⟩ := Sim.anew (id := id) (sz := sz) (rows := old ++ rows) hS1 (by rw [look_upd]; simp)
      have hdd : ∀ l : List (Nat × LO), del id (upd id (.arr sz (old ++ rows)) l) = del id l := by
        intro l
        induction l with
        | nil => simp [upd, del]
        | cons p l ih =>
          obtain ⟨k, o⟩ := p
          by_cases e : k = id
          · simp [upd, del, e]
          · simp [upd, del, e, ih]
      rw [hdd] at k2
      rw [l2]
      refine ⟨_, _, E2, old ++ rows, n + rows.length, off, hrun, hput.1.trans k1, k2, k3 _ _ _ _ ?_, by simp [hn], by omega, .inl ⟨rfl, rfl⟩⟩
      refine .own _ _ _ _ _ (.inl rfl) ⟨_, _, _, rfl⟩ fun L2 hL => ?_
      have : ({ L with n := n + rows.length } : Loc) = L2 := by simpa [Env.put] using hL
      subst this
      refine ⟨Nat.le_refl _, fun _ => ?_⟩
      unfold Loc.isSlice
      simp only [e1]
      exact ⟨by omega, ⟨b, off * sz, none⟩, by simp, fun _ => by simp [l2]⟩
    · have hdl : ((C.toList.take (n * sz)).drop (off * sz)).length = len * sz := by rw [List.length_drop, holdlen]; omega
      have holds : ∀ j v, ((C.toList.take (n * sz)).drop (off * sz))[j]? = some v → w.cell? (a.add j) = some v := by
        intro j v hj
        have hlt : j < len * sz := by have := (List.getElem?_eq_some_iff.1 hj).1; omega
        have hpn : 0 < len := Nat.pos_of_mul_pos_right (by omega : 0 < len * sz)
        obtain rfl := r2 (by omega)
        rw [addr_add, cell_at e2, ← hj, List.getElem?_drop, List.getElem?_take, if_pos (by omega), Array.getElem?_toList, l2]
      obtain ⟨hge, hle, hsize, hget⟩ := grown_ok (w := w) (news := Vs) (olds := (C.toList.take (n * sz)).drop (off * sz)) (need := len + rows.length) (old := L.cap - off) (e := e) hzs (by rw [hdl, hA.len, Nat.add_mul]) hm
      have hrun := run_append_grow (P := P) w t ty e i z hu i1 i4 a len (L.cap - off) ((C.toList.take (n * sz)).drop (off * sz)) (by rw [hdl, i2]) holds b' rows.length c Vs (by rw [hA.len, i2]) hcell (by omega) (by simp only [maxLen] at hm; omega) (by rw [i3]; exact growslice_fits (by omega) hby)
      generalize hK : grownCap w (len + rows.length) (L.cap - off) e = K at hge hle hsize hget hrun
      generalize hCn : ((C.toList.take (n * sz)).drop (off * sz)).toArray ++ Vs.toArray ++ Builtin.zeroCells z.cells (K - (len + rows.length)) = Cn at hsize hget hrun
      have hnew : (w.drew.alloc (.cells Cn e)).heap[w.heap.size]? = some (.cells Cn e (0, 0)) := heap_alloc_new w.drew _
      have hod : (old.drop off).length = len := by rw [List.length_drop]; omega
      have hrow2 : ∀ r ∈ old.drop off ++ rows, r.length = sz := by
        intro r hr'
        rcases List.mem_append.1 hr' with h | h
        · exact q4 r (List.mem_of_mem_drop h)
        · exact hA.row r h
      have hfd : (old.drop off).flatten = old.flatten.drop (off * sz) := by
        have := flatten_drop_take sz old q4 off len
        have e1 : (old.drop off).take len = old.drop off := List.take_of_length_le (by omega)
        rw [e1] at this
        rw [this]
        exact List.take_of_length_le (by rw [List.length_drop, hofl]; omega)
      have hdrel : ∀ (E' : Env) (w' : World), Ext E w E' w' → ∀ j (h1 : j < (old.drop off).flatten.length) (h2 : j < ((C.toList.take (n * sz)).drop (off * sz)).length), VRel E' w' (old.drop off).flatten[j] ((C.toList.take (n * sz)).drop (off * sz))[j] := by
        intro E' w' hX j h1 h2
        have hlt : off * sz + j < old.flatten.length := by rw [hdl] at h2; omega
        have hr1 := hrel1 E' w' hX (off * sz + j) hlt (by rw [holdlen]; omega)
        have e1 : (old.drop off).flatten[j] = old.flatten[off * sz + j] := by
          apply Option.some.inj
          rw [← List.getElem?_eq_getElem, ← List.getElem?_eq_getElem, hfd, List.getElem?_drop]
        rw [e1, List.getElem_drop]
        exact hr1
      have hcells : ∀ (E' : Env) (w' : World), Ext E w E' w' → ∀ j (hj : j < (old.drop off ++ rows).flatten.length), ∃ V, Cn[j]? = some V ∧ V.oneCell' = true ∧ VRel E' w' (old.drop off ++ rows).flatten[j] V := by
        intro E' w' hX j hj
        obtain ⟨V, v1, v2⟩ := flatten_append_rel (sz := sz) (r2 := rows) (V2 := Vs) (fun r hr => q4 r (List.mem_of_mem_drop hr)) (by rw [hdl, hod]) (hdrel E' w' hX) (fun j k1 k2 => (hA.rel j k1 k2).mono hX) hfl j hj
        refine ⟨V, hget j V v1, ?_, v2⟩
        rcases Nat.lt_or_ge j (len * sz) with c | c
        · obtain ⟨V', w1, w2, _⟩ := hCold (off * sz + j) (by omega)
          rw [List.getElem?_append_left (by omega), List.getElem?_drop, w1] at v1
          rw [← Option.some.inj v1]; exact w2
        · rw [List.getElem?_append_right (by omega)] at v1
          exact hA.one _ (List.mem_of_getElem? v1)
      have hput := hS.put (w' := w.drew.alloc (.cells Cn e)) (id := nx) (L' := ⟨some w.heap.size, len + rows.length, K, sz, e⟩) (o := .arr sz (old.drop off ++ rows))
        (.inr fun h => Nat.lt_irrefl _ (hS.nx _ h))
        (fun k hk _ => by show (w.heap.push _)[k]? = _; rw [Array.getElem?_push, if_neg (by omega)]) (fun b hb => .inl (by simp only [Option.some.injEq] at hb; subst hb; simp)) (by simp) rfl rfl rfl
        (fun hX => ⟨rfl, by rw [List.length_append, hod], hrow2, .inr ⟨w.heap.size, Cn, rfl, hnew, hge, hle, hsize, hcells _ _ hX⟩⟩)
      have h3' : Sim (E.put nx ⟨some w.heap.size, len + rows.length, K, sz, e⟩) (w.drew.alloc (.cells Cn e)) ⟨nx + 1, (nx, .arr sz (old.drop off ++ rows)) :: mo⟩ := by
        have h3 := hput.2
        refine ⟨h3.fresh, h3.sep, h3.low, h3.flow, fun k hk => ?_, fun k o hk => ?_⟩
        · have := h3.nx k hk; simpa [LSt.put] using this
        · refine h3.obj k o ?_
          simp only [LSt.get, LSt.put, look_upd]
          simp only [LSt.get, look] at hk
          exact hk
      have h5 := h3'.drop id
      have hne : nx ≠ id := by have := hS.nx _ hidlt; simp only at this; omega
      simp only [LSt.drop, del, if_neg hne] at h5
      refine ⟨_, _, _, old.drop off ++ rows, len + rows.length, 0, hrun, hput.1.trans (Ext.drop _ _ id), h5, ?_, by rw [List.length_append, hod], by omega, .inr ⟨rfl, rfl⟩⟩
      refine VRel.mono (Ext.drop _ _ id) (.own _ _ _ _ _ (.inl rfl) ⟨_, _, _, rfl⟩ fun L2 hL => ?_)
      have : (⟨some w.heap.size, len + rows.length, K, sz, e⟩ : Loc) = L2 := by simpa [Env.put] using hL
      subst this
      refine ⟨Nat.le_refl _, fun _ => ?_⟩
      unfold Loc.isSlice
      simp only
      exact ⟨by omega, ⟨w.heap.size, 0, none⟩, by simp, fun _ => by simp⟩
section
variable {P : Program} {ops : Array Oper} {Q : Exit → LAct → LSt → Prop} {rest : List Oper} {n0 nx : Nat} {m : List (Nat × LV)} {mo : List (Nat × LO)}
/-- 'append' onto the end part of an array of our own. -/
theorem LOps.appendOff {o : Oper} {t e : TypeId} {sz by_ : Nat} {zc : List LV} {x y : Operand} {id n off len : Nat} {v : LV} {old rows : List (List LV)} (ho : o.op = .call { callee := .builtin .append, args := #[x, y], argTypes := #[t, t] }) (hw : wantedL ops o ⟨n0, m⟩ = some true) (hd : dstOk o ⟨n0, m⟩ = true) (ht : telemZ P t = some (e, sz, by_, zc))
    (hx : LAct.ev ⟨n0, m⟩ x = some (.own id n off len)) (hy : LAct.ev ⟨n0, m⟩ y = some v) (hg : lookB id mo = some (.arr sz old)) (hr : srcRows sz ⟨nx, mo⟩ v = some rows) (hn : old.length = n) (hol : off + len = n) (h0 : 0 < rows.length) (hm : len + rows.length ≤ maxLen ∧ (len + rows.length) * by_ ≤ 140737488355328)
    (h : ∀ R n' off', R.length = n' → off' + (len + rows.length) = n' → (R = old ++ rows ∧ off' = off) ∨ (R = old.drop off ++ rows ∧ off' = 0) → LOps P ops Q rest (LAct.put ⟨n0, m⟩ o.dst (.own nx n' off' (len + rows.length))) ⟨nx + 1, (nx, .arr sz R) :: del id mo⟩) : LOps P ops Q (o :: rest) ⟨n0, m⟩ ⟨nx, mo⟩ := by
  intro r E w A h1 h2 h3
  obtain ⟨z, he, hs, hb, hzz, hpos, hzl, hzf, rfl, hzs⟩ := telemZ_inv ht
  rw [lookB_eq] at hg
  obtain ⟨U, w', E', R, n', off', k1, k2, k3, k4, k5, k6, k7⟩ := append_off (ty := o.type) he hs hb hzz hzs hpos h1 (h2.ev hx) hg hn hol (h2.ev hy) hr h0 hm.1 hm.2
  refine LOps.once hw hd h2 h3 (V := U) ?_ k2 k3 k4 (h R n' off' k5 k6 k7)
  simp only [execOp, ho, resolve, Sem.run_bind, Sem.run_pure, Result.andThen_ok, invoke]
  simp [builtin, Sem.run_bind, k1]
end
end Go.Lw

set_option linter.unusedVariables false
set_option linter.unusedSimpArgs false
namespace Go.Lw
section
variable {P : Program} {Q : Exit → LAct → LSt → Prop} {n : Nat} {m : List (Nat × LV)} {σ : LSt} {c : Code} {k : List KI}
theorem LK.less (t : Nat) {v v' : LV} (ht : lookB t m = some v) (hle : v.le v') (h : LK P (.code c :: k) Q ⟨n, (t, v') :: m⟩ σ) : LK P (.code c :: k) Q ⟨n, m⟩ σ := by
  refine LK.lw fun r E w A h0 h1 h2 h3 => ?_
  rw [lookB_eq] at ht
  have hA : AR E w ⟨n, (t, v') :: m⟩ A := by
    refine ⟨h2.1, fun u x hx => ?_⟩
    simp only [look] at hx
    split at hx
    · rename_i e; subst e
      obtain rfl := Option.some.inj hx
      exact hle _ _ _ (h2.2 _ _ ht)
    · exact h2.2 u x hx
  have h' : LW P c (post P k Q) ⟨n, (t, v') :: m⟩ σ := h
  exact h' r E w A h0 h1 hA h3
end
end Go.Lw

set_option linter.unusedVariables false
set_option linter.unusedSimpArgs false
namespace Go.Lw
/-- Whatever stands as (a, σ) stands as (a', σ') too, nothing being done. -/
def Becomes (a : LAct) (σ : LSt) (a' : LAct) (σ' : LSt) : Prop :=
  ∀ E w A, Sim E w σ → AR E w a A → ∃ E', Ext E w E' w ∧ Sim E' w σ' ∧ AR E' w a' A
theorem Becomes.trans {a b c : LAct} {σ τ υ : LSt} (h : Becomes a σ b τ) (k : Becomes b τ c υ) : Becomes a σ c υ := by
  intro E w A h1 h2
  obtain ⟨E', g1, g2, g3⟩ := h E w A h1 h2
  obtain ⟨E2, k1, k2, k3⟩ := k E' w A g2 g3
  exact ⟨E2, g1.trans k1, k2, k3⟩
theorem Becomes.sub {a a' : LAct} {σ σ' : LSt} (hs : Sub a σ a' σ') (hn : σ.nx ≤ σ'.nx) : Becomes a σ a' σ' := by
  intro E w A h1 h2
  exact hs.use (Ext.refl E w) (fun k hk => Nat.lt_of_lt_of_le (h1.nx k hk) hn) h1 h2
theorem Becomes.own0 {n nx : Nat} {m : List (Nat × LV)} {mo : List (Nat × LO)} (t sz : Nat) (ht : lookB t m = some (.pv (.sc (.slice none 0 0)))) : Becomes ⟨n, m⟩ ⟨nx, mo⟩ ⟨n, (t, .own nx 0 0 0) :: m⟩ ⟨nx + 1, upd nx (.arr sz []) mo⟩ := by
  intro E w A h1 h2
  obtain ⟨g1, g2⟩ := h1.nilObj sz 0
  refine ⟨_, g1, g2, h2.1, fun u v hv => ?_⟩
  simp only [look] at hv
  split at hv
  · rename_i e
    subst e
    obtain rfl := Option.some.inj hv
    rw [lookB_eq] at ht
    have := h2.2 t _ ht
    generalize A.tmps.getD t undef = V at this
    obtain rfl := this.sc_inv
    refine .own _ _ _ _ _ (.inl rfl) ⟨none, 0, 0, rfl⟩ (fun L hL => ?_)
    simp only [Env.put, if_true, Option.some.injEq] at hL
    subst hL
    exact ⟨Nat.le_refl _, fun _ => ⟨⟨none, rfl⟩, rfl, rfl⟩⟩
  · exact (h2.2 u v hv).mono g1
theorem ren_id (v : LV) : v.ren (fun k => k) = v := by
  have key : ∀ n, ∀ v : LV, SizeOf.sizeOf v ≤ n → v.ren (fun k => k) = v := by
    intro n
    induction n with
    | zero => intro v h; cases v <;> simp at h <;> omega
    | succ n ih =>
      have lists : ∀ l : List LV, SizeOf.sizeOf l ≤ n → LV.rens (fun k => k) l = l := by
        intro l
        induction l with
        | nil => intro _; rfl
        | cons x l ih2 =>
          intro h
          simp only [List.cons.sizeOf_spec] at h
          rw [LV.rens, ih x (by omega), ih2 (by omega)]
      intro v h
      cases v with
      | agg l => simp only [LV.agg.sizeOf_spec] at h; rw [LV.ren, lists l (by omega)]
      | tup l => simp only [LV.tup.sizeOf_spec] at h; rw [LV.ren, lists l (by omega)]
      | fn f l => simp only [LV.fn.sizeOf_spec] at h; rw [LV.ren, lists l (by omega)]
      | _ => rfl
  exact key _ v (Nat.le_refl _)
theorem LO.ren_id (o : LO) : o.ren (fun k => k) = o := by
  have h : (LV.ren fun k => k) = fun v => v := funext Go.Lw.ren_id
  cases o with
  | arr sz rows => simp only [LO.ren, h, List.map_id']
  | map es => simp only [LO.ren, Go.Lw.ren_id, List.map_id']
  | loop l st pend n m ps as bd => simp only [LO.ren, Go.Lw.ren_id, List.map_id']
  | iter es seen => rfl
theorem Sub.same {a a' : LAct} {σ σ' : LSt} (h : Sub a σ a' σ') : SubR (fun k => k) a σ a' σ' := by
  refine ⟨h.1, fun p hp => ?_, fun p hp => ?_⟩
  · rw [ren_id]; exact h.2.1 p hp
  · rw [LO.ren_id]; exact h.2.2 p hp
/-- 'SubR', by looks. -/
theorem SubR.by {g : Nat → Nat} {n : Nat} {m m' : List (Nat × LV)} {nx nx' : Nat} {mo mo' : List (Nat × LO)} (h1 : readB m (m'.map (·.1)) = some (m'.map fun p => (p.1, p.2.ren g))) (h2 : readB mo (mo'.map fun p => g p.1) = some (mo'.map fun p => (g p.1, p.2.ren g))) (h3 : subB ⟨n, m⟩ ⟨nx, mo⟩ m' mo' nx' = true) : SubR g ⟨n, m⟩ ⟨nx, mo⟩ ⟨n, m'⟩ ⟨nx', mo'⟩ := by
  have key : ∀ {α : Type} (T : List (Nat × α)) (ks : List Nat) (l : List (Nat × α)), readB T ks = some l → ∀ p ∈ l, look p.1 T = some p.2 := by
    intro α T ks
    induction ks with
    | nil => intro l h p hp; simp only [readB, Option.some.injEq] at h; subst h; cases hp
    | cons t ks ih =>
      intro l h p hp
      simp only [readB] at h
      split at h
      · rename_i v r g1 g2
        simp only [Option.some.injEq] at h; subst h
        rcases List.mem_cons.1 hp with rfl | hp
        · rw [← lookB_eq]; exact g1
        · exact ih _ g2 p hp
      · cases h
  unfold subB at h3
  simp only [Bool.and_eq_true, List.all_eq_true, decide_eq_true_eq] at h3
  refine ⟨rfl, fun p hp => ⟨?_, h3.1 p hp⟩, fun p hp => ⟨?_, (h3.2 p hp).1, (h3.2 p hp).2⟩⟩
  · exact key _ _ _ h1 (p.1, p.2.ren g) (List.mem_map_of_mem (f := fun p : Nat × LV => (p.1, p.2.ren g)) hp)
  · exact key _ _ _ h2 (g p.1, p.2.ren g) (List.mem_map_of_mem (f := fun p : Nat × LO => (g p.1, p.2.ren g)) hp)
theorem oF_ren {α : Type} (f : α → List PV) (l : List α) (g : Nat → Nat) : (oF f l).map (fun r => r.map (LV.ren g)) = oF f l := by
  simp [oF, rF, LV.ren]
section
variable {P : Program} {Q : Exit → LAct → LSt → Prop} {a : LAct} {σ : LSt}
theorem LW.loopB {α : Type} {c : Code} (m : α → Nat) (ok : α → Prop) (A : α → LAct) (S : α → LSt) (s₀ : α) (h₀ : ok s₀) (hnx : ∀ s, ok s → σ.nx ≤ (S s).nx) (hs : Becomes a σ (A s₀) (S s₀))
    (round : ∀ s, ok s → ∀ K : LAct → LSt → Prop, (∀ a' σ', (∃ s' g, ok s' ∧ m s' < m s ∧ (∀ k, k < σ.nx → g k = k) ∧ (∀ i j, i < (S s').nx → j < (S s').nx → g i = g j → i = j) ∧ SubR g a' σ' (A s') (S s')) → K a' σ') → LW P c (thenQ K Q) (A s) (S s)) : LW P (.loop c) Q a σ := by
  intro r E w B h0 h1 h2 h3
  have hnxE : ∀ k, E.U k → k < σ.nx := h1.nx
  refine wpIn_loop_ghost (fun n B' w' => ∃ s E', ok s ∧ m s = n ∧ Ext E w E' w' ∧ Sim E' w' (S s) ∧ AR E' w' (A s) B' ∧ Marks E' w' B'.defers ∧ More w B.defers B'.defers) (m s₀) ?_ ?_
  · obtain ⟨E', g1, g2, g3⟩ := hs E w B h1 h2
    exact ⟨s₀, E', h₀, rfl, g1, g2, g3, h3.mono g1, .refl _ _⟩
  · rintro n B' w' ⟨s, E', hok, rfl, g1, g2, g3, g4, g6⟩
    refine wpIn_mono (round s hok _ (fun _ _ h => h) r E' w' B' h0 g2 g3 g4) ?_
    rintro x A2 w2 q
    obtain ⟨hc, a2, σ2, E2, k1, k2, k3, k4, k5⟩ := lift_up g1 g6 q
    cases x with
    | normal =>
      obtain ⟨s', g, j1, j2, j3, j4, j5⟩ := k5
      obtain ⟨E3, l1, l2, l3, l4⟩ := j5.use (hnx s' j1) j3 j4 k1 hnxE k2 k3
      exact ⟨m s', j2, s', E3, j1, rfl, l1, l2, l3, ⟨k4.1.less l4, k4.2⟩⟩
    | panic c => exact hc.elim
    | outgrown => exact hc.elim
    | exit id => exact ⟨hc, a2, σ2, E2, k1, k2, k3, k4, k5⟩
    | goto l => exact ⟨hc, a2, σ2, E2, k1, k2, k3, k4, k5⟩
    | ret => exact ⟨hc, a2, σ2, E2, k1, k2, k3, k4, k5⟩
/-- A loop whose objects, laid as it begins or since, may go by other numbers from round to round. -/
theorem LK.loopB {α : Type} {c : Code} {k : List KI} (m : α → Nat) (ok : α → Prop) (A : α → LAct) (S : α → LSt) (s₀ : α) (h₀ : ok s₀) (hnx : ∀ s, ok s → σ.nx ≤ (S s).nx) (hs : Becomes a σ (A s₀) (S s₀))
    (round : ∀ s, ok s → ∀ J : LAct → LSt → Prop, (∀ a' σ', (∃ s' g, ok s' ∧ m s' < m s ∧ (∀ k, k < σ.nx → g k = k) ∧ (∀ i j, i < (S s').nx → j < (S s').nx → g i = g j → i = j) ∧ SubR g a' σ' (A s') (S s')) → J a' σ') → LK P (.code c :: .fin J :: k) Q (A s) (S s)) : LK P (.code (.loop c) :: k) Q a σ :=
  LK.lw (LW.loopB m ok A S s₀ h₀ hnx hs fun s hok J hJ => round s hok J hJ)
end
end Go.Lw

set_option linter.unusedVariables false
set_option linter.unusedSimpArgs false
namespace Go.Lw
theorem LCalls.borrowG {P : Program} {f : FuncId} {args args2 : List LV} {v : LV} {σ : LSt} (hr : ∀ E w Vs, Sim E w σ → ArgsR E w args Vs → ArgsR E.clear w args2 Vs) (h : Fun P f args2 v) (ha : args2.all (·.under 0) = true) (hv : v.flat = true) : LCalls P f args (fun u σ' => u = v ∧ σ' = σ) σ := by
  intro E w Vs h1 h2
  have h0 : Sim ⟨fun _ => none, fun _ => False, E.F⟩ w ⟨0, []⟩ :=
    ⟨by simp, by simp, by simp, h1.flow, by simp, by simp [LSt.get, look]⟩
  have hown : ∀ b, ¬ Env.Own ⟨fun _ => none, fun _ => False, E.F⟩ b := by rintro b ⟨id, L, hL, e⟩; cases hL
  have hp : ∀ b, Prot E.clear w b → Prot ⟨fun _ => none, fun _ => False, E.F⟩ w b ∧ w.heap[b]? = w.heap[b]? := by
    rintro b ⟨g1, g2, g3⟩
    exact ⟨⟨g1, hown b, g3⟩, rfl⟩
  have h3 := hr E w Vs h1 h2
  refine (h _ w Vs h0 ⟨h3.1, fun i i1 i2 => (h3.2 i i1 i2).move (n := 0) (by simp) (fun id hi => absurd hi (Nat.not_lt_zero _)) hp ?_⟩).mono ?_
  · rw [List.all_eq_true] at ha; exact ha _ (List.getElem_mem i1)
  · rintro e w' ⟨u, V, E', σ', rfl, g1, g2, g3, g4⟩
    subst g4
    have hheap : ∀ b, b < w.heap.size → w'.heap[b]? = w.heap[b]? := fun b hb => (g1.heap b hb (hown b)).1
    have hX : Ext E w E w' := by
      refine ⟨fun _ h => h, rfl, fun id L' h _ => ⟨L', h, Nat.le_refl _, fun _ => rfl⟩, fun b hb ho => ⟨hheap b hb, ho⟩, g1.size, g1.os, g1.output⟩
    refine ⟨u, V, E, σ, rfl, hX, ?_, g3.flat hv, rfl, rfl⟩
    refine ⟨h1.fresh, h1.sep, fun id L b hL e => ?_, fun b hb => Nat.lt_of_lt_of_le (h1.flow b hb) g1.size, h1.nx, fun id o ho => ?_⟩
    · obtain ⟨k1, k2⟩ := h1.low id L b hL e
      exact ⟨Nat.lt_of_lt_of_le k1 g1.size, k2⟩
    · obtain ⟨L, k1, k2⟩ := h1.obj id o ho
      exact ⟨L, k1, k2.mono hX fun b hb => hheap b (h1.low id L b k1 hb).1⟩
/-- An array of our own, and one within it that is told by the number id. -/
theorem LCalls.borrow2 {P : Program} {f : FuncId} {args args1 args2 : List LV} {v : LV} {nx : Nat} {mo mo2 : List (Nat × LO)} (id : Nat) (e1 : frzAts ⟨nx, mo⟩ id args = args1) (e2 : frzO ⟨nx, mo⟩ id mo = mo2) (e3 : frzs ⟨nx, mo2⟩ args1 = args2) (h : Fun P f args2 v) (ha : args2.all (·.under 0) = true) (hv : v.flat = true) : LCalls P f args (fun u σ' => u = v ∧ σ' = ⟨nx, mo⟩) ⟨nx, mo⟩ := by
  subst e1; subst e2; subst e3
  refine LCalls.borrowG (fun E w Vs h1 h2 => ?_) h ha hv
  have g1 := h1.frzAt id
  have g2 : ArgsR (E.drop id) w (frzAts ⟨nx, mo⟩ id args) Vs := by
    refine ⟨by rw [frzAts_map, List.length_map]; exact h2.1, fun i i1 i2 => ?_⟩
    have i3 : i < args.length := by rw [frzAts_map, List.length_map] at i1; exact i1
    have e : (frzAts ⟨nx, mo⟩ id args)[i] = frzAt ⟨nx, mo⟩ id args[i] := by simp only [frzAts_map, List.getElem_map]
    rw [e]
    exact frzAt_sound h1 (h2.2 i i3 i2)
  exact ArgsR.frzs g1 g2
/-- An array of our own is given out of hand in the middle of a region. -/
theorem LOps.freeze {P : Program} {ops : Array Oper} {Q : Exit → LAct → LSt → Prop} {rest : List Oper} {n nx : Nat} {m : List (Nat × LV)} {mo : List (Nat × LO)} (id : Nat) (ts : List Nat) {tv tvF : List (Nat × LV)} {mo2 : List (Nat × LO)} (hl : readB m ts = some tv) (hF : frzT ⟨nx, mo⟩ id tv ++ m = tvF) (hM : frzO ⟨nx, mo⟩ id mo = mo2)
    (h : LOps P ops Q rest ⟨n, tvF⟩ ⟨nx, mo2⟩) : LOps P ops Q rest ⟨n, m⟩ ⟨nx, mo⟩ := by
  intro r E w A h1 h2 h3
  subst hF; subst hM
  exact LOps.lift (Ext.drop E w id) (.refl _ _) (h r _ w A (h1.frzAt id) (h2.frzAt h1 id fun t v hv => (readB_eq hl).look t v hv) (h3.mono (Ext.drop E w id)))
theorem PRel.one {T : Nat → Prop} {w : World} {k : Kd} {sz : Nat} {A B : List (List PV)} {p q : PV} {V : Value} (hpq : ∀ V, PRel T w p V → PRel T w q V) (h : PRel T w (.ro k sz (A ++ [p] :: B)) V) : PRel T w (.ro k sz (A ++ [q] :: B)) V := by
  generalize hR : A ++ [p] :: B = R at h
  cases h with
  | ronil => simp at hR
  | ro k sz rows a cap g hk hm hs hb hc hv =>
    subst hR
    have hl : (A ++ [p] :: B).length = (A ++ [q] :: B).length := by simp
    have hf : (A ++ [p] :: B).flatten.length = (A ++ [q] :: B).flatten.length := by simp
    rw [hl]
    refine .ro k sz _ a cap g (by rw [← hl]; exact hk) hm (fun r hr => ?_) (fun _ => hb (by simp)) (fun j hj => hc j (by rw [hf]; exact hj)) (fun j hj => ?_)
    · rcases List.mem_append.1 hr with hr | hr
      · exact hs r (List.mem_append_left _ hr)
      · rcases List.mem_cons.1 hr with rfl | hr
        · exact hs [p] (List.mem_append_right _ (List.mem_cons_self ..))
        · exact hs r (List.mem_append_right _ (List.mem_cons_of_mem _ hr))
    · have h1 := hv j (by rw [hf]; exact hj)
      have ep : (A ++ [p] :: B).flatten = A.flatten ++ p :: B.flatten := by simp
      have eq : (A ++ [q] :: B).flatten = A.flatten ++ q :: B.flatten := by simp
      have gp : (A ++ [p] :: B).flatten[j]'(by rw [hf]; exact hj) = (A.flatten ++ p :: B.flatten)[j]'(by rw [← ep, hf]; exact hj) := by simp only [ep]
      have gq : (A ++ [q] :: B).flatten[j] = (A.flatten ++ q :: B.flatten)[j]'(by rw [← eq]; exact hj) := by simp only [eq]
      rw [gp] at h1
      rw [gq]
      rcases Nat.lt_trichotomy j A.flatten.length with c | c | c
      · rw [List.getElem_append_left c] at h1 ⊢; exact h1
      · subst c
        rw [List.getElem_append_right (Nat.le_refl _)] at h1 ⊢
        simp only [Nat.sub_self, List.getElem_cons_zero] at h1 ⊢
        exact hpq _ h1
      · obtain ⟨d, rfl⟩ : ∃ d, j = A.flatten.length + (d + 1) := ⟨j - A.flatten.length - 1, by omega⟩
        rw [List.getElem_append_right (by omega)] at h1 ⊢
        simp only [Nat.add_sub_cancel_left, List.getElem_cons_succ] at h1 ⊢
        exact h1
/-- A slice within rows that is known to be nil. -/
theorem LV.le_oneNil (k : Kd) (sz s : Nat) (A B : List (List PV)) : LV.le (.pv (.ro k sz (A ++ [.sc (.slice none 0 0)] :: B))) (.pv (.ro k sz (A ++ [.ro .any s []] :: B))) := fun E w V h => by
  cases h with
  | pv _ _ h => exact .pv _ _ (h.one fun V hV => by cases hV; exact .ronil _ _ (.inr (.inl rfl)))
end Go.Lw

set_option linter.unusedVariables false
set_option linter.unusedSimpArgs false
namespace Go.Lw
/-- One operation, where 'pn' is known of the environment. -/
def LStepX (pn : Env → Prop) (P : Program) (ops : Array Oper) (o : Oper) (a : LAct) (σ : LSt) (v : LV) (σ' : LSt) : Prop :=
  ∀ (r : Option Nat) (Q : Exit → Act → World → Prop) (K : Act → World → Prop) E w A, pn E → Sim E w σ → AR E w a A → (∀ V w' E', Ext E w E' w' → Sim E' w' σ' → VRel E' w' v V → K (A.put o.dst V) w') →
    if Region.wanted o (yielded ops A.tmps) then o.wpIn (wd r) 0 P A w K Q else (∀ f, o.about P w A.eval = some f → (wd r).fn f) ∧ K (A.put o.dst undef) w
theorem LStep.x {pn : Env → Prop} {P : Program} {ops : Array Oper} {o : Oper} {a : LAct} {σ : LSt} {v : LV} {σ' : LSt} (h : LStep P ops o a σ v σ') : LStepX pn P ops o a σ v σ' := fun r Q K E w A _ => h r Q K E w A
end Go.Lw

set_option linter.unusedVariables false
set_option linter.unusedSimpArgs false
namespace Go.Lw
set_option maxHeartbeats 4000000 in
theorem append_room {P : Program} {t ty e : TypeId} {sz by_ : Nat} {z : Value} (ht : telem P t = some e) (hs : tsize P e = some sz) (hb : tbytes P e = some by_) (hz : tzero P e = some z) (hzs : z.cells.size = sz) (hpos : 0 < sz)
    {E : Env} {w : World} {nx : Nat} {mo : List (Nat × LO)} (hS : Sim E w ⟨nx, mo⟩) {id n off len : Nat} {V : Value} (hv : VRel E w (.own id n off len) V) {old : List (List LV)} (hg : look id mo = some (.arr sz old)) (hn : old.length = n) (ho : off + len = n)
    {x : LV} {X : Value} (hx : VRel E w x X) {rows : List (List LV)} (hr : srcRows sz ⟨nx, mo⟩ x = some rows) (h0 : 0 < rows.length) (hm : len + rows.length ≤ maxLen) (hby : (len + rows.length) * by_ ≤ 140737488355328) (hroom0 : ∀ L, E.f id = some L → L.blk ≠ none ∧ len + rows.length ≤ L.cap - off) :
    ∃ U w' E', (Builtin.append_ #[t, t] ty #[V, X]).run P w = .ok U w' ∧ Ext E w E' w' ∧ Sim E' w' ⟨nx, upd id (.arr sz (old ++ rows)) mo⟩ ∧ VRel E' w' (.own id (n + rows.length) off (len + rows.length)) U := by
  obtain ⟨L, l1, l2, l3, l4⟩ := own_val hS hv hg hn
  have hidlt := hS.fresh _ _ l1
  obtain ⟨L', q1, q2, q3, q4, q5⟩ := hS.obj id _ hg
  obtain rfl : L = L' := by rw [l1] at q1; simpa using q1
  have hsl := l4
  unfold Loc.isSlice at hsl
  obtain ⟨i, i1, i2, i3, i4⟩ := info_of hs hb hz
  have hu := telem_inv ht
  rcases q5 with ⟨e0, e1, e2⟩ | ⟨b, C, e1, e2, e3, e4, e5, e6⟩
  · exact absurd e0 (hroom0 L l1).1
  · rw [e1] at hsl
    obtain ⟨r1, a, rfl, r2⟩ := hsl
    obtain ⟨xb, c, Vs, rfl, hc, hA⟩ := src_sound hS hx hr
    have hfl : rows.flatten.length = Vs.length := by rw [flatten_len sz rows hA.row, hA.len]
    have hrow : ∀ r ∈ old ++ rows, r.length = sz := by
      intro r h
      rcases List.mem_append.1 h with h | h
      · exact q4 r h
      · exact hA.row r h
    have hnsz : off * sz + len * sz = n * sz := by rw [← Nat.add_mul, ho]
    have hofl : old.flatten.length = n * sz := by rw [flatten_len sz old q4, hn]
    have hCs : n * sz ≤ C.size := by rw [e5, l2]; exact Nat.mul_le_mul_right _ (by omega)
    have holdlen : (C.toList.take (n * sz)).length = n * sz := by simp; omega
    have hCold : ∀ j (hj : j < n * sz), ∃ V, (C.toList.take (n * sz))[j]? = some V ∧ V.oneCell' = true ∧ C[j]? = some V := by
      intro j hj
      obtain ⟨V, v1, v2, _⟩ := e6 j (by omega)
      exact ⟨V, by rw [List.getElem?_take, if_pos hj, Array.getElem?_toList, v1], v2, v1⟩
    have hrel1 : ∀ (E' : Env) (w' : World), Ext E w E' w' → ∀ j (h1 : j < old.flatten.length) (h2 : j < (C.toList.take (n * sz)).length), VRel E' w' old.flatten[j] (C.toList.take (n * sz))[j] := by
      intro E' w' hX j h1 h2
      obtain ⟨V, v1, v2, v3⟩ := e6 j h1
      have : (C.toList.take (n * sz))[j] = V := by
        apply Option.some.inj
        rw [← List.getElem?_eq_getElem, List.getElem?_take, if_pos (by omega), Array.getElem?_toList, v1]
      rw [this]; exact v3.mono hX
    obtain ⟨b', rfl, hcell⟩ := hA.src hpos (by omega)
    have hroom := (hroom0 L l1).2
    obtain rfl := r2 (by omega)
    have hfit : off * L.sz + len * i.size + Vs.length ≤ C.size := by
      rw [i2, hA.len, e5, l2, ← Nat.add_mul, ← Nat.add_mul]; exact Nat.mul_le_mul_right _ (by omega)
    have hrun := run_append_room_off (P := P) w t ty e L.e i hu i1 b (off * L.sz) len (L.cap - off) C e2 b' rows.length c Vs (by rw [hA.len, i2]) hcell hA.one hroom hfit
    rw [i2, l2, hnsz] at hrun
    have hput := hS.put (w' := w.setRow b (C.toList.take (n * sz) ++ Vs ++ C.toList.drop (n * sz + Vs.length)).toArray) (id := id) (L' := { L with n := n + rows.length }) (o := .arr sz (old ++ rows))
      (.inl ⟨L, l1, .inr (by show L.n < n + rows.length; omega)⟩) (fun k _ hne => setRow_other w b k _ (fun e => hne L l1 (by rw [e1, e]))) (fun b' hb => .inr ⟨L, l1, hb⟩) (by simp) rfl rfl rfl
      (fun hX => ⟨l2, by simp [hn], hrow, .inr ⟨b, _, e1, setRow_heap w b C _ L.e _ e2, by show n + rows.length ≤ L.cap; omega, e4, by
        simp only [List.size_toArray, List.length_append, holdlen, List.length_drop, Array.length_toList]; rw [i2, l2, hnsz] at hfit; rw [← e5]; omega, fun j hj => by
          obtain ⟨V, v1, v2⟩ := flatten_append_rel (r2 := rows) (V2 := Vs) q4 (by rw [holdlen, hn]) (hrel1 _ _ hX) (fun j k1 k2 => (hA.rel j k1 k2).mono hX) hfl j hj
          refine ⟨V, ?_, ?_, v2⟩
          · have hj' := (List.getElem?_eq_some_iff.1 v1).1
            rw [List.getElem?_toArray, List.getElem?_append_left hj', v1]
          · rcases Nat.lt_or_ge j (n * sz) with c | c
            · obtain ⟨V', w1, w2, _⟩ := hCold j c
              rw [List.getElem?_append_left (by omega), w1] at v1
              rw [← Option.some.inj v1]; exact w2
            · rw [List.getElem?_append_right (by omega)] at v1
              exact hA.one _ (List.mem_of_getElem? v1)⟩⟩)
    have hid' := hS.nx _ hidlt
    simp only at hid'
    have hS1 := hput.2
    simp only [LSt.put, if_pos hid'] at hS1
    rw [l2]
    refine ⟨_, _, _, hrun, hput.1, hS1, ?_⟩
    refine .own _ _ _ _ _ (.inl rfl) ⟨_, _, _, rfl⟩ fun L2 hL => ?_
    have : ({ L with n := n + rows.length } : Loc) = L2 := by simpa [Env.put] using hL
    subst this
    refine ⟨Nat.le_refl _, fun _ => ?_⟩
    unfold Loc.isSlice
    simp only [e1]
    exact ⟨by omega, ⟨b, off * sz, none⟩, by simp, fun _ => by simp [l2]⟩
set_option maxHeartbeats 4000000 in
theorem append_far {P : Program} {t ty e : TypeId} {sz by_ : Nat} {z : Value} (ht : telem P t = some e) (hs : tsize P e = some sz) (hb : tbytes P e = some by_) (hz : tzero P e = some z) (hzs : z.cells.size = sz) (hpos : 0 < sz)
    {E : Env} {w : World} {nx : Nat} {mo : List (Nat × LO)} (hS : Sim E w ⟨nx, mo⟩) {id n off len : Nat} {V : Value} (hv : VRel E w (.own id n off len) V) {old : List (List LV)} (hg : look id mo = some (.arr sz old)) (hn : old.length = n) (ho : off + len = n)
    {x : LV} {X : Value} (hx : VRel E w x X) {rows : List (List LV)} (hr : srcRows sz ⟨nx, mo⟩ x = some rows) (h0 : 0 < rows.length) (hm : len + rows.length ≤ maxLen) (hby : (len + rows.length) * by_ ≤ 140737488355328) (hfar0 : ∀ L, E.f id = some L → L.blk ≠ none → ¬ (len + rows.length ≤ L.cap - off)) :
    ∃ U w' E', (Builtin.append_ #[t, t] ty #[V, X]).run P w = .ok U w' ∧ Ext E w E' w' ∧ Sim E' w' ⟨nx + 1, (nx, .arr sz (old.drop off ++ rows)) :: mo⟩ ∧ VRel E' w' (.own nx (len + rows.length) 0 (len + rows.length)) U := by
  obtain ⟨L, l1, l2, l3, l4⟩ := own_val hS hv hg hn
  have hidlt := hS.fresh _ _ l1
  obtain ⟨L', q1, q2, q3, q4, q5⟩ := hS.obj id _ hg
  obtain rfl : L = L' := by rw [l1] at q1; simpa using q1
  have hsl := l4
  unfold Loc.isSlice at hsl
  obtain ⟨i, i1, i2, i3, i4⟩ := info_of hs hb hz
  have hu := telem_inv ht
  rcases q5 with ⟨e0, e1, e2⟩ | ⟨b, C, e1, e2, e3, e4, e5, e6⟩
  · rw [e0] at hsl
    obtain ⟨⟨a, rfl⟩, rfl, rfl⟩ := hsl
    obtain rfl : n = 0 := by omega
    have hold : old = [] := List.eq_nil_of_length_eq_zero (by omega)
    subst hold
    obtain ⟨U, w', E', h1, h2, h3, h4⟩ := append_none (ty := ty) ht hs hb hz hzs hpos hS (a := a) (id := nx) (.inr rfl) hx hr (by simpa using hm) (by simpa using hby)
    have h3' : Sim E' w' ⟨nx + 1, (nx, .arr sz rows) :: mo⟩ := by
      refine ⟨h3.fresh, h3.sep, h3.low, h3.flow, fun k hk => ?_, fun k o hk => ?_⟩
      · have := h3.nx k hk; simpa [LSt.put] using this
      · refine h3.obj k o ?_
        simp only [LSt.get, LSt.put, look_upd]
        simp only [LSt.get, look] at hk
        exact hk
    refine ⟨U, w', _, h1, h2, by simpa using h3', ?_⟩
    rw [Nat.zero_add]
    exact h4
  · rw [e1] at hsl
    obtain ⟨r1, a, rfl, r2⟩ := hsl
    obtain ⟨xb, c, Vs, rfl, hc, hA⟩ := src_sound hS hx hr
    have hfl : rows.flatten.length = Vs.length := by rw [flatten_len sz rows hA.row, hA.len]
    have hrow : ∀ r ∈ old ++ rows, r.length = sz := by
      intro r h
      rcases List.mem_append.1 h with h | h
      · exact q4 r h
      · exact hA.row r h
    have hnsz : off * sz + len * sz = n * sz := by rw [← Nat.add_mul, ho]
    have hofl : old.flatten.length = n * sz := by rw [flatten_len sz old q4, hn]
    have hCs : n * sz ≤ C.size := by rw [e5, l2]; exact Nat.mul_le_mul_right _ (by omega)
    have holdlen : (C.toList.take (n * sz)).length = n * sz := by simp; omega
    have hCold : ∀ j (hj : j < n * sz), ∃ V, (C.toList.take (n * sz))[j]? = some V ∧ V.oneCell' = true ∧ C[j]? = some V := by
      intro j hj
      obtain ⟨V, v1, v2, _⟩ := e6 j (by omega)
      exact ⟨V, by rw [List.getElem?_take, if_pos hj, Array.getElem?_toList, v1], v2, v1⟩
    have hrel1 : ∀ (E' : Env) (w' : World), Ext E w E' w' → ∀ j (h1 : j < old.flatten.length) (h2 : j < (C.toList.take (n * sz)).length), VRel E' w' old.flatten[j] (C.toList.take (n * sz))[j] := by
      intro E' w' hX j h1 h2
      obtain ⟨V, v1, v2, v3⟩ := e6 j h1
      have : (C.toList.take (n * sz))[j] = V := by
        apply Option.some.inj
        rw [← List.getElem?_eq_getElem, List.getElem?_take, if_pos (by omega), Array.getElem?_toList, v1]
      rw [this]; exact v3.mono hX
    obtain ⟨b', rfl, hcell⟩ := hA.src hpos (by omega)
    have hroom := hfar0 L l1 (by rw [e1]; simp)
    have hdl : ((C.toList.take (n * sz)).drop (off * sz)).length = len * sz := by rw [List.length_drop, holdlen]; omega
    have holds : ∀ j v, ((C.toList.take (n * sz)).drop (off * sz))[j]? = some v → w.cell? (a.add j) = some v := by
      intro j v hj
      have hlt : j < len * sz := by have := (List.getElem?_eq_some_iff.1 hj).1; omega
      have hpn : 0 < len := Nat.pos_of_mul_pos_right (by omega : 0 < len * sz)
      obtain rfl := r2 (by omega)
      rw [addr_add, cell_at e2, ← hj, List.getElem?_drop, List.getElem?_take, if_pos (by omega), Array.getElem?_toList, l2]
    obtain ⟨hge, hle, hsize, hget⟩ := grown_ok (w := w) (news := Vs) (olds := (C.toList.take (n * sz)).drop (off * sz)) (need := len + rows.length) (old := L.cap - off) (e := e) hzs (by rw [hdl, hA.len, Nat.add_mul]) hm
    have hrun := run_append_grow (P := P) w t ty e i z hu i1 i4 a len (L.cap - off) ((C.toList.take (n * sz)).drop (off * sz)) (by rw [hdl, i2]) holds b' rows.length c Vs (by rw [hA.len, i2]) hcell (by omega) (by simp only [maxLen] at hm; omega) (by rw [i3]; exact growslice_fits (by omega) hby)
    generalize hK : grownCap w (len + rows.length) (L.cap - off) e = K at hge hle hsize hget hrun
    generalize hCn : ((C.toList.take (n * sz)).drop (off * sz)).toArray ++ Vs.toArray ++ Builtin.zeroCells z.cells (K - (len + rows.length)) = Cn at hsize hget hrun
    have hnew : (w.drew.alloc (.cells Cn e)).heap[w.heap.size]? = some (.cells Cn e (0, 0)) := heap_alloc_new w.drew _
    have hod : (old.drop off).length = len := by rw [List.length_drop]; omega
    have hrow2 : ∀ r ∈ old.drop off ++ rows, r.length = sz := by
      intro r hr'
      rcases List.mem_append.1 hr' with h | h
      · exact q4 r (List.mem_of_mem_drop h)
      · exact hA.row r h
    have hfd : (old.drop off).flatten = old.flatten.drop (off * sz) := by
      have := flatten_drop_take sz old q4 off len
      have e1 : (old.drop off).take len = old.drop off := List.take_of_length_le (by omega)
      rw [e1] at this
      rw [this]
      exact List.take_of_length_le (by rw [List.length_drop, hofl]; omega)
    have hdrel : ∀ (E' : Env) (w' : World), Ext E w E' w' → ∀ j (h1 : j < (old.drop off).flatten.length) (h2 : j < ((C.toList.take (n * sz)).drop (off * sz)).length), VRel E' w' (old.drop off).flatten[j] ((C.toList.take (n * sz)).drop (off * sz))[j] := by
      intro E' w' hX j h1 h2
      have hlt : off * sz + j < old.flatten.length := by rw [hdl] at h2; omega
      have hr1 := hrel1 E' w' hX (off * sz + j) hlt (by rw [holdlen]; omega)
      have e1 : (old.drop off).flatten[j] = old.flatten[off * sz + j] := by
        apply Option.some.inj
        rw [← List.getElem?_eq_getElem, ← List.getElem?_eq_getElem, hfd, List.getElem?_drop]
      rw [e1, List.getElem_drop]
      exact hr1
    have hcells : ∀ (E' : Env) (w' : World), Ext E w E' w' → ∀ j (hj : j < (old.drop off ++ rows).flatten.length), ∃ V, Cn[j]? = some V ∧ V.oneCell' = true ∧ VRel E' w' (old.drop off ++ rows).flatten[j] V := by
      intro E' w' hX j hj
      obtain ⟨V, v1, v2⟩ := flatten_append_rel (sz := sz) (r2 := rows) (V2 := Vs) (fun r hr => q4 r (List.mem_of_mem_drop hr)) (by rw [hdl, hod]) (hdrel E' w' hX) (fun j k1 k2 => (hA.rel j k1 k2).mono hX) hfl j hj
      refine ⟨V, hget j V v1, ?_, v2⟩
      rcases Nat.lt_or_ge j (len * sz) with c | c
      · obtain ⟨V', w1, w2, _⟩ := hCold (off * sz + j) (by omega)
        rw [List.getElem?_append_left (by omega), List.getElem?_drop, w1] at v1
        rw [← Option.some.inj v1]; exact w2
      · rw [List.getElem?_append_right (by omega)] at v1
        exact hA.one _ (List.mem_of_getElem? v1)
    have hput := hS.put (w' := w.drew.alloc (.cells Cn e)) (id := nx) (L' := ⟨some w.heap.size, len + rows.length, K, sz, e⟩) (o := .arr sz (old.drop off ++ rows))
      (.inr fun h => Nat.lt_irrefl _ (hS.nx _ h))
      (fun k hk _ => by show (w.heap.push _)[k]? = _; rw [Array.getElem?_push, if_neg (by omega)]) (fun b hb => .inl (by simp only [Option.some.injEq] at hb; subst hb; simp)) (by simp) rfl rfl rfl
      (fun hX => ⟨rfl, by rw [List.length_append, hod], hrow2, .inr ⟨w.heap.size, Cn, rfl, hnew, hge, hle, hsize, hcells _ _ hX⟩⟩)
    have h3' : Sim (E.put nx ⟨some w.heap.size, len + rows.length, K, sz, e⟩) (w.drew.alloc (.cells Cn e)) ⟨nx + 1, (nx, .arr sz (old.drop off ++ rows)) :: mo⟩ := by
      have h3 := hput.2
      refine ⟨h3.fresh, h3.sep, h3.low, h3.flow, fun k hk => ?_, fun k o hk => ?_⟩
      · have := h3.nx k hk; simpa [LSt.put] using this
      · refine h3.obj k o ?_
        simp only [LSt.get, LSt.put, look_upd]
        simp only [LSt.get, look] at hk
        exact hk
    refine ⟨_, _, _, hrun, hput.1, h3', ?_⟩
    refine .own _ _ _ _ _ (.inl rfl) ⟨_, _, _, rfl⟩ fun L2 hL => ?_
    have : (⟨some w.heap.size, len + rows.length, K, sz, e⟩ : Loc) = L2 := by simpa [Env.put] using hL
    subst this
    refine ⟨Nat.le_refl _, fun _ => ?_⟩
    unfold Loc.isSlice
    simp only
    exact ⟨by omega, ⟨w.heap.size, 0, none⟩, by simp, fun _ => by simp⟩

/-- There is room for so many more behind the view; or there is not. -/
def Room (id n off k : Nat) (E : Env) : Prop := ∀ L, E.f id = some L → L.n = n → L.blk ≠ none ∧ k ≤ L.cap - off
def Far (id n off k : Nat) (E : Env) : Prop := ∀ L, E.f id = some L → L.n = n → L.blk ≠ none → ¬ (k ≤ L.cap - off)
theorem room_or {E0 : Env} {w0 : World} {σ : LSt} (hS : Sim E0 w0 σ) {id n off k sz : Nat} {old : List (List LV)} (hg : look id σ.m = some (.arr sz old)) (hn : old.length = n) :
    (∀ E w, Ext E0 w0 E w → Room id n off k E) ∨ (∀ E w, Ext E0 w0 E w → Far id n off k E) := by
  obtain ⟨L, h1, h2⟩ := hS.obj id _ hg
  have hL : L.n = n := by rw [h2.2.1, hn]
  have hU := hS.fresh id L h1
  have key : ∀ E w, Ext E0 w0 E w → ∀ L', E.f id = some L' → L'.n = n → L' = L := by
    intro E w hx L' hL' hn'
    obtain ⟨L2, g1, g2, g3⟩ := hx.ids id L' hL' hU
    rw [h1] at g1
    obtain rfl := Option.some.inj g1
    exact g3 (by rw [hL, hn'])
  by_cases hc : L.blk ≠ none ∧ k ≤ L.cap - off
  · left
    intro E w hx L' hL' hn'
    rw [key E w hx L' hL' hn']; exact hc
  · right
    intro E w hx L' hL' hn' hb
    rw [key E w hx L' hL' hn'] at hb ⊢
    exact fun h => hc ⟨hb, h⟩
section
variable {P : Program} {ops : Array Oper} {n0 nx : Nat} {m : List (Nat × LV)} {mo : List (Nat × LO)}
theorem LStepX.room {o : Oper} {t e : TypeId} {sz by_ : Nat} {zc : List LV} {x y : Operand} {id n off len : Nat} {v : LV} {old rows : List (List LV)} (ho : o.op = .call { callee := .builtin .append, args := #[x, y], argTypes := #[t, t] }) (hw : wantedL ops o ⟨n0, m⟩ = some true) (ht : telemZ P t = some (e, sz, by_, zc))
    (hx : LAct.ev ⟨n0, m⟩ x = some (.own id n off len)) (hy : LAct.ev ⟨n0, m⟩ y = some v) (hg : lookB id mo = some (.arr sz old)) (hr : srcRows sz ⟨nx, mo⟩ v = some rows) (hn : old.length = n) (hol : off + len = n) (h0 : 0 < rows.length) (hm : len + rows.length ≤ maxLen ∧ (len + rows.length) * by_ ≤ 140737488355328) :
    LStepX (Room id n off (len + rows.length)) P ops o ⟨n0, m⟩ ⟨nx, mo⟩ (.own id (n + rows.length) off (len + rows.length)) ⟨nx, upd id (.arr sz (old ++ rows)) mo⟩ := by
  intro r Q K E w A hpn h1 h2 hK
  obtain ⟨z, he, hs, hb, hzz, hpos, hzl, hzf, rfl, hzs⟩ := telemZ_inv ht
  rw [lookB_eq] at hg
  rw [wanted_of h2 hw, if_pos rfl]
  obtain ⟨U, w', E', k1, k2, k3, k4⟩ := append_room (ty := o.type) he hs hb hzz hzs hpos h1 (h2.ev hx) hg hn hol (h2.ev hy) hr h0 hm.1 hm.2 (fun L hL => hpn L hL (by obtain ⟨L', q1, q2⟩ := h1.obj id _ hg; rw [hL] at q1; obtain rfl := Option.some.inj q1; rw [q2.2.1, hn]))
  refine wpIn_value (.inl ?_) (hK U _ _ k2 k3 k4)
  simp only [execOp, ho, resolve, Sem.run_bind, Sem.run_pure, Result.andThen_ok, invoke]
  simp [builtin, Sem.run_bind, k1]
theorem LStepX.far {o : Oper} {t e : TypeId} {sz by_ : Nat} {zc : List LV} {x y : Operand} {id n off len : Nat} {v : LV} {old rows : List (List LV)} (ho : o.op = .call { callee := .builtin .append, args := #[x, y], argTypes := #[t, t] }) (hw : wantedL ops o ⟨n0, m⟩ = some true) (ht : telemZ P t = some (e, sz, by_, zc))
    (hx : LAct.ev ⟨n0, m⟩ x = some (.own id n off len)) (hy : LAct.ev ⟨n0, m⟩ y = some v) (hg : lookB id mo = some (.arr sz old)) (hr : srcRows sz ⟨nx, mo⟩ v = some rows) (hn : old.length = n) (hol : off + len = n) (h0 : 0 < rows.length) (hm : len + rows.length ≤ maxLen ∧ (len + rows.length) * by_ ≤ 140737488355328) :
    LStepX (Far id n off (len + rows.length)) P ops o ⟨n0, m⟩ ⟨nx, mo⟩ (.own nx (len + rows.length) 0 (len + rows.length)) ⟨nx + 1, puts mo [(nx, .arr sz (old.drop off ++ rows))]⟩ := by
  intro r Q K E w A hpn h1 h2 hK
  obtain ⟨z, he, hs, hb, hzz, hpos, hzl, hzf, rfl, hzs⟩ := telemZ_inv ht
  rw [lookB_eq] at hg
  rw [wanted_of h2 hw, if_pos rfl]
  obtain ⟨U, w', E', k1, k2, k3, k4⟩ := append_far (ty := o.type) he hs hb hzz hzs hpos h1 (h2.ev hx) hg hn hol (h2.ev hy) hr h0 hm.1 hm.2 (fun L hL => hpn L hL (by obtain ⟨L', q1, q2⟩ := h1.obj id _ hg; rw [hL] at q1; obtain rfl := Option.some.inj q1; rw [q2.2.1, hn]))
  refine wpIn_value (.inl ?_) (hK U _ _ k2 (k3.less rfl fun i o hi => ?_) k4)
  · simp only [execOp, ho, resolve, Sem.run_bind, Sem.run_pure, Result.andThen_ok, invoke]
    simp [builtin, Sem.run_bind, k1]
  · simp only [LSt.get, look_puts, look] at hi ⊢
    split
    · rename_i e; subst e; simpa using hi
    · rename_i e; simpa [e] using hi
end
end Go.Lw

set_option linter.unusedVariables false
set_option linter.unusedSimpArgs false
namespace Go.Lw
theorem run_append_nothing {P : Program} (w : World) (t ty e : TypeId) (i : TypeInfo) (ht : P.underlying t = some (.slice e)) (hi : P.info? e = some i) (a b : Option Addr) (l c d : Nat) (hle : l ≤ c) :
    (Builtin.append_ #[t, t] ty #[.slice a l c, .slice b 0 d]).run P w = .ok (.slice a l c) w := by
  have hf : (Builtin.firstCells i.size 0 (.slice b 0 d)).run P w = .ok #[] w := by
    cases b with
    | none => exact run_firstCells_none _ _ _ _ _
    | some b => exact run_firstCells_some w i.size 0 b 0 d [] (by simp) (by simp)
  cases a with
  | none => simp [Builtin.append_, run_underlying ht, Go.sizeOf, typeInfo, hi, Builtin.lenOf, hf, hle]
  | some a => simp [Builtin.append_, run_underlying ht, Go.sizeOf, typeInfo, hi, Builtin.lenOf, hf, hle, storeCells]
theorem LStep.nothing {P : Program} {ops : Array Oper} {n0 nx : Nat} {m : List (Nat × LV)} {mo : List (Nat × LO)} {o : Oper} {t e : TypeId} {sz by_ : Nat} {zc : List LV} {x y : Operand} {id n off len : Nat} {v : LV} {old : List (List LV)} (ho : o.op = .call { callee := .builtin .append, args := #[x, y], argTypes := #[t, t] }) (hw : wantedL ops o ⟨n0, m⟩ = some true) (ht : telemZ P t = some (e, sz, by_, zc))
    (hx : LAct.ev ⟨n0, m⟩ x = some (.own id n off len)) (hy : LAct.ev ⟨n0, m⟩ y = some v) (hg : lookB id mo = some (.arr sz old)) (hr : srcRows sz ⟨nx, mo⟩ v = some []) (hn : old.length = n) (hol : off + len = n) :
    LStep P ops o ⟨n0, m⟩ ⟨nx, mo⟩ (.own id n off len) ⟨nx, mo⟩ := by
  intro r Q K E w A h1 h2 hK
  obtain ⟨z, he, hs, hb, hzz, hpos, hzl, hzf, rfl, hzs⟩ := telemZ_inv ht
  rw [lookB_eq] at hg
  rw [wanted_of h2 hw, if_pos rfl]
  obtain ⟨i, i1, i2, i3, i4⟩ := info_of hs hb hzz
  have hv := h2.ev hx
  obtain ⟨L, l1, l2, l3, l4⟩ := own_val h1 hv hg hn
  obtain ⟨xb, c, Vs, hX, hc, hA⟩ := src_sound h1 (h2.ev hy) hr
  have hV : ∃ a l d, A.eval x = .slice a l d ∧ l ≤ d := by
    have hsl := l4
    unfold Loc.isSlice at hsl
    obtain ⟨L', q1, q2, q3, q4, q5⟩ := h1.obj id _ hg
    obtain rfl : L = L' := by rw [l1] at q1; simpa using q1
    rcases q5 with ⟨e0, e1, e2⟩ | ⟨b, C, e1, e2, e3, e4, e5, e6⟩
    · rw [e0] at hsl
      obtain ⟨⟨a, ha⟩, _⟩ := hsl
      exact ⟨a, 0, 0, ha, Nat.le_refl _⟩
    · rw [e1] at hsl
      obtain ⟨r1, a, ha, _⟩ := hsl
      exact ⟨_, _, _, ha, by omega⟩
  obtain ⟨a, l, d, ha, hld⟩ := hV
  refine wpIn_value (V := A.eval x) (w' := w) (.inl ?_) (hK _ _ _ (.refl _ _) h1 hv)
  simp only [execOp, ho, resolve, Sem.run_bind, Sem.run_pure, Result.andThen_ok, invoke]
  have h := run_append_nothing (P := P) w t o.type e i (telem_inv he) i1 a xb l d c hld
  have hX2 : A.eval y = .slice xb 0 c := hX
  simp [builtin, Sem.run_bind, ha, hX2, h]
section
variable {P : Program} {Q : Exit → LAct → LSt → Prop} {n nx : Nat} {m : List (Nat × LV)} {mo mo2 : List (Nat × LO)} {k : List KI} {c : Code}
/-- Objects are told in another order, or left out of sight. -/
theorem LK.seen (h : ∀ id o, Lw.look id mo2 = some o → Lw.look id mo = some o) (hk : LK P (.code c :: k) Q ⟨n, m⟩ ⟨nx, mo2⟩) : LK P (.code c :: k) Q ⟨n, m⟩ ⟨nx, mo⟩ := by
  refine LK.lw fun r E w A h0 h1 h2 h3 => ?_
  have h' : LW P c (post P k Q) ⟨n, m⟩ ⟨nx, mo2⟩ := hk
  exact h' r E w A h0 (h1.less rfl h) h2 h3
/-- More numbers are left free. -/
theorem LK.room {N : Nat} (hle : nx ≤ N) (hk : LK P (.code c :: k) Q ⟨n, m⟩ ⟨N, mo⟩) : LK P (.code c :: k) Q ⟨n, m⟩ ⟨nx, mo⟩ := by
  refine LK.lw fun r E w A h0 h1 h2 h3 => ?_
  have h' : LW P c (post P k Q) ⟨n, m⟩ ⟨N, mo⟩ := hk
  exact h' r E w A h0 ⟨h1.fresh, h1.sep, h1.low, h1.flow, fun i hi => Nat.lt_of_lt_of_le (h1.nx i hi) hle, h1.obj⟩ h2 h3
end
/-- A nil slice in one row of an array of our own becomes an array of our own without rows. -/
theorem Sim.ownRow {E : Env} {w : World} {nx id sz i : Nat} {mo : List (Nat × LO)} {rows : List (List LV)} (hS : Sim E w ⟨nx, mo⟩) (hid : id < nx) (ho : look id mo = some (.arr 1 rows)) (hi : rows[i]? = some [.pv (.sc (.slice none 0 0))]) :
    ∃ E', Ext E w E' w ∧ Sim E' w ⟨nx + 1, upd id (.arr 1 (rows.set i [.own nx 0 0 0])) (upd nx (.arr sz []) mo)⟩ := by
  obtain ⟨g1, g2⟩ := hS.nilObj sz 0
  have hne : nx ≠ id := by omega
  have g3 := g2.retell (id := id) (o := .arr 1 rows) (o' := .arr 1 (rows.set i [.own nx 0 0 0])) (by rw [look_upd, if_neg hne]; exact ho) (fun L hL hO => by
    obtain ⟨q1, q2, q3, q4⟩ := hO
    refine ⟨q1, by rw [List.length_set]; exact q2, fun r hr => ?_, ?_⟩
    · rcases List.mem_or_eq_of_mem_set hr with hr | rfl
      · exact q3 r hr
      · rfl
    rcases q4 with q4 | ⟨b, C, p1, p2, p3, p4, p5, p6⟩
    · exact .inl q4
    · have hil := (List.getElem?_eq_some_iff.1 hi).1
      have hflat : ∀ (R : List (List LV)), (∀ r ∈ R, r.length = 1) → R.flatten.length = R.length ∧ ∀ (j : Nat) (r : List LV), R[j]? = some r → ∀ x, r = [x] → R.flatten[j]? = some x := by
        intro R
        induction R with
        | nil => intro _; exact ⟨rfl, by simp⟩
        | cons r R ih =>
          intro h
          obtain ⟨k1, k2⟩ := ih fun r' hr' => h r' (List.mem_cons_of_mem _ hr')
          have h1 := h r (List.mem_cons_self ..)
          obtain ⟨x, rfl⟩ : ∃ x, r = [x] := by
            cases r with
            | nil => simp at h1
            | cons x r => cases r with
              | nil => exact ⟨x, rfl⟩
              | cons y r => simp at h1
          refine ⟨by simp [k1], fun j r' hj y hy => ?_⟩
          cases j with
          | zero => simp at hj; subst hj; simp at hy; subst hy; rfl
          | succ j => simpa using k2 j r' (by simpa using hj) y hy
      have hset1 : ∀ r ∈ rows.set i [LV.own nx 0 0 0], r.length = 1 := by
        intro r hr
        rcases List.mem_or_eq_of_mem_set hr with hr | rfl
        · exact q3 r hr
        · rfl
      obtain ⟨f1, f2⟩ := hflat rows q3
      obtain ⟨s1, s2⟩ := hflat _ hset1
      rw [List.length_set] at s1
      refine .inr ⟨b, C, p1, p2, p3, p4, p5, fun j hj => ?_⟩
      have hj' : j < rows.flatten.length := by omega
      obtain ⟨V, v1, v2, v3⟩ := p6 j hj'
      refine ⟨V, v1, v2, ?_⟩
      by_cases e : j = i
      · subst e
        have e1 : rows.flatten[j] = LV.pv (.sc (.slice none 0 0)) := by
          have := f2 j _ hi _ rfl
          rw [List.getElem?_eq_getElem hj'] at this
          exact Option.some.inj this
        have e2 : (rows.set j [LV.own nx 0 0 0]).flatten[j] = LV.own nx 0 0 0 := by
          have := s2 j _ (List.getElem?_set_self hil) _ rfl
          rw [List.getElem?_eq_getElem hj] at this
          exact Option.some.inj this
        rw [e1] at v3
        rw [e2]
        obtain rfl := v3.sc_inv
        refine .own _ _ _ _ _ (.inl rfl) ⟨none, 0, 0, rfl⟩ (fun L' hL' => ?_)
        simp only [Env.put, if_true, Option.some.injEq] at hL'
        subst hL'
        exact ⟨Nat.le_refl _, fun _ => ⟨⟨none, rfl⟩, rfl, rfl⟩⟩
      · have hjr : j < rows.length := by omega
        obtain ⟨x, hx⟩ : ∃ x, rows[j] = [x] := by
          have := q3 _ (List.getElem_mem hjr)
          match h : rows[j], this with
          | [x], _ => exact ⟨x, rfl⟩
        have h1 := f2 j _ (List.getElem?_eq_getElem hjr) _ hx
        have h2 := s2 j rows[j] (by rw [List.getElem?_set_ne (Ne.symm e)]; exact List.getElem?_eq_getElem hjr) _ hx
        rw [List.getElem?_eq_getElem hj'] at h1
        rw [List.getElem?_eq_getElem hj] at h2
        rw [Option.some.inj h2, ← Option.some.inj h1]; exact v3)
  exact ⟨_, g1, g3⟩
section
variable {P : Program} {Q : Exit → LAct → LSt → Prop} {n nx : Nat} {m : List (Nat × LV)} {mo mo2 : List (Nat × LO)} {k : List KI} {c : Code}
theorem LK.ownRow (id sz i : Nat) {rows : List (List LV)} (hid : id < nx) (ho : lookB id mo = some (.arr 1 rows)) (hi : rows[i]? = some [.pv (.sc (.slice none 0 0))]) (hm : upd id (.arr 1 (rows.set i [.own nx 0 0 0])) (upd nx (.arr sz []) mo) = mo2) (hk : LK P (.code c :: k) Q ⟨n, m⟩ ⟨nx + 1, mo2⟩) : LK P (.code c :: k) Q ⟨n, m⟩ ⟨nx, mo⟩ := by
  subst hm
  refine LK.lw fun r E w A h0 h1 h2 h3 => ?_
  rw [lookB_eq] at ho
  obtain ⟨E', g1, g2⟩ := h1.ownRow (sz := sz) hid ho hi
  have h' : LW P c (post P k Q) ⟨n, m⟩ ⟨nx + 1, upd id (.arr 1 (rows.set i [.own nx 0 0 0])) (upd nx (.arr sz []) mo)⟩ := hk
  exact wpIn_mono (h' r _ w A h0 g2 (h2.mono g1) (h3.mono g1)) fun x A' w' q => lift_up g1 (.refl _ _) q
end
theorem Becomes.ownRow {n nx id sz i : Nat} {m : List (Nat × LV)} {mo : List (Nat × LO)} {rows : List (List LV)} (hid : id < nx) (ho : look id mo = some (.arr 1 rows)) (hi : rows[i]? = some [.pv (.sc (.slice none 0 0))]) : Becomes ⟨n, m⟩ ⟨nx, mo⟩ ⟨n, m⟩ ⟨nx + 1, upd id (.arr 1 (rows.set i [.own nx 0 0 0])) (upd nx (.arr sz []) mo)⟩ := by
  intro E w A h1 h2
  obtain ⟨E', g1, g2⟩ := h1.ownRow (sz := sz) hid ho hi
  exact ⟨E', g1, g2, h2.mono g1⟩
/-- Arrays of our own within an array of our own, lent to a call that only reads. -/
theorem VRel.ownsAt {E : Env} {w : World} {nx id n off len : Nat} {mo : List (Nat × LO)} (hS : Sim E w ⟨nx, mo⟩) {rows : List (List LV)} (ho : look id mo = some (.arr 1 rows)) (hn : rows.length = n) (hoff : off = 0) (hlen : len = n) {ps : List PV} (hps : ps.length = n)
    (h : ∀ (i : Nat) (p : PV), ps[i]? = some p → ∃ j nj oj lj R, rows[i]? = some [.own j nj oj lj] ∧ look j mo = some (.arr 1 R) ∧ frz1 ⟨nx, mo⟩ 1 j nj oj lj = .pv p) {V : Value} (hv : VRel E w (.own id n off len) V) : VRel E.clear w (.pv (.ro .any 1 (ps.map fun p => [p]))) V := by
  subst hoff; subst hlen
  obtain ⟨L, l1, l2, l3, l4⟩ := own_val hS hv ho hn
  have hsl := l4
  unfold Loc.isSlice at hsl
  obtain ⟨L', q1, q2, q3, q4, q5⟩ := hS.obj id _ ho
  obtain rfl : L = L' := by rw [l1] at q1; simpa using q1
  have hfl : (ps.map fun p => [p]).flatten = ps := by
    clear h hps
    induction ps with
    | nil => rfl
    | cons p ps ih => simp [ih]
  rcases q5 with ⟨e0, e1, e2⟩ | ⟨b, C, e1, e2, e3, e4, e5, e6⟩
  · rw [e0] at hsl
    obtain ⟨⟨a, rfl⟩, _, hz⟩ := hsl
    have : ps = [] := List.eq_nil_of_length_eq_zero (by omega)
    subst this
    cases a with
    | none => exact .pv _ _ (.ronil _ _ (.inr (.inl rfl)))
    | some a => exact .pv _ _ (.ro _ _ [] a 0 (fun _ => undef) (.inr ⟨by simp, by simp, by simp, by simp⟩) (by decide) (by simp) (by simp) (by simp) (by simp))
  · rw [e1] at hsl
    obtain ⟨r1, a, rfl, r2⟩ := hsl
    have hlp : (ps.map fun p => [p]).length = len := by simpa using hps
    rw [← hlp]
    refine .pv _ _ (.ro .any _ _ a (L.cap - 0) (fun j => C.getD j undef) (.inr ⟨by simp, by simp, by simp, by rw [hlp]; omega⟩) (by omega) (fun r hr => by obtain ⟨p, _, rfl⟩ := List.mem_map.1 hr; rfl) (fun hne => ?_) (fun j hj => ?_) (fun j hj => ?_))
    · have hpos : 0 < len := by
        rw [hfl] at hne
        have := List.length_pos_iff.2 hne
        omega
      obtain rfl := r2 (by omega)
      refine ⟨rfl, ?_⟩
      obtain ⟨k1, k2⟩ := hS.low id L b l1 e1
      exact ⟨k1, (by rintro ⟨_, _, h, _⟩; cases h), k2⟩
    all_goals
      have hjp : j < ps.length := by rw [hfl] at hj; exact hj
      have hjr : j < rows.length := by omega
      obtain ⟨i', nj, oj, lj, R, h1, h2, h3⟩ := h j _ (List.getElem?_eq_getElem hjp)
      have hflr : ∀ (R : List (List LV)), (∀ r ∈ R, r.length = 1) → ∀ (j : Nat) (x : LV), R[j]? = some [x] → ∃ h : j < R.flatten.length, R.flatten[j] = x := by
        intro R
        induction R with
        | nil => intro _ j x hj; simp at hj
        | cons r R ih =>
          intro h j x hj
          have h1 := h r (List.mem_cons_self ..)
          obtain ⟨y, rfl⟩ : ∃ y, r = [y] := by
            cases r with
            | nil => simp at h1
            | cons x r => cases r with
              | nil => exact ⟨x, rfl⟩
              | cons y r => simp at h1
          cases j with
          | zero => simp at hj; subst hj; exact ⟨by simp, by simp⟩
          | succ j =>
            obtain ⟨k1, k2⟩ := ih (fun r' hr' => h r' (List.mem_cons_of_mem _ hr')) j x (by simpa using hj)
            exact ⟨by simpa using k1, by simpa using k2⟩
      obtain ⟨hjf, hx⟩ := hflr rows (fun r hr => by rw [q4 r hr]) j _ h1
      obtain ⟨W, w1, w2, w3⟩ := e6 j hjf
      have hpos : 0 < L.cap - 0 := by omega
      obtain rfl := r2 hpos
      have hsz1 : L.sz = 1 := q2
      have hg : C.getD j undef = W := by simp [Array.getD_eq_getD_getElem?, w1]
      first
      | (refine ⟨?_, by rw [hg]; exact w2⟩
         rw [hg, addr_add, cell_at e2, ← w1]
         congr 1; omega)
      | (rw [hg]
         rw [hx] at w3
         have := frz1_sound (sz := 1) hS w3
         rw [h3] at this
         have e : (ps.map fun p => [p]).flatten[j] = ps[j] := by simp only [hfl]
         rw [e]
         cases this with
         | pv _ _ hP => exact hP)
end Go.Lw

set_option linter.unusedVariables false
set_option linter.unusedSimpArgs false
namespace Go.Lw
/-- What one operation reads and makes; whether it looks at objects; whether it turns them, and into what. -/
structure XE where
  e : Ev
  mem : Bool
  chg : Bool
  σ : LSt
def xT (l : List XE) : List Ev := l.map (·.e)
/-- The objects behind those that have been carried out. -/
def sOf (f : Nat → Bool) : Nat → List XE → LSt → LSt
  | _, [], σ => σ
  | k, x :: r, σ => sOf f (k + 1) r (if f k && x.chg then x.σ else σ)
inductive SRun (pn : Env → Prop) (P : Program) (ops : Array Oper) (N : Nat) : List Oper → List XE → List (Nat × LV) → LSt → List (Nat × LV) → LSt → Prop
  | nil (T : List (Nat × LV)) (σ : LSt) : SRun pn P ops N [] [] T σ T σ
  /-- It only moves. -/
  | mv {o : Oper} {r : List Oper} {x : XE} {es : List XE} {T : List (Nat × LV)} {σ : LSt} {T' : List (Nat × LV)} {σ' : LSt} (hwt : x.e.wt = o.dst) (hd : ∀ d, o.dst = some d → d < N) (htv : ∀ p ∈ x.e.tv, look p.1 T = some p.2) (hm : x.mem = false) (hc : x.chg = false)
      (hs : ∀ τ, LStep P ops o ⟨N, x.e.tv⟩ τ x.e.v τ) (hr : SRun pn P ops N r es (x.e.putT T) σ T' σ') : SRun pn P ops N (o :: r) (x :: es) T σ T' σ'
  /-- It reads objects. -/
  | rd {o : Oper} {r : List Oper} {x : XE} {es : List XE} {T : List (Nat × LV)} {σ : LSt} {T' : List (Nat × LV)} {σ' : LSt} (hwt : x.e.wt = o.dst) (hd : ∀ d, o.dst = some d → d < N) (htv : ∀ p ∈ x.e.tv, look p.1 T = some p.2) (hm : x.mem = true) (hc : x.chg = false)
      (hs : LStep P ops o ⟨N, x.e.tv⟩ σ x.e.v σ) (hr : SRun pn P ops N r es (x.e.putT T) σ T' σ') : SRun pn P ops N (o :: r) (x :: es) T σ T' σ'
  /-- It turns objects. -/
  | wr {o : Oper} {r : List Oper} {x : XE} {es : List XE} {T : List (Nat × LV)} {σ : LSt} {T' : List (Nat × LV)} {σ' : LSt} (hwt : x.e.wt = o.dst) (hd : ∀ d, o.dst = some d → d < N) (htv : ∀ p ∈ x.e.tv, look p.1 T = some p.2) (hm : x.mem = true) (hc : x.chg = true)
      (hs : LStepX pn P ops o ⟨N, x.e.tv⟩ σ x.e.v x.σ) (hr : SRun pn P ops N r es (x.e.putT T) x.σ T' σ') : SRun pn P ops N (o :: r) (x :: es) T σ T' σ'
def sPairs (ms : Array Nat) (es : List XE) : Bool :=
  (List.range es.length).all fun j => (List.range j).all fun i => match es[i]?, es[j]? with
    | some x, some y => !(touch x.e y.e || (x.mem && y.mem && (x.chg || y.chg))) || (ms.getD j 0).testBit i
    | _, _ => true
def okDrawS (ops : Array Oper) (es : List XE) : Bool := let ms := Region.before ops; masksOk ops ms && sPairs ms es
section
variable {pn : Env → Prop} {P : Program} {ops : Array Oper} {N : Nat}
theorem SRun.len {l : List Oper} {es : List XE} {T σ T' σ'} (h : SRun pn P ops N l es T σ T' σ') : l.length = es.length := by
  induction h with
  | nil => rfl
  | mv _ _ _ _ _ _ _ ih => simp [ih]
  | rd _ _ _ _ _ _ _ ih => simp [ih]
  | wr _ _ _ _ _ _ _ ih => simp [ih]
theorem sOf_zero : ∀ (es : List XE) (k : Nat) (σ : LSt), sOf (fun j => decide (j < 0)) k es σ = σ
  | [], k, σ => rfl
  | x :: es, k, σ => by simp only [sOf]; rw [sOf_zero es (k + 1)]; simp
theorem sOf_succ (i : Nat) : ∀ (es : List XE) (k : Nat) (σ : LSt), sOf (fun j => decide (j < i + 1)) (k + 1) es σ = sOf (fun j => decide (j < i)) k es σ
  | [], k, σ => rfl
  | x :: es, k, σ => by simp only [sOf, Nat.add_lt_add_iff_right]; exact sOf_succ i es (k + 1) _
theorem tOf_zero : ∀ (es : List Ev) (k : Nat) (m : List (Nat × LV)), tOf (fun j => decide (j < 0)) k es m = m
  | [], k, m => rfl
  | e :: es, k, m => by simp only [tOf]; rw [tOf_zero es (k + 1)]; simp
theorem tOf_succ (i : Nat) : ∀ (es : List Ev) (k : Nat) (m : List (Nat × LV)), tOf (fun j => decide (j < i + 1)) (k + 1) es m = tOf (fun j => decide (j < i)) k es m
  | [], k, m => rfl
  | e :: es, k, m => by simp only [tOf, Nat.add_lt_add_iff_right]; exact tOf_succ i es (k + 1) _
theorem sOf_congr (f g : Nat → Bool) : ∀ (es : List XE) (k : Nat) (σ : LSt), (∀ j x, es[j]? = some x → x.chg = true → f (k + j) = g (k + j)) → sOf f k es σ = sOf g k es σ
  | [], k, σ, _ => rfl
  | x :: es, k, σ, h => by
    simp only [sOf]
    have h0 : (f k && x.chg) = (g k && x.chg) := by
      cases hc : x.chg with
      | false => simp
      | true => have := h 0 x rfl hc; simp only [Nat.add_zero] at this; rw [this]
    rw [h0]
    exact sOf_congr f g es (k + 1) _ fun j y hy hc => by have := h (j + 1) y hy hc; rwa [show k + (j + 1) = k + 1 + j by omega] at this
theorem sOf_last (f : Nat → Bool) : ∀ (es : List XE) (k i : Nat) (σ : LSt) (x : XE), es[i]? = some x → x.chg = true → f (k + i) = true → (∀ j y, es[j]? = some y → i < j → y.chg = true → f (k + j) = false) → sOf f k es σ = x.σ
  | [], k, i, σ, x, h, _, _, _ => by simp at h
  | y :: es, k, 0, σ, x, h, hc, hf, hl => by
    obtain rfl : y = x := by simpa using h
    simp only [sOf]
    simp only [Nat.add_zero] at hf
    rw [hf, hc]
    simp only [Bool.and_self, if_true]
    rw [sOf_congr f (fun j => decide (j < 0)) es (k + 1) _ fun j z hz hc => by
      have := hl (j + 1) z hz (by omega) hc
      rw [show k + (j + 1) = k + 1 + j by omega] at this
      rw [this]; simp, sOf_zero]
  | y :: es, k, i + 1, σ, x, h, hc, hf, hl => by
    simp only [sOf]
    exact sOf_last f es (k + 1) i _ x h hc (by rwa [show k + 1 + i = k + (i + 1) by omega]) fun j z hz hij hc => by
      have := hl (j + 1) z hz (by omega) hc
      rwa [show k + (j + 1) = k + 1 + j by omega] at this
/-- What each operation meets in the order of the text. -/
theorem SRun.at_ {l : List Oper} {es : List XE} {T σ T' σ'} (h : SRun pn P ops N l es T σ T' σ') : ∀ (i : Nat) (x : XE) (o : Oper), es[i]? = some x → l[i]? = some o →
    x.e.wt = o.dst ∧ (∀ d, o.dst = some d → d < N) ∧ (∀ p ∈ x.e.tv, look p.1 (tOf (fun j => decide (j < i)) 0 (xT es) T) = some p.2) ∧
      ((x.chg = false ∧ ∀ τ, LStep P ops o ⟨N, x.e.tv⟩ τ x.e.v τ) ∨ (x.mem = true ∧ x.chg = false ∧ LStep P ops o ⟨N, x.e.tv⟩ (sOf (fun j => decide (j < i)) 0 es σ) x.e.v (sOf (fun j => decide (j < i)) 0 es σ)) ∨
       (x.mem = true ∧ x.chg = true ∧ LStepX pn P ops o ⟨N, x.e.tv⟩ (sOf (fun j => decide (j < i)) 0 es σ) x.e.v x.σ)) := by
  induction h with
  | nil => intro i x o h; simp at h
  | @mv o r x es T σ T' σ' hwt hd htv hm hc hs hr ih =>
    intro i y o' hy ho
    cases i with
    | zero =>
      obtain rfl : x = y := by simpa using hy
      obtain rfl : o = o' := by simpa using ho
      exact ⟨hwt, hd, fun p hp => by rw [tOf_zero]; exact htv p hp, .inl ⟨hc, hs⟩⟩
    | succ i =>
      obtain ⟨g1, g2, g3, g4⟩ := ih i y o' hy ho
      refine ⟨g1, g2, fun p hp => ?_, ?_⟩
      · simp only [xT, List.map_cons, tOf]; rw [if_pos (by simp), tOf_succ]; exact g3 p hp
      · simp only [sOf, hc, Bool.and_false, Bool.false_eq_true, if_false]; rw [sOf_succ]; exact g4
  | @rd o r x es T σ T' σ' hwt hd htv hm hc hs hr ih =>
    intro i y o' hy ho
    cases i with
    | zero =>
      obtain rfl : x = y := by simpa using hy
      obtain rfl : o = o' := by simpa using ho
      exact ⟨hwt, hd, fun p hp => by rw [tOf_zero]; exact htv p hp, .inr (.inl ⟨hm, hc, by rw [sOf_zero]; exact hs⟩)⟩
    | succ i =>
      obtain ⟨g1, g2, g3, g4⟩ := ih i y o' hy ho
      refine ⟨g1, g2, fun p hp => ?_, ?_⟩
      · simp only [xT, List.map_cons, tOf]; rw [if_pos (by simp), tOf_succ]; exact g3 p hp
      · simp only [sOf, hc, Bool.and_false, Bool.false_eq_true, if_false]; rw [sOf_succ]; exact g4
  | @wr o r x es T σ T' σ' hwt hd htv hm hc hs hr ih =>
    intro i y o' hy ho
    cases i with
    | zero =>
      obtain rfl : x = y := by simpa using hy
      obtain rfl : o = o' := by simpa using ho
      exact ⟨hwt, hd, fun p hp => by rw [tOf_zero]; exact htv p hp, .inr (.inr ⟨hm, hc, by rw [sOf_zero]; exact hs⟩)⟩
    | succ i =>
      obtain ⟨g1, g2, g3, g4⟩ := ih i y o' hy ho
      refine ⟨g1, g2, fun p hp => ?_, ?_⟩
      · simp only [xT, List.map_cons, tOf]; rw [if_pos (by simp), tOf_succ]; exact g3 p hp
      · simp only [sOf, hc, Nat.zero_lt_succ, decide_true, Bool.and_self, if_true]; rw [sOf_succ]; exact g4
theorem SRun.fin {l : List Oper} {es : List XE} {T σ T' σ'} (h : SRun pn P ops N l es T σ T' σ') : ∀ (f : Nat → Bool) (k : Nat), (∀ j, j < es.length → f (k + j) = true) → tOf f k (xT es) T = T' ∧ sOf f k es σ = σ' := by
  induction h with
  | nil => intro f k _; exact ⟨rfl, rfl⟩
  | mv hwt hd htv hm hc hs hr ih =>
    intro f k hf
    have h0 : f k = true := hf 0 (by simp)
    obtain ⟨h1, h2⟩ := ih f (k + 1) (fun j hj => by have := hf (j + 1) (by simpa using hj); rwa [show k + (j + 1) = k + 1 + j by omega] at this)
    simp only [xT, List.map_cons, tOf, sOf, h0, hc, if_true, Bool.and_false, Bool.false_eq_true, if_false]
    exact ⟨h1, h2⟩
  | rd hwt hd htv hm hc hs hr ih =>
    intro f k hf
    have h0 : f k = true := hf 0 (by simp)
    obtain ⟨h1, h2⟩ := ih f (k + 1) (fun j hj => by have := hf (j + 1) (by simpa using hj); rwa [show k + (j + 1) = k + 1 + j by omega] at this)
    simp only [xT, List.map_cons, tOf, sOf, h0, hc, if_true, Bool.and_false, Bool.false_eq_true, if_false]
    exact ⟨h1, h2⟩
  | wr hwt hd htv hm hc hs hr ih =>
    intro f k hf
    have h0 : f k = true := hf 0 (by simp)
    obtain ⟨h1, h2⟩ := ih f (k + 1) (fun j hj => by have := hf (j + 1) (by simpa using hj); rwa [show k + (j + 1) = k + 1 + j by omega] at this)
    simp only [xT, List.map_cons, tOf, sOf, h0, hc, if_true, Bool.and_self]
    exact ⟨h1, h2⟩
end
theorem xT_get {es : List XE} {i : Nat} {x : XE} (h : es[i]? = some x) : (xT es)[i]? = some x.e := by simp [xT, h]
theorem xT_get' {es : List XE} {i : Nat} {e : Ev} (h : (xT es)[i]? = some e) : ∃ x, es[i]? = some x ∧ x.e = e := by simpa [xT] using h
set_option maxHeartbeats 1000000 in
theorem LK.drawnS {P : Program} {Q : Exit → LAct → LSt → Prop} {a : LAct} {σ : LSt} {k : List KI} {id : Nat} {ops : Array Oper} (hm : P.follows .mixedOrders = true)
    (hall0 : ∀ E0 w0, Sim E0 w0 σ → ∃ (pn : Env → Prop) (xs : List XE) (T' : List (Nat × LV)) (σ' : LSt), (∀ E w, Ext E0 w0 E w → pn E) ∧ SRun pn P ops a.n ops.toList xs a.m σ T' σ' ∧ okDrawS ops xs = true ∧ LK P k Q ⟨a.n, T'⟩ σ') : LK P (.code (.region id ops true) :: k) Q a σ := by
  refine LK.lw fun rd E0 w0 A0 _ hS0 hA0 hdf => wpIn_region_any hm ?_
  obtain ⟨pn, xs, T', σ', hpn, hd, ho, h⟩ := hall0 E0 w0 hS0
  unfold okDrawS at ho
  simp only [Bool.and_eq_true] at ho
  obtain ⟨hmask, hpair⟩ := ho
  have hlen : xs.length = ops.size := by have := hd.len; simpa using this.symm
  have hord : ∀ (i j : Nat) (x y : XE), xs[i]? = some x → xs[j]? = some y → i < j → (touch x.e y.e || (x.mem && y.mem && (x.chg || y.chg))) = true → ((Region.before ops).getD j 0).testBit i = true := by
    intro i j x y hx hy hij ht
    unfold sPairs at hpair
    rw [List.all_eq_true] at hpair
    have hjl := (List.getElem?_eq_some_iff.1 hy).1
    have h1 := hpair j (List.mem_range.2 hjl)
    rw [List.all_eq_true] at h1
    have h2 := h1 i (List.mem_range.2 hij)
    rw [hx, hy] at h2
    simp only [ht, Bool.not_true, Bool.false_or] at h2
    exact h2
  have main : ∀ (fuel : Nat) (listed : Array Bool) (A : Act) (w : World), listed.size = ops.size → todo ops.size (fun j => listed.getD j false) ≤ fuel → DownC ops (fun j => listed.getD j false) →
      (∃ E, Ext E0 w0 E w ∧ Sim E w (sOf (fun j => listed.getD j false) 0 xs σ) ∧ AR E w ⟨a.n, tOf (fun j => listed.getD j false) 0 (xT xs) a.m⟩ A ∧ (Marks E w A.defers ∧ A.defers = A0.defers)) →
      wpAnyIn (wd rd) 0 P .any ops (lift E0 w0 A0.defers (post P k Q)) fuel listed A w := by
    intro fuel
    induction fuel with
    | zero =>
      rintro listed A w hsz htd hdc ⟨E, i1, i2, i3, i4⟩
      have hall := todo_zero (Nat.le_zero.1 htd)
      have hr0 : Region.ready .any ops listed = [] := by
        apply List.eq_nil_iff_forall_not_mem.2
        intro j hj
        obtain ⟨h1, o, h2, _⟩ := mem_ready.1 hj
        have hjl := (Array.getElem?_eq_some_iff.1 h2).1
        have := hall j hjl
        rw [Array.getD_eq_getD_getElem?, Array.getElem?_eq_getElem (by omega)] at h1 this
        simp_all
      obtain ⟨f1, f2⟩ := hd.fin (fun j => listed.getD j false) 0 (fun j hj => by rw [Nat.zero_add]; exact hall j (by omega))
      rw [f1] at i3; rw [f2] at i2
      exact ⟨hr0, trivial, ⟨a.n, T'⟩, σ', E, i1, i2, i3, ⟨i4.1, i4.2 ▸ .refl _ _⟩, h⟩
    | succ fuel ih =>
      rintro listed A w hsz htd hdc ⟨E, i1, i2, i3, i4⟩
      refine ⟨fun hr0 => ?_, fun i hi => ?_⟩
      · have hall : ∀ j, j < ops.size → listed.getD j false = true := by
          intro j
          induction j using Nat.strongRecOn with
          | _ j ihj =>
            intro hj
            cases hc : listed.getD j false with
            | true => rfl
            | false =>
              exfalso
              have hnr : j ∉ Region.ready .any ops listed := by rw [hr0]; simp
              apply hnr
              refine mem_ready.2 ⟨?_, ops[j], Array.getElem?_eq_getElem hj, fun e he hb => ?_⟩
              · rw [Array.getD_eq_getD_getElem?, Array.getElem?_eq_getElem (by omega)] at hc ⊢
                simpa using hc
              · unfold masksOk at hmask
                rw [List.all_eq_true] at hmask
                have hmj := hmask j (List.mem_range.2 hj)
                rw [Array.getElem?_eq_getElem hj] at hmj
                simp only [Bool.and_eq_true, List.all_eq_true, Bool.or_eq_true, Bool.not_eq_true', decide_eq_true_eq] at hmj
                have hlt := (hmj.1 e (by simpa using he)).resolve_left (by simp [hb])
                exact ihj e.on hlt (by omega)
        obtain ⟨f1, f2⟩ := hd.fin (fun j => listed.getD j false) 0 (fun j hj => by rw [Nat.zero_add]; exact hall j (by omega))
        rw [f1] at i3; rw [f2] at i2
        exact ⟨trivial, ⟨a.n, T'⟩, σ', E, i1, i2, i3, ⟨i4.1, i4.2 ▸ .refl _ _⟩, h⟩
      · obtain ⟨hl, o, ho, hre⟩ := mem_ready.1 hi
        have hil := (Array.getElem?_eq_some_iff.1 ho).1
        have hlf : listed.getD i false = false := by
          rw [Array.getD_eq_getD_getElem?, Array.getElem?_eq_getElem (by omega)] at hl ⊢
          simpa using hl
        have hx : xs[i]? = some (xs[i]'(by omega)) := List.getElem?_eq_getElem (by omega)
        generalize xs[i]'(by omega) = x at hx
        have hoL : ops.toList[i]? = some o := by simpa using ho
        obtain ⟨c1, c2, c3, c4⟩ := hd.at_ i x o hx hoL
        have hbefore : ∀ (j : Nat) (y : XE), xs[j]? = some y → j < i → (touch y.e x.e || (y.mem && x.mem && (y.chg || x.chg))) = true → listed.getD j false = true := by
          intro j y hy hji ht
          refine before_listed hmask hdc i j hil (hord j i y x hy hx hji ht) fun o' ho' e' he' hb' => ?_
          rw [ho] at ho'
          obtain rfl := Option.some.inj ho'
          exact hre e' he' hb'
        have hbehind : ∀ (j : Nat) (y : XE), xs[j]? = some y → i < j → (touch x.e y.e || (x.mem && y.mem && (x.chg || y.chg))) = true → listed.getD j false = false := by
          intro j y hy hij ht
          cases hc : listed.getD j false with
          | false => rfl
          | true =>
            have hjl : j < ops.size := by have := (List.getElem?_eq_some_iff.1 hy).1; omega
            have := before_listed hmask hdc j i hjl (hord i j x y hx hy hij ht) fun o' ho' e' he' hb' => hdc j o' ho' hc e' he' hb'
            rw [hlf] at this; cases this
        have htouchT : ∀ (y : Ev) t, y.wt = some t → (∃ u, (t, u) ∈ x.e.tv) → touch y x.e = true ∧ touch x.e y = true := by
          rintro y t hy ⟨u, hu⟩
          have : (x.e.tv.any fun p => p.1 == t) = true := List.any_eq_true.2 ⟨(t, u), hu, by simp⟩
          constructor
          · unfold touch; rw [hy]; simp [this]
          · unfold touch; rw [hy]
            simp only [this, Bool.or_true, Bool.true_or]
        have htouchW : ∀ (y : Ev) t, y.wt = some t → x.e.wt = some t → touch y x.e = true ∧ touch x.e y = true := by
          intro y t hy hw
          constructor <;> (unfold touch; rw [hy, hw]; simp)
        have hT : ∀ p ∈ x.e.tv, look p.1 (tOf (fun j => listed.getD j false) 0 (xT xs) a.m) = some p.2 := by
          intro p hp
          rw [tOf_congr (fun j => listed.getD j false) (fun j => decide (j < i)) p.1 (xT xs) 0 a.m a.m rfl fun j e he hw => by
            rw [Nat.zero_add]
            obtain ⟨y, hy, rfl⟩ := xT_get' he
            have ht := htouchT y.e p.1 hw ⟨p.2, hp⟩
            rcases Nat.lt_trichotomy j i with c | c | c
            · rw [hbefore j y hy c (by rw [ht.1]; rfl)]; simp [c]
            · subst c; rw [hlf]; simp
            · rw [hbehind j y hy c (by rw [ht.2]; rfl)]; simp; omega]
          exact c3 p hp
        have hSt : x.mem = true → (∀ (j : Nat) (y : XE), xs[j]? = some y → y.chg = true → y.mem = true) → sOf (fun j => listed.getD j false) 0 xs σ = sOf (fun j => decide (j < i)) 0 xs σ := by
          intro hmm hcm
          refine sOf_congr _ _ xs 0 σ fun j y hy hc => ?_
          rw [Nat.zero_add]
          have hym := hcm j y hy hc
          rcases Nat.lt_trichotomy j i with c | c | c
          · rw [hbefore j y hy c (by rw [hym, hmm, hc]; simp)]; simp [c]
          · subst c; rw [hlf]; simp
          · rw [hbehind j y hy c (by rw [hym, hmm, hc]; simp)]; simp; omega
        have hcm : ∀ (j : Nat) (y : XE), xs[j]? = some y → y.chg = true → y.mem = true := by
          intro j y hy hc
          have hjl : j < ops.size := by have := (List.getElem?_eq_some_iff.1 hy).1; omega
          obtain ⟨_, _, _, c⟩ := hd.at_ j y ops[j] hy (by simp [hjl])
          rcases c with ⟨c, _⟩ | ⟨c, _⟩ | ⟨c, _⟩
          · rw [hc] at c; cases c
          · exact c
          · exact c
        have hflags : ∀ j, (listed.setIfInBounds i true).getD j false = if j = i then true else listed.getD j false := by
          intro j
          by_cases c : j = i
          · subst c
            rw [if_pos rfl, Array.getD_eq_getD_getElem?, Array.getElem?_setIfInBounds]
            simp [show j < listed.size by omega]
          · rw [if_neg c, getD_set_ne _ (Ne.symm c)]
        have hTnew : ∀ t, look t (tOf (fun j => (listed.setIfInBounds i true).getD j false) 0 (xT xs) a.m) = if x.e.wt = some t then some x.e.v else look t (tOf (fun j => listed.getD j false) 0 (xT xs) a.m) := by
          intro t
          by_cases c : x.e.wt = some t
          · rw [if_pos c]
            refine tOf_last _ t (xT xs) 0 i a.m x.e (xT_get hx) c (by simp only [Nat.zero_add, hflags, if_true]) fun j e he hij hw => ?_
            obtain ⟨y, hy, rfl⟩ := xT_get' he
            simp only [Nat.zero_add, hflags]
            rw [if_neg (by omega)]
            exact hbehind j y hy hij (by rw [(htouchW y.e t hw c).2]; rfl)
          · rw [if_neg c]
            refine tOf_congr _ _ t (xT xs) 0 a.m a.m rfl fun j e he hw => ?_
            simp only [Nat.zero_add, hflags]
            rw [if_neg]
            rintro rfl
            rw [xT_get hx] at he
            obtain rfl := Option.some.inj he
            exact c hw
        have hSnew : sOf (fun j => (listed.setIfInBounds i true).getD j false) 0 xs σ = if x.chg then x.σ else sOf (fun j => listed.getD j false) 0 xs σ := by
          cases c : x.chg with
          | true =>
            rw [if_pos rfl]
            refine sOf_last _ xs 0 i σ x hx c (by simp only [Nat.zero_add, hflags, if_true]) fun j y hy hij hc => ?_
            simp only [Nat.zero_add, hflags]
            rw [if_neg (by omega)]
            exact hbehind j y hy hij (by rw [hcm i x hx c, hcm j y hy hc, c]; simp)
          | false =>
            simp only [Bool.false_eq_true, if_false]
            refine sOf_congr _ _ xs 0 σ fun j y hy hc => ?_
            simp only [Nat.zero_add, hflags]
            rw [if_neg]
            rintro rfl
            rw [hx] at hy
            obtain rfl := Option.some.inj hy
            rw [c] at hc; cases hc
        have finish : ∀ V w' E' τ, Ext E w E' w' → Sim E' w' τ → τ = sOf (fun j => (listed.setIfInBounds i true).getD j false) 0 xs σ → VRel E' w' x.e.v V → wpAnyIn (wd rd) 0 P .any ops (lift E0 w0 A0.defers (post P k Q)) fuel (listed.setIfInBounds i true) (A.put o.dst V) w' := by
          intro V w' E' τ u1 u2 hτ u3
          rw [hτ] at u2
          refine ih _ _ _ (by simp [hsz]) ?_ ?_ ⟨_, i1.trans u1, u2, ⟨?_, fun t v hv => ?_⟩, ⟨defers_put (i4.1.mono u1), by rw [put_defers]; exact i4.2⟩⟩
          · have := todo_set (m := ops.size) (f := fun j => listed.getD j false) (g := fun j => (listed.setIfInBounds i true).getD j false) hil hlf (by simp only [hflags, if_true]) (fun j hj => by simp only [hflags, if_neg hj])
            omega
          · intro j o' ho' hj e' he' hb'
            simp only [hflags] at hj ⊢
            by_cases c : j = i
            · subst c
              rw [ho] at ho'
              obtain rfl := Option.some.inj ho'
              have := hre e' he' hb'
              split
              · rfl
              · exact this
            · rw [if_neg c] at hj
              have := hdc j o' ho' hj e' he' hb'
              split
              · rfl
              · exact this
          · have := i3.1
            cases hdst : o.dst <;> simp [Act.put, this]
          · simp only [hTnew] at hv
            by_cases c : x.e.wt = some t
            · rw [if_pos c] at hv
              obtain rfl := Option.some.inj hv
              have hdst : o.dst = some t := by rw [← c1]; exact c
              have hlt : t < A.tmps.size := by rw [i3.1]; exact c2 t hdst
              rw [hdst]
              simp only [Act.put]
              have : (A.tmps.setIfInBounds t V).getD t undef = V := by
                rw [Array.getD_eq_getD_getElem?, Array.getElem?_setIfInBounds]; simp [hlt]
              rw [this]
              exact u3
            · rw [if_neg c] at hv
              have h1 := (i3.2 t v hv).mono u1
              have : (A.put o.dst V).tmps.getD t undef = A.tmps.getD t undef := by
                cases hdst : o.dst with
                | none => rfl
                | some d =>
                  have hne : d ≠ t := fun e' => c (by rw [c1, hdst, e'])
                  simp only [Act.put]
                  rw [Array.getD_eq_getD_getElem?, Array.getElem?_setIfInBounds, if_neg hne, ← Array.getD_eq_getD_getElem?]
              rw [this]; exact h1
        have hAR : AR E w ⟨a.n, x.e.tv⟩ A := ⟨i3.1, fun t v hv => i3.2 t v (hT _ (look_mem _ _ _ hv))⟩
        simp only [wpOpIn, ho]
        rcases c4 with ⟨hc, hs⟩ | ⟨hmm, hc, hs⟩ | ⟨hmm, hc, hs⟩
        · exact hs _ _ _ _ E w A i2 hAR fun V w' E' g1 g2 g3 => finish V w' E' _ g1 g2 (by rw [hSnew, hc]; rfl) g3
        · rw [← hSt hmm hcm] at hs
          exact hs _ _ _ E w A i2 hAR fun V w' E' g1 g2 g3 => finish V w' E' _ g1 g2 (by rw [hSnew, hc]; rfl) g3
        · rw [← hSt hmm hcm] at hs
          exact hs _ _ _ E w A (hpn E w i1) i2 hAR fun V w' E' g1 g2 g3 => finish V w' E' _ g1 g2 (by rw [hSnew, hc]; rfl) g3
  refine main ops.size _ A0 _ (by simp) ?_ ?_ ?_
  · unfold todo
    exact Nat.le_trans (List.countP_le_length) (by simp)
  · intro j o' _ hj
    have hj' : (Array.replicate ops.size false).getD j false = true := hj
    rw [Array.getD_eq_getD_getElem?, Array.getElem?_replicate] at hj'
    split at hj' <;> simp at hj'
  · have hz : ∀ j, (Array.replicate ops.size false).getD j false = false := by
      intro j
      rw [Array.getD_eq_getD_getElem?, Array.getElem?_replicate]
      split <;> rfl
    have hzT : ∀ (es : List Ev) (k : Nat) (m : List (Nat × LV)), tOf (fun j => (Array.replicate ops.size false).getD j false) k es m = m := by
      intro es
      induction es with
      | nil => intro k m; rfl
      | cons e es ih =>
        intro k m
        show tOf (fun j => (Array.replicate ops.size false).getD j false) (k + 1) es (if (Array.replicate ops.size false).getD k false = true then _ else m) = m
        rw [if_neg (by rw [hz]; simp)]; exact ih _ _
    have hzS : sOf (fun j => (Array.replicate ops.size false).getD j false) 0 xs σ = σ := by
      rw [sOf_congr _ (fun j => decide (j < 0)) xs 0 σ fun j x _ _ => by rw [hz]; simp, sOf_zero]
    rw [hzT, hzS]
    obtain ⟨s1, s2⟩ := hS0.still (w' := { w0 with drawn := w0.drawn + 1 }) rfl rfl rfl rfl
    exact ⟨E0, s1, s2, hA0.mono s1, ⟨hdf.mono s1, rfl⟩⟩
section
variable {pn : Env → Prop} {P : Program} {ops : Array Oper} {N : Nat} {T T' : List (Nat × LV)} {σ σ' σ2 : LSt} {r : List Oper} {es : List XE} {d t : Nat} {op : Op} {ty : TypeId} {pos : String} {af : Array Edge} {v : LV}
theorem SRun.move (hl : lookB t T = some v) (hd : Nat.blt d N = true) (hr : SRun pn P ops N r es ((d, v) :: T) σ T' σ') : SRun pn P ops N (⟨some d, .move (.tmp t), ty, pos, af, none⟩ :: r) (⟨⟨[(t, v)], [], some d, v, [], 0, 0, none⟩, false, false, ⟨0, []⟩⟩ :: es) T σ T' σ' := by
  refine .mv rfl (fun d' hd' => by cases hd'; exact bltE hd) (fun p hp => ?_) rfl rfl (fun τ => LStep.lop rfl ?_) hr
  · obtain rfl : p = (t, v) := by simpa using hp
    rw [← lookB_eq]; exact hl
  · simp [lop, LAct.ev, look]
theorem SRun.read {tv : List (Nat × LV)} (htv : readB T (tmpsOf op) = some tv) (hl : lopE P op ⟨N, tv⟩ σ = some (v, σ)) (hd : Nat.blt d N = true) (hr : SRun pn P ops N r es ((d, v) :: T) σ T' σ') : SRun pn P ops N (⟨some d, op, ty, pos, af, none⟩ :: r) (⟨⟨tv, [], some d, v, [], 0, 0, none⟩, true, false, ⟨0, []⟩⟩ :: es) T σ T' σ' :=
  .rd rfl (fun d' hd' => by cases hd'; exact bltE hd) (fun p hp => readB_look _ _ _ htv p hp) rfl rfl (LStep.lop rfl (by rw [lopE_eq]; exact hl)) hr
theorem SRun.write {tv : List (Nat × LV)} (htv : readB T (tmpsOf op) = some tv) (hl : lopE P op ⟨N, tv⟩ σ = some (v, σ2)) (hr : SRun pn P ops N r es T σ2 T' σ') : SRun pn P ops N (⟨none, op, ty, pos, af, none⟩ :: r) (⟨⟨tv, [], none, v, [], 0, 0, none⟩, true, true, σ2⟩ :: es) T σ T' σ' :=
  .wr rfl (fun d' hd' => by cases hd') (fun p hp => readB_look _ _ _ htv p hp) rfl rfl (LStep.lop rfl (by rw [lopE_eq]; exact hl)).x hr
theorem SRun.step {tv : List (Nat × LV)} (htv : readB T (tmpsOf op) = some tv) (hs : LStepX pn P ops ⟨some d, op, ty, pos, af, none⟩ ⟨N, tv⟩ σ v σ2) (hd : Nat.blt d N = true) (hr : SRun pn P ops N r es ((d, v) :: T) σ2 T' σ') : SRun pn P ops N (⟨some d, op, ty, pos, af, none⟩ :: r) (⟨⟨tv, [], some d, v, [], 0, 0, none⟩, true, true, σ2⟩ :: es) T σ T' σ' :=
  .wr rfl (fun d' hd' => by cases hd'; exact bltE hd) (fun p hp => readB_look _ _ _ htv p hp) rfl rfl hs hr
end
theorem SRun.all {E0 : Env} {w0 : World} {P : Program} {n : Nat} {m : List (Nat × LV)} {σ : LSt} {ops : Array Oper} {Good : List (Nat × LV) → LSt → Prop} (pn : Env → Prop) {xs : List XE} {T' : List (Nat × LV)} {σ' : LSt} (h1 : ∀ E w, Ext E0 w0 E w → pn E) (h2 : SRun pn P ops n ops.toList xs m σ T' σ') (h3 : okDrawS ops xs = true) (h4 : Good T' σ') :
    ∃ (pn : Env → Prop) (xs : List XE) (T' : List (Nat × LV)) (σ' : LSt), (∀ E w, Ext E0 w0 E w → pn E) ∧ SRun pn P ops n ops.toList xs m σ T' σ' ∧ okDrawS ops xs = true ∧ Good T' σ' := ⟨pn, xs, T', σ', h1, h2, h3, h4⟩
/-- The region first, what comes behind it for all states that it may leave. -/
theorem LK.drawnG {P : Program} {Q : Exit → LAct → LSt → Prop} {n : Nat} {m : List (Nat × LV)} {σ : LSt} {k : List KI} {id : Nat} {ops : Array Oper} (hm : P.follows .mixedOrders = true) (Good : List (Nat × LV) → LSt → Prop)
    (h : ∀ E0 w0, Sim E0 w0 σ → ∃ (pn : Env → Prop) (xs : List XE) (T' : List (Nat × LV)) (σ' : LSt), (∀ E w, Ext E0 w0 E w → pn E) ∧ SRun pn P ops n ops.toList xs m σ T' σ' ∧ okDrawS ops xs = true ∧ Good T' σ')
    (hk : ∀ T' σ', Good T' σ' → LK P k Q ⟨n, T'⟩ σ') : LK P (.code (.region id ops true) :: k) Q ⟨n, m⟩ σ :=
  LK.drawnS hm fun E0 w0 hS => by
    obtain ⟨pn, xs, T', σ', h1, h2, h3, h4⟩ := h E0 w0 hS
    exact ⟨pn, xs, T', σ', h1, h2, h3, hk _ _ h4⟩
section
variable {P : Program} {ops : Array Oper} {Q : Exit → LAct → LSt → Prop} {rest : List Oper} {n nx : Nat} {m : List (Nat × LV)} {mo mo2 : List (Nat × LO)}
theorem LOps.ownRow (id sz i : Nat) {rows : List (List LV)} (hid : id < nx) (ho : look id mo = some (.arr 1 rows)) (hi : rows[i]? = some [.pv (.sc (.slice none 0 0))]) (hm : upd id (.arr 1 (rows.set i [.own nx 0 0 0])) (upd nx (.arr sz []) mo) = mo2) (h : LOps P ops Q rest ⟨n, m⟩ ⟨nx + 1, mo2⟩) : LOps P ops Q rest ⟨n, m⟩ ⟨nx, mo⟩ := by
  subst hm
  intro r E w A h1 h2 h3
  obtain ⟨E', g1, g2⟩ := h1.ownRow (sz := sz) hid ho hi
  exact LOps.lift g1 (.refl _ _) (h r _ w A g2 (h2.mono g1) (h3.mono g1))
end
end Go.Lw
