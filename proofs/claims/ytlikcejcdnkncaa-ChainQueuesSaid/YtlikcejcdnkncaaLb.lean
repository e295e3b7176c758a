/- A logical layer over the calculus of walks: one evaluator, calls, loops, regions whose order is drawn. -/
import Derived.Test.YtlikcejcdnkncaaLa
import Derived.Orders
import Derived.Below
import Derived.Carry
import Derived.LoopN
set_option linter.unusedVariables false
set_option linter.unusedSimpArgs false
namespace Go.Lw

def LSt.arr (σ : LSt) (id n : Nat) : Option (Nat × List (List LV)) :=
  match σ.get id with
  | some (.arr sz rows) => if rows.length = n then some (sz, rows) else none
  | _ => none
theorem arr_inv {σ : LSt} {id n sz : Nat} {rows : List (List LV)} (h : σ.arr id n = some (sz, rows)) : σ.get id = some (.arr sz rows) ∧ rows.length = n := by
  unfold LSt.arr at h
  split at h
  · rename_i sz' rows' hg
    split at h
    · simp only [Option.some.injEq, Prod.mk.injEq] at h; obtain ⟨rfl, rfl⟩ := h; exact ⟨hg, by assumption⟩
    · cases h
  · cases h

def tarr (P : Program) (t : TypeId) : Option (Nat × TypeId) :=
  match P.underlying t with
  | some (.array n e) => some (n, e)
  | _ => none
theorem tarr_inv {P : Program} {t e : TypeId} {n : Nat} (h : tarr P t = some (n, e)) : P.underlying t = some (.array n e) := by
  unfold tarr at h
  split at h
  · rename_i hu; simp only [Option.some.injEq, Prod.mk.injEq] at h; obtain ⟨rfl, rfl⟩ := h; exact hu
  · cases h

def intOfV : Option LV → Option Int
  | some (.pv (.sc (.int _ n))) => some n
  | _ => none
theorem intOfV_inv {x : Option LV} {n : Int} (h : intOfV x = some n) : ∃ k, x = some (.pv (.sc (.int k n))) := by
  unfold intOfV at h
  split at h
  · rename_i k m; simp only [Option.some.injEq] at h; subst h; exact ⟨k, rfl⟩
  · cases h
def scV : Option Operand → LAct → Option (Option Value)
  | none, _ => some none
  | some x, a => (scOf (a.ev x)).map some

/-! ### The parts -/
def lload (P : Program) (t : TypeId) (σ : LSt) (v : LV) : Option LV :=
  match tagg P t, tsize P t with
  | some ag, some s =>
    match v with
    | .ptr id n i j => match σ.arr id n with
      | some (_, rows) => match rows[i]? with
        | some r => partL ag s r j
        | none => none
      | none => none
    | .rp _ rows i j => match rows[i]? with
      | some r => partP ag s r j
      | none => none
    | _ => none
  | _, _ => none

def lstore (P : Program) (t : TypeId) (σ : LSt) (v x : LV) : Option LSt :=
  match tsize P t with
  | some s =>
    match v with
    | .ptr id n i j => match σ.arr id n with
      | some (sz, rows) => match rows[i]? with
        | some r => if x.cells.all (·.leaf) = true ∧ x.cells.length = s ∧ j + s ≤ r.length then some (σ.put id (.arr sz (rows.set i (splice r j x.cells)))) else none
        | none => none
      | none => none
    | _ => none
  | none => none

def lfieldAddr (P : Program) (t : TypeId) (f : Nat) (σ : LSt) (v : LV) : Option LV :=
  match tfield P t f with
  | some (off, ft) => match tsize P ft with
    | some s => if 0 < s then
        match v with
        | .ptr id n i j => match σ.arr id n with
          | some _ => if 0 < n then some (.ptr id n i (j + off)) else none
          | none => none
        | .rp sz rows i j => some (.rp sz rows i (j + off))
        | _ => none
      else none
    | none => none
  | none => none

def lfield (P : Program) (t : TypeId) (f : Nat) (v : LV) : Option LV :=
  match tfield P t f with
  | some (off, ft) => match tagg P ft, tsize P ft with
    | some ag, some s => match v with
      | .agg l => partL ag s l off
      | _ => none
    | _, _ => none
  | none => none

def lindexAddr (P : Program) (t : TypeId) (σ : LSt) (v : LV) (i : Int) : Option LV :=
  match telem P t with
  | some e => match tsize P e with
    | some s => if 0 < s then
        match v with
        | .pv (.ro _ sz rows) => if sz = s ∧ 0 ≤ i ∧ i < rows.length then some (.rp sz rows i.toNat 0) else none
        | .own id n off len => match σ.arr id n with
          | some (sz, _) => if sz = s ∧ 0 ≤ i ∧ i < len ∧ off + len ≤ n then some (.ptr id n (off + i.toNat) 0) else none
          | none => none
        | _ => none
      else none
    | none => none
  | none => match tarr P t with
    | some (m, e) => match tsize P e with
      | some s => match v with
        | .ptr id n i' j => match σ.arr id n with
          | some _ => if 0 < n ∧ 0 ≤ i ∧ i < m then some (.ptr id n i' (j + i.toNat * s)) else none
          | none => none
        | _ => none
      | none => none
    | none => none

def lindex (P : Program) (t : TypeId) (v : LV) (i : Int) : Option LV :=
  match tarr P t with
  | some (m, e) => match tagg P e, tsize P e with
    | some ag, some s => match v with
      | .agg l => if 0 ≤ i ∧ i < m then partL ag s l (i.toNat * s) else none
      | _ => none
    | _, _ => none
  | none => none

def lbinop (P : Program) (op : BinOp) (t : TypeId) (σ : LSt) (x y : LV) : Option LV :=
  match x, y with
  | .agg l1, .agg l2 => match teq P t with
    | some os => match fieldsEq os l1 l2 with
      | some b => match op with
        | .eql => some (.pv (.sc (.bool b)))
        | .neq => some (.pv (.sc (.bool (!b))))
        | _ => none
      | none => none
    | none => none
  | v, .pv (.sc (.slice none 0 0)) => match telem P t with
    | some _ => match nilTest σ v with
      | some b => match op with
        | .eql => some (.pv (.sc (.bool b)))
        | .neq => some (.pv (.sc (.bool (!b))))
        | _ => none
      | none => none
    | none => none
  | .pv (.sc X), .pv (.sc Y) => (lbin P op t X Y).map fun v => .pv (.sc v)
  | _, _ => none

def lconv (P : Program) (src dst : TypeId) (σ : LSt) (v : LV) : Option LV :=
  match v with
  | .pv (.sc (.int _ n)) => match tint P dst with
    | some k => if (P.underlying src).isSome then some (.pv (.sc (.int k (k.wrap n)))) else none
    | none => none
  | v => match telem P src with
    | some e => if tint P e = some .u8 ∧ (P.underlying dst).map isStrD = some true then
        match srcRows 1 σ v with
        | some rows => (unB rows).map fun l => .pv (.sc (.string (strOfNums l)))
        | none => none
      else none
    | none => none

/-- What is asked of an element's type where new rows are laid: how many cells, bytes, and the zero cells. -/
def telemZ (P : Program) (t : TypeId) : Option (TypeId × Nat × Nat × List LV) :=
  match telem P t with
  | some e => match tsize P e, tbytes P e, tzero P e with
    | some s, some b, some z => if 0 < s ∧ (ofV z).cells.length = s ∧ (ofV z).cells.all (·.leaf) = true then some (e, s, b, (ofV z).cells) else none
    | _, _, _ => none
  | none => none
theorem telemZ_inv {P : Program} {t e : TypeId} {s b : Nat} {zc : List LV} (h : telemZ P t = some (e, s, b, zc)) : ∃ z, telem P t = some e ∧ tsize P e = some s ∧ tbytes P e = some b ∧ tzero P e = some z ∧ 0 < s ∧ (ofV z).cells.length = s ∧ (ofV z).cells.all (·.leaf) = true ∧ zc = (ofV z).cells ∧ z.cells.size = s := by
  unfold telemZ at h
  split at h
  case h_2 => cases h
  rename_i e' he
  split at h
  case h_2 => cases h
  rename_i s' b' z hs hb hz
  split at h
  case isFalse => cases h
  rename_i hc
  simp only [Option.some.injEq, Prod.mk.injEq] at h
  obtain ⟨rfl, rfl, rfl, rfl⟩ := h
  obtain ⟨Vs, v1, v2, _⟩ := zero_rel ⟨fun _ => none, fun _ => False, fun _ => False⟩ default z hc.2.2
  exact ⟨z, he, hs, hb, hz, hc.1, hc.2.1, hc.2.2, rfl, by rw [v1]; simp; omega⟩

def lappend (P : Program) (t : TypeId) (σ : LSt) (v x : LV) : Option (LV × LSt) :=
  match telemZ P t with
  | some (e, s, b, _) => match srcRows s σ x with
    | some rows =>
      match v with
      | .pv (.ro .nil _ []) | .pv (.ro .tight _ []) | .pv (.ro .flat _ []) | .pv (.sc (.slice _ 0 0)) =>
        if rows.length ≤ maxLen ∧ rows.length * b ≤ 140737488355328 then some (.own σ.nx rows.length 0 rows.length, σ.put σ.nx (.arr s rows)) else none
      | .own id n 0 len => match σ.arr id n with
        | some (sz, old) =>
          if sz = s then
            if len = n then
              if n + rows.length ≤ maxLen ∧ (n + rows.length) * b ≤ 140737488355328 then some (.own id (n + rows.length) 0 (n + rows.length), σ.put id (.arr s (old ++ rows))) else none
            else if len + rows.length ≤ n then some (.own id n 0 (len + rows.length), σ.put id (.arr s (old.take len ++ rows ++ old.drop (len + rows.length)))) else none
          else none
        | none => none
      | _ => none
    | none => none
  | none => none

def lslice (P : Program) (t : TypeId) (σ : LSt) (v : LV) (lo hi mx : Option Value) : Option LV :=
  match telem P t with
  | some e => match tsize P e with
    | some s =>
      match mx with
      | none =>
        match v with
        | .pv (.ro _ sz rows) => match loB lo, hiB rows.length hi with
          | some l, some h => if sz = s ∧ l ≤ h ∧ h ≤ rows.length then some (.pv (.ro .any sz ((rows.drop l).take (h - l)))) else none
          | _, _ => none
        | .own id n off len => match σ.arr id n, loB lo, hiB len hi with
          | some (sz, _), some l, some h => if sz = s ∧ l ≤ h ∧ h ≤ len ∧ off + len ≤ n then some (.own id n (off + l) (h - l)) else none
          | _, _, _ => none
        | _ => none
      | some (.int _ 0) =>
        match hi, loB lo with
        | some (.int _ 0), some 0 =>
          match v with
          | .pv (.ro .nil _ _) => some (.pv (.ro .nil s []))
          | .pv (.ro .loose _ _) => some (.pv (.ro .tight s []))
          | .pv (.ro .tight _ _) => some (.pv (.ro .tight s []))
          | .pv (.ro .flat _ _) => some (.pv (.ro .flat s []))
          | .pv (.ro .any _ _) => some (.pv (.ro .flat s []))
          | _ => none
        | _, _ => none
      | _ => none
    | none => none
  | none => none

def lmapLook (P : Program) (t : TypeId) (σ : LSt) (ok : Bool) : LV → LV → Option LV
  | .mp id, .pv (.sc (.int k n)) => match tmap P t with
    | some (kk, e) => match σ.get id, tzero P e with
      | some (.map es), some z => if k = kk then llook (ofV z) kk n es ok else none
      | _, _ => none
    | none => none
  | _, _ => none
def lmapPut (P : Program) (t : TypeId) (σ : LSt) (v : LV) : LV → LV → Option LSt
  | .mp id, .pv (.sc (.int k n)) => match tmap P t with
    | some (kk, _) => match σ.get id with
      | some (.map es) => if k = kk ∧ v.leaf = true then (mput kk n v es).map fun es' => σ.put id (.map es') else none
      | _ => none
    | none => none
  | _, _ => none
def lmapDel (P : Program) (t : TypeId) (σ : LSt) : LV → LV → Option LSt
  | .mp id, .pv (.sc (.int k n)) => match tmap P t with
    | some (kk, _) => match σ.get id with
      | some (.map es) => if k = kk then (mdel kk n es).map fun es' => σ.put id (.map es') else none
      | _ => none
    | none => none
  | _, _ => none
def lmapLen (P : Program) (t : TypeId) (σ : LSt) : LV → Option LV
  | .mp id => match tmap P t with
    | some _ => match σ.get id with
      | some (.map es) => some (.pv (.sc (.int .i64 es.length)))
      | _ => none
    | none => none
  | _ => none

def levs (a : LAct) : List Operand → Option (List LV)
  | [] => some []
  | x :: r => match a.ev x, levs a r with
    | some v, some vs => some (v :: vs)
    | _, _ => none
def lparts (a : LAct) : List (Nat × Operand) → Option (List (Nat × LV))
  | [] => some []
  | (i, x) :: r => match a.ev x, lparts a r with
    | some v, some vs => some ((i, v) :: vs)
    | _, _ => none

theorem levs_sound {E : Env} {w : World} {a : LAct} {A : Act} (hA : AR E w a A) : ∀ {xs : List Operand} {vs : List LV}, levs a xs = some vs → ArgsR E w vs (xs.map A.eval)
  | [], vs, h => by simp only [levs, Option.some.injEq] at h; subst h; exact ⟨rfl, by simp⟩
  | x :: r, vs, h => by
    simp only [levs] at h
    split at h
    · rename_i v vs' h1 h2
      simp only [Option.some.injEq] at h
      subst h
      have ih := levs_sound hA h2
      refine ⟨by simp [ih.1], fun i i1 i2 => ?_⟩
      cases i with
      | zero => exact hA.ev h1
      | succ i => exact ih.2 i (by simpa using i1) (by simpa using i2)
    · cases h
theorem lparts_sound {E : Env} {w : World} {a : LAct} {A : Act} (hA : AR E w a A) : ∀ {xs : List (Nat × Operand)} {vs : List (Nat × LV)}, lparts a xs = some vs → PartsR E w vs (xs.map fun p => (p.1, A.eval p.2))
  | [], vs, h => by simp only [lparts, Option.some.injEq] at h; subst h; exact ⟨rfl, by simp⟩
  | (k, x) :: r, vs, h => by
    simp only [lparts] at h
    split at h
    · rename_i v vs' h1 h2
      simp only [Option.some.injEq] at h
      subst h
      have ih := lparts_sound hA h2
      refine ⟨by simp [ih.1], fun i i1 i2 => ?_⟩
      cases i with
      | zero => exact ⟨rfl, hA.ev h1⟩
      | succ i => exact ih.2 i (by simpa using i1) (by simpa using i2)
    · cases h

def lbuiltin (P : Program) (b : Builtin) (ts : List TypeId) (σ : LSt) (vs : List LV) : Option (LV × LSt) :=
  match b, ts, vs with
  | .len, [t], [v] => match telem P t with
    | some e => match tsize P e with
      | some s => (srcRows s σ v).map fun rows => (.pv (.sc (.int .i64 rows.length)), σ)
      | none => none
    | none => match tarr P t with
      | some (m, _) => some (.pv (.sc (.int .i64 m)), σ)
      | none => (lmapLen P t σ v).map (·, σ)
  | .append, [t, u], [v, x] => if t = u then lappend P t σ v x else none
  | .max, _, [.pv (.sc X), .pv (.sc Y)] => (lminmax true X Y).map fun V => (.pv (.sc V), σ)
  | .min, _, [.pv (.sc X), .pv (.sc Y)] => (lminmax false X Y).map fun V => (.pv (.sc V), σ)
  | .copy, [t, _], [.own id n off len, x] => match telemZ P t with
    | some (_, s, _, _) => match σ.arr id n, srcRows s σ x with
      | some (sz, rows), some src => if sz = s ∧ off + len ≤ n then
          some (.pv (.sc (.int .i64 (Nat.min src.length len))), σ.put id (.arr s (rows.take off ++ src.take (Nat.min src.length len) ++ rows.drop (off + Nat.min src.length len)))) else none
      | _, _ => none
    | none => none
  | .clear, [t], [.own id n off len] => match telemZ P t with
    | some (_, s, _, z) => match σ.arr id n with
      | some (sz, rows) => if sz = s ∧ off + len ≤ n then some (.pv (.sc (.tuple #[])), σ.put id (.arr s (rows.take off ++ List.replicate len z ++ rows.drop (off + len)))) else none
      | none => none
    | none => none
  | .delete, [t, _], [v, x] => (lmapDel P t σ v x).map (.pv (.sc (.tuple #[])), ·)
  | _, _, _ => none

def litRows : Nat → List LV → List (List LV)
  | 0, _ => []
  | n + 1, z => z :: litRows n z
theorem litRows_eq (z : List LV) : ∀ n, litRows n z = List.replicate n z
  | 0 => rfl
  | n + 1 => by rw [litRows, litRows_eq z n, List.replicate_succ]
/-- All operations that call nothing. -/
def lop (P : Program) (o : Oper) (a : LAct) (σ : LSt) : Option (LV × LSt) :=
  match o.op with
  | .move x => (a.ev x).map (·, σ)
  | .assign x => (a.ev x).map (·, σ)
  | .pick c x y => match a.ev c with
    | some (.pv (.sc (.bool b))) => match b with
      | true => (a.ev x).map (·, σ)
      | false => (a.ev y).map (·, σ)
    | _ => none
  | .alloc e => match tzero P e with
    | some z => if (ofV z).cells.all (·.leaf) = true then some (.ptr σ.nx 1 0 0, σ.put σ.nx (.arr (ofV z).cells.length [(ofV z).cells])) else none
    | none => none
  | .box e x => match a.ev x with
    | some v => if v.cells.all (·.leaf) = true then some (.ptr σ.nx 1 0 0, σ.put σ.nx (.arr v.cells.length [v.cells])) else none
    | none => none
  | .build t ps => match tzero P t, tplaces P t, lparts a ps.toList with
    | some z, some pl, some vs => if (ofV z).cells.all (·.leaf) = true then (lfill (fun i => pl[i]?) (ofV z).cells vs).map fun out => (.agg out, σ) else none
    | _, _, _ => none
  | .buildSlice t len ps => match telemZ P t, lparts a ps.toList with
    | some (_, s, _, z), some vs => if len * s ≤ 16777216 then (lfill (fun i => some (i * s, s)) (litRows len z).flatten vs).map fun out => (.own σ.nx len 0 len, σ.put σ.nx (.arr s (rowsOf s len out))) else none
    | _, _ => none
  | .load t x => match a.ev x with
    | some v => (lload P t σ v).map (·, σ)
    | none => none
  | .store t x y => match a.ev x, a.ev y with
    | some v, some u => (lstore P t σ v u).map (vundef, ·)
    | _, _ => none
  | .nilCheck x => match a.ev x with
    | some (.ptr id n i j) => match σ.arr id n with
      | some _ => if 0 < n then some (.ptr id n i j, σ) else none
      | none => none
    | some (.rp sz rows i j) => some (.rp sz rows i j, σ)
    | _ => none
  | .binOp op t x y _ => match a.ev x, a.ev y with
    | some u, some v => (lbinop P op t σ u v).map (·, σ)
    | _, _ => none
  | .unOp op _ x => match a.ev x with
    | some (.pv (.sc X)) => (lun op X).map fun V => (.pv (.sc V), σ)
    | _ => none
  | .convert src dst x => match a.ev x with
    | some v => (lconv P src dst σ v).map (·, σ)
    | none => none
  | .makeFunc f first cap => if first.toList.isEmpty then (levs a cap.toList).map fun vs => (.fn f vs, σ) else none
  | .makeSlice t l c => match telemZ P t, intOfV (a.ev l), intOfV (a.ev c) with
    | some (_, s, b, z), some n, some m => if n = m ∧ 0 ≤ n ∧ n.toNat ≤ maxLen ∧ b * n.toNat ≤ 281474976710656 then some (.own σ.nx n.toNat 0 n.toNat, σ.put σ.nx (.arr s (List.replicate n.toNat z))) else none
    | _, _, _ => none
  | .slice t x lo hi mx => match a.ev x, scV lo a, scV hi a, scV mx a with
    | some v, some lo, some hi, some mx => (lslice P t σ v lo hi mx).map (·, σ)
    | _, _, _, _ => none
  | .fieldAddr t x f => match a.ev x with
    | some v => (lfieldAddr P t f σ v).map (·, σ)
    | none => none
  | .field t x f => match a.ev x with
    | some v => (lfield P t f v).map (·, σ)
    | none => none
  | .indexAddr t x i => match a.ev x, intOfV (a.ev i) with
    | some v, some n => (lindexAddr P t σ v n).map (·, σ)
    | _, _ => none
  | .index t x i => match a.ev x, intOfV (a.ev i) with
    | some v, some n => (lindex P t v n).map (·, σ)
    | _, _ => none
  | .extract x k => match a.ev x with
    | some (.tup l) => (l[k]?).map (·, σ)
    | _ => none
  | .call { callee := .builtin b, args, argTypes } => match levs a args.toList with
    | some vs => lbuiltin P b argTypes.toList σ vs
    | none => none
  | .makeMap t none => some (.mp σ.nx, σ.put σ.nx (.map []))
  | .lookup t x i ok => match a.ev x, a.ev i with
    | some u, some v => (lmapLook P t σ ok u v).map (·, σ)
    | _, _ => none
  | .mapUpdate t x i y => match a.ev x, a.ev i, a.ev y with
    | some u, some v, some r => (lmapPut P t σ r u v).map (vundef, ·)
    | _, _, _ => none
  | .insert t x i y => match a.ev x, a.ev i, a.ev y with
    | some u, some v, some r => (lmapPut P t σ r u v).map (vundef, ·)
    | _, _, _ => none
  | _ => none

/-! ### They are sound -/
theorem lload_sound {P : Program} {t : TypeId} {E : Env} {w : World} {σ : LSt} (hS : Sim E w σ) {v u : LV} {V : Value} (hv : VRel E w v V) (h : lload P t σ v = some u) : ∃ U, (Instr.loadAt t V).run P w = .ok U w ∧ VRel E w u U := by
  unfold lload at h
  split at h
  case h_2 => cases h
  rename_i ag s hag hs
  split at h
  · rename_i id n i j
    split at h
    case h_2 => cases h
    rename_i sz rows ha
    obtain ⟨h1, h2⟩ := arr_inv ha
    split at h
    case h_2 => cases h
    rename_i r hr
    exact load_ptr hag hs hS hv h1 h2 hr h
  · split at h
    case h_2 => cases h
    rename_i r hr
    exact load_rp hag hs hv hr h
  · cases h

theorem lstore_sound {P : Program} {t : TypeId} {E : Env} {w : World} {σ σ' : LSt} (hS : Sim E w σ) {v x : LV} {V X : Value} (hv : VRel E w v V) (hx : VRel E w x X) (h : lstore P t σ v x = some σ') : ∃ w' E', (Instr.storeAt t V X).run P w = .ok () w' ∧ Ext E w E' w' ∧ Sim E' w' σ' := by
  unfold lstore at h
  split at h
  case h_2 => cases h
  rename_i s hs
  split at h
  case h_2 => cases h
  rename_i id n i j
  split at h
  case h_2 => cases h
  rename_i sz rows ha
  obtain ⟨h1, h2⟩ := arr_inv ha
  split at h
  case h_2 => cases h
  rename_i r hr
  split at h
  case isFalse => cases h
  rename_i hc
  simp only [Option.some.injEq] at h
  subst h
  exact store_sound hs hS hv h1 h2 hr hx hc.1 hc.2.1 hc.2.2

theorem ptr_move {E : Env} {w : World} {id n i j k : Nat} {V : Value} (hv : VRel E w (.ptr id n i j) V) {L : Loc} {b : Nat} (hL : E.f id = some L) (hb : L.blk = some b) (hV : V = .pointer (some ⟨b, i * L.sz + j, none⟩)) (hn : n = L.n) : VRel E w (.ptr id n i (j + k)) (.pointer (some ⟨b, i * L.sz + (j + k), none⟩)) := by
  cases hv with
  | ptr _ _ _ _ V h1 hp h =>
    refine .ptr _ _ _ _ _ h1 ⟨_, rfl⟩ fun L' hL' => ?_
    obtain rfl : L = L' := by rw [hL] at hL'; simpa using hL'
    exact ⟨by omega, fun _ => ⟨b, hb, rfl⟩⟩

theorem ptr_full {E : Env} {w : World} {σ : LSt} (hS : Sim E w σ) {id n i j sz : Nat} {rows : List (List LV)} {V : Value} (hv : VRel E w (.ptr id n i j) V) (ha : σ.arr id n = some (sz, rows)) (hp : 0 < n) : ∃ L b, E.f id = some L ∧ L.blk = some b ∧ V = .pointer (some ⟨b, i * L.sz + j, none⟩) ∧ n = L.n ∧ L.sz = sz := by
  obtain ⟨h1, h2⟩ := arr_inv ha
  obtain ⟨L, b, k1, k2, k3⟩ := ptr_val hS hv h1 h2 hp
  obtain ⟨L', q1, q2, q3, _⟩ := hS.obj id _ h1
  obtain rfl : L = L' := by rw [k1] at q1; simpa using q1
  exact ⟨L, b, k1, k2, by rw [k3, q2], by omega, q2⟩

theorem rp_move {E : Env} {w : World} {sz i j k : Nat} {rows : List (List PV)} {V : Value} (hv : VRel E w (.rp sz rows i j) V) : ∃ a : Addr, V = .pointer (some a) ∧ VRel E w (.rp sz rows i (j + k)) (.pointer (some (a.add k))) := by
  cases hv with
  | rp _ _ _ _ a g h1 h2 h3 h4 =>
    refine ⟨_, rfl, ?_⟩
    have := VRel.rp (E := E) (w := w) sz rows i (j + k) a g h1 h2 h3 h4
    rw [addr_none h2.1] at this ⊢
    simp only [addr_add, Nat.add_assoc] at this ⊢
    exact this

theorem lfieldAddr_sound {P : Program} {t : TypeId} {f : Nat} {E : Env} {w : World} {σ : LSt} (hS : Sim E w σ) {v u : LV} {V : Value} (hv : VRel E w v V) (h : lfieldAddr P t f σ v = some u) : ∃ U, (Instr.fieldAt t V f).run P w = .ok U w ∧ VRel E w u U := by
  unfold lfieldAddr at h
  split at h
  case h_2 => cases h
  rename_i off ft hf
  split at h
  case h_2 => cases h
  rename_i s hs
  split at h
  case isFalse => cases h
  rename_i hpos
  split at h
  · rename_i id n i j
    split at h
    case h_2 => cases h
    rename_i x ha
    obtain ⟨sz, rows⟩ := x
    split at h
    case isFalse => cases h
    rename_i hn
    simp only [Option.some.injEq] at h
    subst h
    obtain ⟨L, b, k1, k2, k3, k4, _⟩ := ptr_full hS hv ha hn
    refine ⟨_, ?_, ptr_move (k := off) hv k1 k2 k3 k4⟩
    rw [k3, run_fieldAt hf hs hpos, addr_add, Nat.add_assoc]
  · simp only [Option.some.injEq] at h
    subst h
    obtain ⟨a, rfl, h2⟩ := rp_move (k := off) hv
    exact ⟨_, run_fieldAt hf hs hpos _ _, h2⟩
  · cases h

theorem lfield_sound {P : Program} {t : TypeId} {f : Nat} {E : Env} {w : World} {v u : LV} {V : Value} (hv : VRel E w v V) (h : lfield P t f v = some u) : ∃ U, (Instr.field t V f).run P w = .ok U w ∧ VRel E w u U := by
  unfold lfield at h
  split at h
  case h_2 => cases h
  rename_i off ft hf
  split at h
  case h_2 => cases h
  rename_i ag s hag hs
  split at h
  · exact field_sound hf hag hs hv h
  · cases h

theorem lindexAddr_sound {P : Program} {t : TypeId} {E : Env} {w : World} {σ : LSt} (hS : Sim E w σ) {v u : LV} {V : Value} (hv : VRel E w v V) {k : IntKind} {i : Int} (h : lindexAddr P t σ v i = some u) : ∃ U, (Instr.indexAt t V (.int k i)).run P w = .ok U w ∧ VRel E w u U := by
  unfold lindexAddr at h
  split at h
  · rename_i e he
    split at h
    case h_2 => cases h
    rename_i s hs
    split at h
    case isFalse => cases h
    rename_i hpos
    split at h
    · split at h
      case isFalse => cases h
      rename_i hc
      obtain ⟨rfl, h0, h1⟩ := hc
      simp only [Option.some.injEq] at h
      subst h
      exact index_ro he hs hpos hv h0 h1
    · rename_i id n off len
      split at h
      case h_2 => cases h
      rename_i sz rows ha
      split at h
      case isFalse => cases h
      rename_i hc
      obtain ⟨rfl, h0, h1, h2⟩ := hc
      simp only [Option.some.injEq] at h
      subst h
      obtain ⟨g1, g2⟩ := arr_inv ha
      exact index_own he hs hS hv g1 g2 h0 h1 h2
    · cases h
  · split at h
    case h_2 => cases h
    rename_i m e ha
    split at h
    case h_2 => cases h
    rename_i s hs
    split at h
    case h_2 => cases h
    rename_i id n i' j
    split at h
    case h_2 => cases h
    rename_i x har
    obtain ⟨sz, rows⟩ := x
    split at h
    case isFalse => cases h
    rename_i hc
    obtain ⟨hn, h0, h1⟩ := hc
    simp only [Option.some.injEq] at h
    subst h
    obtain ⟨L, b, k1, k2, k3, k4, _⟩ := ptr_full hS hv har hn
    have hu := tarr_inv ha
    refine ⟨_, ?_, ptr_move (k := i.toNat * s) hv k1 k2 k3 k4⟩
    subst k3
    simp only [Instr.indexAt, asIntOf, Sem.run_bind, Sem.run_pure, Result.andThen_ok, run_underlying hu, Instr.sureAddr]
    rw [if_pos ⟨h0, h1⟩]
    simp only [Sem.run_bind, run_size hs, Result.andThen_ok, Sem.run_pure, addr_add, Nat.add_assoc]

theorem lindex_sound {P : Program} {t : TypeId} {E : Env} {w : World} {v u : LV} {V : Value} (hv : VRel E w v V) {k : IntKind} {i : Int} (h : lindex P t v i = some u) : ∃ U, (Instr.index t V (.int k i)).run P w = .ok U w ∧ VRel E w u U := by
  unfold lindex at h
  split at h
  case h_2 => cases h
  rename_i m e ha
  split at h
  case h_2 => cases h
  rename_i ag s hag hs
  split at h
  case h_2 => cases h
  split at h
  case isFalse => cases h
  rename_i hc
  cases hv with
  | agg l Vs hl hr =>
    obtain ⟨U, u1, u2⟩ := run_part hag hs hl hr h
    refine ⟨U, ?_, u2⟩
    have hu := tarr_inv ha
    simp only [Instr.index, asIntOf, Sem.run_bind, Sem.run_pure, Result.andThen_ok, run_underlying hu]
    rw [if_pos hc]
    simp only [Sem.run_bind, run_size hs, Result.andThen_ok, u1]

theorem lbinop_sound {P : Program} {op : BinOp} {t : TypeId} {xo yo : Operand} {E : Env} {w : World} {σ : LSt} {x y u : LV} {X Y : Value} (hx : VRel E w x X) (hy : VRel E w y Y) (h : lbinop P op t σ x y = some u) : ∃ U, (binO op t xo yo X Y).run P w = .ok U w ∧ VRel E w u U := by
  unfold lbinop at h
  split at h
  · split at h
    case h_2 => cases h
    rename_i os ho
    split at h
    case h_2 => cases h
    rename_i b hb
    split at h
    · simp only [Option.some.injEq] at h; subst h
      exact ⟨_, struct_eq_sound ho hx hy hb (.inl rfl), .pv _ _ (.sc _)⟩
    · simp only [Option.some.injEq] at h; subst h
      exact ⟨_, struct_eq_sound ho hx hy hb (.inr rfl), .pv _ _ (.sc _)⟩
    · cases h
  · obtain rfl := hy.sc_inv
    split at h
    case h_2 => cases h
    rename_i e he
    split at h
    case h_2 => cases h
    rename_i b hb
    split at h
    · simp only [Option.some.injEq] at h; subst h
      exact ⟨_, nil_sound he hx hb (.inl rfl), .pv _ _ (.sc _)⟩
    · simp only [Option.some.injEq] at h; subst h
      exact ⟨_, nil_sound he hx hb (.inr rfl), .pv _ _ (.sc _)⟩
    · cases h
  · rename_i X' Y' _
    obtain rfl := hx.sc_inv
    obtain rfl := hy.sc_inv
    cases hb : lbin P op t X Y with
    | none => simp [hb] at h
    | some V =>
      simp only [hb, Option.map_some, Option.some.injEq] at h
      subst h
      exact ⟨V, lbin_sound hb w, .pv _ _ (.sc _)⟩
  · cases h

theorem lconv_sound {P : Program} {src dst : TypeId} {E : Env} {w : World} {σ : LSt} (hS : Sim E w σ) {v u : LV} {V : Value} (hv : VRel E w v V) (h : lconv P src dst σ v = some u) : ∃ U, (convert src dst V).run P w = .ok U w ∧ VRel E w u U := by
  unfold lconv at h
  split at h
  · rename_i k0 n
    obtain rfl := hv.sc_inv
    split at h
    case h_2 => cases h
    rename_i k hk
    split at h
    case isFalse => cases h
    rename_i hs
    simp only [Option.some.injEq] at h
    subst h
    have hik : P.intKind dst = k := by simp [Program.intKind, tint_inv hk]
    have hrun := run_convert_int (w := w) src dst k0 n hs (by rw [hik]; exact tint_inv hk)
    rw [hik] at hrun
    exact ⟨_, hrun, .pv _ _ (.sc _)⟩
  · split at h
    case h_2 => cases h
    rename_i e he
    split at h
    case isFalse => cases h
    rename_i hc
    split at h
    case h_2 => cases h
    rename_i rows hr
    cases hl : unB rows with
    | none => simp [hl] at h
    | some l =>
      simp only [hl, Option.map_some, Option.some.injEq] at h
      subst h
      exact ⟨_, bytes_string he hc.1 hc.2 hS hv hr hl, .pv _ _ (.sc _)⟩
end Go.Lw

set_option linter.unusedVariables false
set_option linter.unusedSimpArgs false
namespace Go.Lw

theorem lappend_sound {P : Program} {t ty : TypeId} {E : Env} {w : World} {σ σ' : LSt} (hS : Sim E w σ) {v x u : LV} {V X : Value} (hv : VRel E w v V) (hx : VRel E w x X) (h : lappend P t σ v x = some (u, σ')) :
    ∃ U w' E', (Builtin.append_ #[t, t] ty #[V, X]).run P w = .ok U w' ∧ Ext E w E' w' ∧ Sim E' w' σ' ∧ VRel E' w' u U := by
  unfold lappend at h
  split at h
  case h_2 => cases h
  rename_i e s b zc hz
  obtain ⟨z, he, hs, hb, hzz, hpos, hzl, hzf, rfl, hzs⟩ := telemZ_inv hz
  split at h
  case h_2 => cases h
  rename_i rows hr
  have none_case : ∀ a : Option Addr, V = .slice a 0 0 → rows.length ≤ maxLen ∧ rows.length * b ≤ 140737488355328 → (LV.own σ.nx rows.length 0 rows.length, σ.put σ.nx (.arr s rows)) = (u, σ') → ∃ U w' E', (Builtin.append_ #[t, t] ty #[V, X]).run P w = .ok U w' ∧ Ext E w E' w' ∧ Sim E' w' σ' ∧ VRel E' w' u U := by
    intro a ha hc he'
    simp only [Prod.mk.injEq] at he'
    obtain ⟨rfl, rfl⟩ := he'
    subst ha
    exact append_none (ty := ty) he hs hb hzz hzs hpos hS (.inr rfl) hx hr hc.1 hc.2
  split at h
  · split at h
    case isFalse => cases h
    rename_i hc
    cases hv with
    | pv p V hp =>
      cases hp with
      | ronil => exact none_case none rfl hc (by simpa using h)
      | ro k sz rows' a cap g hk => rcases hk with ⟨h, _⟩ | ⟨h, _⟩ <;> simp at h
  · split at h
    case isFalse => cases h
    rename_i hc
    cases hv with
    | pv p V hp =>
      cases hp with
      | ronil k sz hk => rcases hk with h | h | h <;> simp at h
      | ro k sz rows' a cap g hk =>
        rcases hk with ⟨_, h2⟩ | ⟨_, h2, _⟩
        · simp only [List.length_nil] at h2; subst h2
          exact none_case (some a) rfl hc (by simpa using h)
        · simp at h2
  · split at h
    case isFalse => cases h
    rename_i hc
    cases hv with
    | pv p V hp =>
      cases hp with
      | ronil k sz hk => exact none_case none rfl hc (by simpa using h)
      | ro k sz rows' a cap g hk =>
        rcases hk with ⟨_, h2⟩ | ⟨_, _, h2, _⟩
        · simp only [List.length_nil] at h2; subst h2
          exact none_case (some a) rfl hc (by simpa using h)
        · simp at h2
  · split at h
    case isFalse => cases h
    rename_i hc
    exact none_case _ hv.sc_inv hc (by simpa using h)
  · rename_i id n len
    split at h
    case h_2 => cases h
    rename_i sz old ha
    obtain ⟨h1, h2⟩ := arr_inv ha
    split at h
    case isFalse => cases h
    rename_i hsz
    subst hsz
    split at h
    · rename_i hln
      subst hln
      split at h
      case isFalse => cases h
      rename_i hc
      simp only [Option.some.injEq, Prod.mk.injEq] at h
      obtain ⟨rfl, rfl⟩ := h
      exact append_own (ty := ty) he hs hb hzz hzs hpos hS hv h1 h2 hx hr hc.1 hc.2
    · split at h
      case isFalse => cases h
      rename_i hc
      simp only [Option.some.injEq, Prod.mk.injEq] at h
      obtain ⟨rfl, rfl⟩ := h
      exact append_in (ty := ty) he hs hb hzz hpos hS hv h1 h2 hx hr hc
  · cases h

theorem scV_sound {E : Env} {w : World} {a : LAct} {A : Act} (hA : AR E w a A) {x : Option Operand} {v : Option Value} (h : scV x a = some v) : x.map A.eval = v := by
  cases x with
  | none => simp only [scV, Option.some.injEq] at h; subst h; rfl
  | some x =>
    simp only [scV] at h
    cases hs : scOf (a.ev x) with
    | none => simp [hs] at h
    | some u =>
      simp only [hs, Option.map_some, Option.some.injEq] at h
      subst h
      have := hA.ev (scOf_inv hs)
      rw [Option.map_some, this.sc_inv]

theorem lslice_sound {P : Program} {t : TypeId} {E : Env} {w : World} {σ : LSt} (hS : Sim E w σ) {v u : LV} {V : Value} (hv : VRel E w v V) {lo hi mx : Option Value} (h : lslice P t σ v lo hi mx = some u) : ∃ U, (Instr.sliceAt t V lo hi mx).run P w = .ok U w ∧ VRel E w u U := by
  unfold lslice at h
  split at h
  case h_2 => cases h
  rename_i e he
  split at h
  case h_2 => cases h
  rename_i s hs
  split at h
  · split at h
    · split at h
      case h_2 => cases h
      rename_i l hh hl hhi
      split at h
      case isFalse => cases h
      rename_i hc
      obtain ⟨rfl, h1, h2⟩ := hc
      simp only [Option.some.injEq] at h
      subst h
      exact slice_ro he hs hv hl hhi h1 h2
    · split at h
      case h_2 => cases h
      rename_i sz rows l hh ha hl hhi
      split at h
      case isFalse => cases h
      rename_i hc
      obtain ⟨rfl, h1, h2, h3⟩ := hc
      simp only [Option.some.injEq] at h
      subst h
      obtain ⟨g1, g2⟩ := arr_inv ha
      exact slice_own he hs hS hv g1 g2 h3 hl hhi h1 h2
    · cases h
  · split at h
    case h_2 => cases h
    rename_i hl
    split at h
    · simp only [Option.some.injEq] at h
      subst h
      cases hv with
      | pv p V hp =>
        cases hp with
        | ronil k sz hk => exact ⟨_, slice_zero (E := E) he hs rfl hl, .pv _ _ (.ronil _ _ (.inl rfl))⟩
        | ro k sz rows' a cap g hk => rcases hk with ⟨h, _⟩ | ⟨h, _⟩ <;> simp at h
    · simp only [Option.some.injEq] at h
      subst h
      cases hv with
      | pv p V hp =>
        cases hp with
        | ronil k sz hk => rcases hk with h | h | h <;> simp at h
        | ro k sz rows' a cap g hk =>
          have := PRel.ro (T := Prot E w) (w := w) .tight s [] a 0 g (.inl ⟨.inl rfl, rfl⟩) (Nat.zero_le _) (by simp) (by simp) (by simp) (by simp)
          exact ⟨_, slice_zero (E := E) he hs rfl hl, .pv _ _ this⟩
    · simp only [Option.some.injEq] at h
      subst h
      cases hv with
      | pv p V hp =>
        cases hp with
        | ronil k sz hk => rcases hk with h | h | h <;> simp at h
        | ro k sz rows' a cap g hk =>
          have := PRel.ro (T := Prot E w) (w := w) .tight s [] a 0 g (.inl ⟨.inl rfl, rfl⟩) (Nat.zero_le _) (by simp) (by simp) (by simp) (by simp)
          exact ⟨_, slice_zero (E := E) he hs rfl hl, .pv _ _ this⟩
    · simp only [Option.some.injEq] at h
      subst h
      cases hv with
      | pv p V hp =>
        cases hp with
        | ronil k sz hk => exact ⟨_, slice_zero (E := E) he hs rfl hl, .pv _ _ (.ronil _ _ (.inr (.inr rfl)))⟩
        | ro k sz rows' a cap g hk =>
          have := PRel.ro (T := Prot E w) (w := w) .flat s [] a 0 g (.inl ⟨.inr rfl, rfl⟩) (Nat.zero_le _) (by simp) (by simp) (by simp) (by simp)
          exact ⟨_, slice_zero (E := E) he hs rfl hl, .pv _ _ this⟩
    · simp only [Option.some.injEq] at h
      subst h
      cases hv with
      | pv p V hp =>
        cases hp with
        | ronil k sz hk => exact ⟨_, slice_zero (E := E) he hs rfl hl, .pv _ _ (.ronil _ _ (.inr (.inr rfl)))⟩
        | ro k sz rows' a cap g hk =>
          have := PRel.ro (T := Prot E w) (w := w) .flat s [] a 0 g (.inl ⟨.inr rfl, rfl⟩) (Nat.zero_le _) (by simp) (by simp) (by simp) (by simp)
          exact ⟨_, slice_zero (E := E) he hs rfl hl, .pv _ _ this⟩
    · cases h
  · cases h

theorem ArgsR.two {E : Env} {w : World} {x y : LV} {Vs : List Value} (h : ArgsR E w [x, y] Vs) : ∃ X Y, Vs = [X, Y] ∧ VRel E w x X ∧ VRel E w y Y := by
  obtain ⟨h1, h2⟩ := h
  match Vs, h1 with
  | [X, Y], _ => exact ⟨X, Y, rfl, h2 0 (by simp) (by simp), h2 1 (by simp) (by simp)⟩
theorem ArgsR.one {E : Env} {w : World} {x : LV} {Vs : List Value} (h : ArgsR E w [x] Vs) : ∃ X, Vs = [X] ∧ VRel E w x X := by
  obtain ⟨h1, h2⟩ := h
  match Vs, h1 with
  | [X], _ => exact ⟨X, rfl, h2 0 (by simp) (by simp)⟩

theorem lmapLook_sound {P : Program} {t : TypeId} {ok : Bool} {E : Env} {w : World} {σ : LSt} (hS : Sim E w σ) {u v r : LV} {U V : Value} (hu : VRel E w u U) (hv : VRel E w v V) (h : lmapLook P t σ ok u v = some r) : ∃ R, (Instr.lookup t U V ok).run P w = .ok R w ∧ VRel E w r R := by
  unfold lmapLook at h
  split at h
  case h_2 => cases h
  rename_i id k n
  obtain rfl := hv.sc_inv
  split at h
  case h_2 => cases h
  rename_i kk e ht
  split at h
  case h_2 => cases h
  rename_i es z hg hz
  split at h
  case isFalse => cases h
  rename_i hk
  subst hk
  exact lookup_sound ht hz hS hu hg h
theorem lmapPut_sound {P : Program} {t : TypeId} {E : Env} {w : World} {σ σ' : LSt} (hS : Sim E w σ) {u v x : LV} {U V X : Value} (hu : VRel E w u U) (hv : VRel E w v V) (hx : VRel E w x X) (h : lmapPut P t σ x u v = some σ') : ∃ w' E', (Instr.mapUpdate t U V X).run P w = .ok () w' ∧ Ext E w E' w' ∧ Sim E' w' σ' := by
  unfold lmapPut at h
  split at h
  case h_2 => cases h
  rename_i id k n
  obtain rfl := hv.sc_inv
  split at h
  case h_2 => cases h
  rename_i kk e ht
  split at h
  case h_2 => cases h
  rename_i es hg
  split at h
  case isFalse => cases h
  rename_i hk
  obtain ⟨rfl, hl⟩ := hk
  cases hm : mput k n x es with
  | none => simp [hm] at h
  | some es' =>
    simp only [hm, Option.map_some, Option.some.injEq] at h
    subst h
    exact mapUpdate_sound ht hS hu hg hx (hx.leaf hl) hm
theorem lmapDel_sound {P : Program} {t k' ty : TypeId} {E : Env} {w : World} {σ σ' : LSt} (hS : Sim E w σ) {u v : LV} {U V : Value} (hu : VRel E w u U) (hv : VRel E w v V) (h : lmapDel P t σ u v = some σ') : ∃ w' E', (Builtin.delete_ #[t, k'] ty #[U, V]).run P w = .ok (.tuple #[]) w' ∧ Ext E w E' w' ∧ Sim E' w' σ' := by
  unfold lmapDel at h
  split at h
  case h_2 => cases h
  rename_i id k n
  obtain rfl := hv.sc_inv
  split at h
  case h_2 => cases h
  rename_i kk e ht
  split at h
  case h_2 => cases h
  rename_i es hg
  split at h
  case isFalse => cases h
  rename_i hk
  subst hk
  cases hm : mdel k n es with
  | none => simp [hm] at h
  | some es' =>
    simp only [hm, Option.map_some, Option.some.injEq] at h
    subst h
    exact delete_sound ht hS hu hg hm
theorem lmapLen_sound {P : Program} {t ty : TypeId} {E : Env} {w : World} {σ : LSt} (hS : Sim E w σ) {v r : LV} {V : Value} (hv : VRel E w v V) (h : lmapLen P t σ v = some r) : ∃ R, (Builtin.len_ #[t] ty #[V]).run P w = .ok R w ∧ VRel E w r R := by
  unfold lmapLen at h
  split at h
  case h_2 => cases h
  rename_i id
  split at h
  case h_2 => cases h
  rename_i p ht
  obtain ⟨kk, e⟩ := p
  split at h
  case h_2 => cases h
  rename_i es hg
  simp only [Option.some.injEq] at h
  subst h
  exact ⟨_, maplen_sound ht hS hv hg, .pv _ _ (.sc _)⟩

theorem lbuiltin_sound {P : Program} {b : Builtin} {ts : List TypeId} {ty : TypeId} {cs : Array Bool} {E : Env} {w : World} {σ σ' : LSt} (hS : Sim E w σ) {vs : List LV} {u : LV} {Vs : List Value} (hA : ArgsR E w vs Vs) (h : lbuiltin P b ts σ vs = some (u, σ')) :
    ∃ U w' E', (builtin b ts.toArray ty cs Vs.toArray).run P w = .ok (.value U) w' ∧ Ext E w E' w' ∧ Sim E' w' σ' ∧ VRel E' w' u U := by
  unfold lbuiltin at h
  split at h
  · rename_i t v
    obtain ⟨V, rfl, hv⟩ := hA.one
    split at h
    · rename_i e he
      split at h
      case h_2 => cases h
      rename_i s hs
      cases hr : srcRows s σ v with
      | none => simp [hr] at h
      | some rows =>
        simp only [hr, Option.map_some, Option.some.injEq, Prod.mk.injEq] at h
        obtain ⟨rfl, rfl⟩ := h
        have := len_sound (ty := ty) (telem_inv he) hS hv hr
        exact ⟨_, w, E, by simp [builtin, Sem.run_bind, this], .refl _ _, hS, .pv _ _ (.sc _)⟩
    · split at h
      · rename_i m e ha
        simp only [Option.some.injEq, Prod.mk.injEq] at h
        obtain ⟨rfl, rfl⟩ := h
        have hu := tarr_inv ha
        refine ⟨_, w, E, ?_, .refl _ _, hS, .pv _ _ (.sc _)⟩
        simp [builtin, Sem.run_bind, Builtin.len_, run_underlying hu, goInt]
      · cases hm : lmapLen P t σ v with
        | none => simp [hm] at h
        | some r =>
          simp only [hm, Option.map_some, Option.some.injEq, Prod.mk.injEq] at h
          obtain ⟨rfl, rfl⟩ := h
          obtain ⟨R, h1, h2⟩ := lmapLen_sound (P := P) (ty := ty) hS hv hm
          exact ⟨R, w, E, by simp [builtin, Sem.run_bind, h1], .refl _ _, hS, h2⟩
  · rename_i t t' v x
    obtain ⟨V, X, rfl, hv, hx⟩ := hA.two
    split at h
    case isFalse => cases h
    rename_i htt
    subst htt
    obtain ⟨U, w', E', h1, h2⟩ := lappend_sound (ty := ty) hS hv hx h
    exact ⟨U, w', E', by simp [builtin, Sem.run_bind, h1], h2⟩
  · rename_i X Y
    obtain ⟨X', Y', rfl, hx, hy⟩ := hA.two
    obtain rfl := hx.sc_inv
    obtain rfl := hy.sc_inv
    cases hm : lminmax true X' Y' with
    | none => simp [hm] at h
    | some V =>
      simp only [hm, Option.map_some, Option.some.injEq, Prod.mk.injEq] at h
      obtain ⟨rfl, rfl⟩ := h
      refine ⟨_, w, E, ?_, .refl _ _, hS, .pv _ _ (.sc _)⟩
      unfold lminmax at hm
      split at hm
      · simp only [Option.some.injEq] at hm; subst hm
        simp [builtin, Sem.run_bind, Builtin.max_, Builtin.max2]
      · cases hm
  · rename_i X Y
    obtain ⟨X', Y', rfl, hx, hy⟩ := hA.two
    obtain rfl := hx.sc_inv
    obtain rfl := hy.sc_inv
    cases hm : lminmax false X' Y' with
    | none => simp [hm] at h
    | some V =>
      simp only [hm, Option.map_some, Option.some.injEq, Prod.mk.injEq] at h
      obtain ⟨rfl, rfl⟩ := h
      refine ⟨_, w, E, ?_, .refl _ _, hS, .pv _ _ (.sc _)⟩
      unfold lminmax at hm
      split at hm
      · simp only [Option.some.injEq] at hm; subst hm
        simp [builtin, Sem.run_bind, Builtin.min_, Builtin.min2]
      · cases hm
  · rename_i t t' id n off len x
    obtain ⟨V, X, rfl, hv, hx⟩ := hA.two
    split at h
    case h_2 => cases h
    rename_i e s b zc hz
    obtain ⟨z, he, hs, hb, hzz, hpos, hzl, hzf, rfl, hzs⟩ := telemZ_inv hz
    split at h
    case h_2 => cases h
    rename_i sz rows src ha hr
    split at h
    case isFalse => cases h
    rename_i hc
    obtain ⟨rfl, hle⟩ := hc
    simp only [Option.some.injEq, Prod.mk.injEq] at h
    obtain ⟨rfl, rfl⟩ := h
    obtain ⟨g1, g2⟩ := arr_inv ha
    obtain ⟨w', E', h1, h2, h3⟩ := copy_sound (u := t') (ty := ty) he hs hpos hS hv g1 g2 hle hx hr
    exact ⟨_, w', E', by simp [builtin, Sem.run_bind, h1], h2, h3, .pv _ _ (.sc _)⟩
  · rename_i t id n off len
    obtain ⟨V, rfl, hv⟩ := hA.one
    split at h
    case h_2 => cases h
    rename_i e s b zc hz
    obtain ⟨z, he, hs, hb, hzz, hpos, hzl, hzf, rfl, hzs⟩ := telemZ_inv hz
    split at h
    case h_2 => cases h
    rename_i sz rows ha
    split at h
    case isFalse => cases h
    rename_i hc
    obtain ⟨rfl, hle⟩ := hc
    simp only [Option.some.injEq, Prod.mk.injEq] at h
    obtain ⟨rfl, rfl⟩ := h
    obtain ⟨g1, g2⟩ := arr_inv ha
    obtain ⟨w', E', h1, h2, h3⟩ := clear_sound (ty := ty) he hzz hzl hzf hpos hS hv g1 g2 hle
    exact ⟨_, w', E', by simp [builtin, Sem.run_bind, h1], h2, h3, .pv _ _ (.sc _)⟩
  · rename_i t k' v x
    obtain ⟨V, X, rfl, hv, hx⟩ := hA.two
    cases hm : lmapDel P t σ v x with
    | none => simp [hm] at h
    | some σ2 =>
      simp only [hm, Option.map_some, Option.some.injEq, Prod.mk.injEq] at h
      obtain ⟨rfl, rfl⟩ := h
      obtain ⟨w', E', h1, h2, h3⟩ := lmapDel_sound (P := P) (k' := k') (ty := ty) hS hv hx hm
      exact ⟨_, w', E', by simp [builtin, Sem.run_bind, h1], h2, h3, .pv _ _ (.sc _)⟩
  · cases h

theorem lop_sound {P : Program} {o : Oper} {a : LAct} {σ σ' : LSt} {v : LV} (h : lop P o a σ = some (v, σ')) : LOp P o a σ v σ' := by
  intro E w A hS hA
  have still : ∀ {x : Option LV} {V : Value}, x.map (·, σ) = some (v, σ') → (execOp A.eval o).run P w = .ok (.value V) w → (∀ u, x = some u → VRel E w u V) → ∃ V w' E', ((execOp A.eval o).run P w = .ok (.value V) w' ∨ (execOp A.eval o).run P w = .ok .skip w' ∧ V = undef) ∧ Ext E w E' w' ∧ Sim E' w' σ' ∧ VRel E' w' v V := by
    intro x V hx hr hu
    cases x with
    | none => simp at hx
    | some u =>
      simp only [Option.map_some, Option.some.injEq, Prod.mk.injEq] at hx
      obtain ⟨rfl, rfl⟩ := hx
      exact ⟨V, w, E, .inl hr, .refl _ _, hS, hu _ rfl⟩
  have still' : ∀ {x : Option LV}, x.map (·, σ) = some (v, σ') → (∀ u, x = some u → ∃ V, (execOp A.eval o).run P w = .ok (.value V) w ∧ VRel E w u V) → ∃ V w' E', ((execOp A.eval o).run P w = .ok (.value V) w' ∨ (execOp A.eval o).run P w = .ok .skip w' ∧ V = undef) ∧ Ext E w E' w' ∧ Sim E' w' σ' ∧ VRel E' w' v V := by
    intro x hx hu
    cases x with
    | none => simp at hx
    | some u =>
      simp only [Option.map_some, Option.some.injEq, Prod.mk.injEq] at hx
      obtain ⟨rfl, rfl⟩ := hx
      obtain ⟨V, h1, h2⟩ := hu _ rfl
      exact ⟨V, w, E, .inl h1, .refl _ _, hS, h2⟩
  unfold lop at h
  split at h
  · rename_i x ho
    exact still h (by simp [execOp, ho]) fun u hu => hA.ev hu
  · rename_i x ho
    exact still h (by simp [execOp, ho]) fun u hu => hA.ev hu
  · rename_i c x y ho
    split at h
    case h_2 => cases h
    rename_i b hb
    have hc := (hA.ev hb).sc_inv
    cases b with
    | true => exact still h (V := A.eval x) (by simp [execOp, ho, hc, asBool]) fun u hu => hA.ev hu
    | false => exact still h (V := A.eval y) (by simp [execOp, ho, hc, asBool]) fun u hu => hA.ev hu
  · rename_i e ho
    split at h
    case h_2 => cases h
    rename_i z hz
    split at h
    case isFalse => cases h
    rename_i hl
    simp only [Option.some.injEq, Prod.mk.injEq] at h
    obtain ⟨rfl, rfl⟩ := h
    obtain ⟨U, w', E', h1, h2, h3, h4⟩ := alloc_sound (P := P) (e := e) hz hS hl
    exact ⟨U, w', E', .inl (by simp [execOp, ho, Sem.run_bind, h1]), h2, h3, h4⟩
  · rename_i e x ho
    split at h
    case h_2 => cases h
    rename_i u hu
    split at h
    case isFalse => cases h
    rename_i hl
    simp only [Option.some.injEq, Prod.mk.injEq] at h
    obtain ⟨rfl, rfl⟩ := h
    obtain ⟨U, w', E', h1, h2, h3, h4⟩ := box_sound (P := P) (e := e) hS (hA.ev hu) hl
    exact ⟨U, w', E', .inl (by simp [execOp, ho, Sem.run_bind, h1]), h2, h3, h4⟩
  · rename_i t ps ho
    split at h
    case h_2 => cases h
    rename_i z pl vs hz hpl hvs
    split at h
    case isFalse => cases h
    rename_i hl
    cases hf : lfill (fun i => pl[i]?) (ofV z).cells vs with
    | none => simp [hf] at h
    | some out =>
      simp only [hf, Option.map_some, Option.some.injEq, Prod.mk.injEq] at h
      obtain ⟨rfl, rfl⟩ := h
      obtain ⟨U, h1, h2⟩ := build_sound (P := P) hz hpl hl (lparts_sound hA hvs) hf
      refine ⟨U, w, E, .inl ?_, .refl _ _, hS, h2⟩
      have hp : (ps.map fun p => (p.1, A.eval p.2)) = (ps.toList.map fun p => (p.1, A.eval p.2)).toArray := Array.ext' (by rw [Array.toList_map])
      simp only [execOp, ho, Sem.run_bind]
      rw [hp, h1]; rfl
  · rename_i t len ps ho
    split at h
    case h_2 => cases h
    rename_i e s b zc vs hz hvs
    obtain ⟨z, he, hs, hb, hzz, hpos, hzl, hzf, rfl, hzs⟩ := telemZ_inv hz
    split at h
    case isFalse => cases h
    rename_i hlen
    rw [litRows_eq] at h
    cases hf : lfill (fun i => some (i * s, s)) (List.replicate len (ofV z).cells).flatten vs with
    | none => simp [hf] at h
    | some out =>
      simp only [hf, Option.map_some, Option.some.injEq, Prod.mk.injEq] at h
      obtain ⟨rfl, rfl⟩ := h
      obtain ⟨U, w', E', h1, h2, h3, h4⟩ := buildSlice_sound (P := P) he hs hzz hzl hzf hpos hlen hS (lparts_sound hA hvs) hf
      refine ⟨U, w', E', .inl ?_, h2, h3, h4⟩
      have hp : (ps.map fun p => (p.1, A.eval p.2)) = (ps.toList.map fun p => (p.1, A.eval p.2)).toArray := Array.ext' (by rw [Array.toList_map])
      simp only [execOp, ho, Sem.run_bind]
      rw [hp, h1]; rfl
  · rename_i t x ho
    split at h
    case h_2 => cases h
    rename_i u hu
    refine still' h fun r hr => ?_
    obtain ⟨U, h1, h2⟩ := lload_sound (P := P) hS (hA.ev hu) hr
    exact ⟨U, by simp [execOp, ho, Sem.run_bind, h1], h2⟩
  · rename_i t x y ho
    split at h
    case h_2 => cases h
    rename_i u r hu hr
    cases hst : lstore P t σ u r with
    | none => simp [hst] at h
    | some σ2 =>
      simp only [hst, Option.map_some, Option.some.injEq, Prod.mk.injEq] at h
      obtain ⟨rfl, rfl⟩ := h
      obtain ⟨w', E', h1, h2, h3⟩ := lstore_sound (P := P) hS (hA.ev hu) (hA.ev hr) hst
      exact ⟨undef, w', E', .inr ⟨by simp [execOp, ho, Sem.run_bind, h1], rfl⟩, h2, h3, .pv _ _ (.sc _)⟩
  · rename_i x ho
    split at h
    · rename_i id n i j hx
      split at h
      case h_2 => cases h
      rename_i y ha
      obtain ⟨sz, rows⟩ := y
      split at h
      case isFalse => cases h
      rename_i hn
      simp only [Option.some.injEq, Prod.mk.injEq] at h
      obtain ⟨rfl, rfl⟩ := h
      have hv := hA.ev hx
      obtain ⟨L, b, k1, k2, k3, k4, _⟩ := ptr_full hS hv ha hn
      exact ⟨_, w, E, .inl (by simp [execOp, ho, k3]; rfl), .refl _ _, hS, by rw [k3] at hv; exact hv⟩
    · rename_i sz rows i j hx
      simp only [Option.some.injEq, Prod.mk.injEq] at h
      obtain ⟨rfl, rfl⟩ := h
      have hv := hA.ev hx
      obtain ⟨a', k3, _⟩ := rp_move (k := 0) hv
      exact ⟨_, w, E, .inl (by simp [execOp, ho, k3]; rfl), .refl _ _, hS, by rw [k3] at hv; exact hv⟩
    · cases h
  · rename_i op t x y yt ho
    split at h
    case h_2 => cases h
    rename_i u r hu hr
    refine still' h fun q hq => ?_
    obtain ⟨U, h1, h2⟩ := lbinop_sound (P := P) (xo := x) (yo := y) (hA.ev hu) (hA.ev hr) hq
    refine ⟨U, ?_, h2⟩
    simp only [binO] at h1
    simp only [execOp, ho]
    rw [Sem.run_bind, h1]; rfl
  · rename_i op t x ho
    split at h
    case h_2 => cases h
    rename_i X hX
    have hc := (hA.ev hX).sc_inv
    cases hl : lun op X with
    | none => simp [hl] at h
    | some V =>
      simp only [hl, Option.map_some, Option.some.injEq, Prod.mk.injEq] at h
      obtain ⟨rfl, rfl⟩ := h
      exact ⟨V, w, E, .inl (by simp [execOp, ho, hc, Sem.run_bind, lun_sound hl w]), .refl _ _, hS, .pv _ _ (.sc _)⟩
  · rename_i src dst x ho
    split at h
    case h_2 => cases h
    rename_i u hu
    refine still' h fun q hq => ?_
    obtain ⟨U, h1, h2⟩ := lconv_sound (P := P) hS (hA.ev hu) hq
    exact ⟨U, by simp [execOp, ho, Sem.run_bind, h1], h2⟩
  · rename_i f first cap ho
    split at h
    case isFalse => cases h
    rename_i hfe
    cases hl : levs a cap.toList with
    | none => simp [hl] at h
    | some vs =>
      simp only [hl, Option.map_some, Option.some.injEq, Prod.mk.injEq] at h
      obtain ⟨rfl, rfl⟩ := h
      have hc := levs_sound hA hl
      have hf0 : first = #[] := by
        have : first.toList = [] := by simpa using hfe
        exact Array.ext' (by simpa using this)
      have hm : cap.map A.eval = (cap.toList.map A.eval).toArray := Array.ext' (by rw [Array.toList_map])
      refine ⟨.func f #[] (cap.toList.map A.eval).toArray, w, E, .inl ?_, .refl _ _, hS, .fn _ _ _ hc.1 hc.2⟩
      simp only [execOp, ho, Instr.makeFunc, hf0, Sem.run_bind, Sem.run_pure, Result.andThen_ok, hm]
      rw [show Array.map A.eval #[] = #[] from Array.ext' (by rw [Array.toList_map]; rfl)]
  · rename_i t l c ho
    split at h
    case h_2 => cases h
    rename_i e s b zc n m hz hn hm
    obtain ⟨z, he, hs, hb, hzz, hpos, hzl, hzf, rfl, hzs⟩ := telemZ_inv hz
    split at h
    case isFalse => cases h
    rename_i hc
    obtain ⟨rfl, h0, hmx, hby⟩ := hc
    simp only [Option.some.injEq, Prod.mk.injEq] at h
    obtain ⟨rfl, rfl⟩ := h
    obtain ⟨kl, hl⟩ := intOfV_inv hn
    obtain ⟨kc, hcc⟩ := intOfV_inv hm
    obtain ⟨U, w', E', h1, h2, h3, h4⟩ := make_sound (P := P) (kl := kl) (kc := kc) he hs hb hzz hzl hzf hS hmx hby
    have e1 := (hA.ev hl).sc_inv
    have e2 := (hA.ev hcc).sc_inv
    have e3 : ((n.toNat : Nat) : Int) = n := by omega
    rw [e3] at h1
    exact ⟨U, w', E', .inl (by simp [execOp, ho, e1, e2, Sem.run_bind, h1]), h2, h3, h4⟩
  · rename_i t x lo hi mx ho
    split at h
    case h_2 => cases h
    rename_i u lo' hi' mx' hu hlo hhi hmx
    refine still' h fun q hq => ?_
    obtain ⟨U, h1, h2⟩ := lslice_sound (P := P) hS (hA.ev hu) hq
    exact ⟨U, by simp [execOp, ho, Sem.run_bind, scV_sound hA hlo, scV_sound hA hhi, scV_sound hA hmx, h1], h2⟩
  · rename_i t x f ho
    split at h
    case h_2 => cases h
    rename_i u hu
    refine still' h fun q hq => ?_
    obtain ⟨U, h1, h2⟩ := lfieldAddr_sound (P := P) hS (hA.ev hu) hq
    exact ⟨U, by simp [execOp, ho, Sem.run_bind, h1], h2⟩
  · rename_i t x f ho
    split at h
    case h_2 => cases h
    rename_i u hu
    refine still' h fun q hq => ?_
    obtain ⟨U, h1, h2⟩ := lfield_sound (P := P) (hA.ev hu) hq
    exact ⟨U, by simp [execOp, ho, Sem.run_bind, h1], h2⟩
  · rename_i t x i ho
    split at h
    case h_2 => cases h
    rename_i u n hu hn
    refine still' h fun q hq => ?_
    obtain ⟨k, hk⟩ := intOfV_inv hn
    obtain ⟨U, h1, h2⟩ := lindexAddr_sound (P := P) (k := k) hS (hA.ev hu) hq
    have e1 := (hA.ev hk).sc_inv
    exact ⟨U, by simp [execOp, ho, Sem.run_bind, e1, h1], h2⟩
  · rename_i t x i ho
    split at h
    case h_2 => cases h
    rename_i u n hu hn
    refine still' h fun q hq => ?_
    obtain ⟨k, hk⟩ := intOfV_inv hn
    obtain ⟨U, h1, h2⟩ := lindex_sound (P := P) (k := k) (hA.ev hu) hq
    have e1 := (hA.ev hk).sc_inv
    exact ⟨U, by simp [execOp, ho, Sem.run_bind, e1, h1], h2⟩
  · rename_i x k ho
    split at h
    case h_2 => cases h
    rename_i l hl
    refine still' h fun q hq => ?_
    obtain ⟨U, h1, h2⟩ := extract_sound (P := P) (hA.ev hl) hq
    exact ⟨U, by simp [execOp, ho, Sem.run_bind, h1], h2⟩
  · rename_i b args argTypes ho
    split at h
    case h_2 => cases h
    rename_i vs hvs
    obtain ⟨U, w', E', h1, h2, h3, h4⟩ := lbuiltin_sound (ty := o.type) (cs := args.map fun | .const _ => true | _ => false) hS (levs_sound hA hvs) h
    refine ⟨U, w', E', .inl ?_, h2, h3, h4⟩
    have hm : args.map A.eval = (args.toList.map A.eval).toArray := Array.ext' (by rw [Array.toList_map])
    simp only [execOp, ho, resolve, Sem.run_bind, Sem.run_pure, Result.andThen_ok, invoke]
    rw [hm]
    have e2 : argTypes.toList.toArray = argTypes := by simp
    rw [e2] at h1
    exact h1
  · rename_i t ho
    simp only [Option.some.injEq, Prod.mk.injEq] at h
    obtain ⟨rfl, rfl⟩ := h
    obtain ⟨U, w', E', h1, h2, h3, h4⟩ := makeMap_sound (P := P) (t := t) hS
    exact ⟨U, w', E', .inl (by simp [execOp, ho, Sem.run_bind, h1]), h2, h3, h4⟩
  · rename_i t x i ok ho
    split at h
    case h_2 => cases h
    rename_i u v' hu hv
    refine still' h fun q hq => ?_
    obtain ⟨R, h1, h2⟩ := lmapLook_sound (P := P) hS (hA.ev hu) (hA.ev hv) hq
    exact ⟨R, by simp [execOp, ho, Sem.run_bind, h1], h2⟩
  · rename_i t x i y ho
    split at h
    case h_2 => cases h
    rename_i u v r hu hv hr
    cases hm : lmapPut P t σ r u v with
    | none => simp [hm] at h
    | some σ2 =>
      simp only [hm, Option.map_some, Option.some.injEq, Prod.mk.injEq] at h
      obtain ⟨rfl, rfl⟩ := h
      obtain ⟨w', E', h1, h2, h3⟩ := lmapPut_sound (P := P) hS (hA.ev hu) (hA.ev hv) (hA.ev hr) hm
      exact ⟨undef, w', E', .inr ⟨by simp [execOp, ho, Sem.run_bind, h1], rfl⟩, h2, h3, .pv _ _ (.sc _)⟩
  · rename_i t x i y ho
    split at h
    case h_2 => cases h
    rename_i u v r hu hv hr
    cases hm : lmapPut P t σ r u v with
    | none => simp [hm] at h
    | some σ2 =>
      simp only [hm, Option.map_some, Option.some.injEq, Prod.mk.injEq] at h
      obtain ⟨rfl, rfl⟩ := h
      obtain ⟨w', E', h1, h2, h3⟩ := lmapPut_sound (P := P) hS (hA.ev hu) (hA.ev hv) (hA.ev hr) hm
      exact ⟨undef, w', E', .inr ⟨by simp [execOp, ho, Sem.run_bind, h1], rfl⟩, h2, h3, .pv _ _ (.sc _)⟩
  · cases h
end Go.Lw

set_option linter.unusedVariables false
set_option linter.unusedSimpArgs false
namespace Go.Lw

def dstOk (o : Oper) (a : LAct) : Bool :=
  match o.dst with
  | none => true
  | some d => decide (d < a.n)
theorem dstOk_inv {o : Oper} {a : LAct} (h : dstOk o a = true) : ∀ k, o.dst = some k → k < a.n := by
  intro k hk
  simpa [dstOk, hk] using h

/-- One operation, carried out or passed by. -/
def lstep (P : Program) (ops : Array Oper) (o : Oper) (a : LAct) (σ : LSt) : Option (LAct × LSt) :=
  if dstOk o a = true then
    match wantedL ops o a with
    | some true => match lop P o a σ with
      | some (v, σ') => some (a.put o.dst v, σ')
      | none => none
    | some false => some (a.put o.dst vundef, σ)
    | none => none
  else none

def lrun (P : Program) (ops : Array Oper) : List Oper → LAct → LSt → Option (LAct × LSt)
  | [], a, σ => some (a, σ)
  | o :: r, a, σ => match lstep P ops o a σ with
    | some (a', σ') => lrun P ops r a' σ'
    | none => none

section
variable {P : Program} {ops : Array Oper} {Q : Exit → LAct → LSt → Prop} {a a' : LAct} {σ σ' : LSt}

theorem LOps.one {rest : List Oper} {o : Oper} (h : lstep P ops o a σ = some (a', σ')) (hr : LOps P ops Q rest a' σ') : LOps P ops Q (o :: rest) a σ := by
  unfold lstep at h
  split at h
  case isFalse => cases h
  rename_i hd
  split at h
  · rename_i hw
    split at h
    · rename_i v σ2 hl
      simp only [Option.some.injEq, Prod.mk.injEq] at h
      obtain ⟨rfl, rfl⟩ := h
      exact LOps.step hw (dstOk_inv hd) (lop_sound hl) hr
    · cases h
  · rename_i hw
    simp only [Option.some.injEq, Prod.mk.injEq] at h
    obtain ⟨rfl, rfl⟩ := h
    exact LOps.skip hw (dstOk_inv hd) hr
  · cases h

theorem LOps.run {rest : List Oper} : ∀ (l : List Oper) {a a' : LAct} {σ σ' : LSt}, lrun P ops l a σ = some (a', σ') → LOps P ops Q rest a' σ' → LOps P ops Q (l ++ rest) a σ
  | [], a, a', σ, σ', h, hr => by simp only [lrun, Option.some.injEq, Prod.mk.injEq] at h; obtain ⟨rfl, rfl⟩ := h; exact hr
  | o :: l, a, a', σ, σ', h, hr => by
    simp only [lrun] at h
    split at h
    · rename_i a2 σ2 h1
      exact LOps.one h1 (LOps.run l h hr)
    · cases h

/-- The first k operations. -/
theorem LOps.take (k : Nat) {l : List Oper} (h : lrun P ops (l.take k) a σ = some (a', σ')) (hr : LOps P ops Q (l.drop k) a' σ') : LOps P ops Q l a σ := by
  have := LOps.run (l.take k) h hr
  rwa [List.take_append_drop] at this

/-- A whole region without calls. -/
theorem LW.reg {id : Nat} (h : lrun P ops ops.toList a σ = some (a', σ')) (hr : Q .normal a' σ') : LW P (.region id ops false) Q a σ := by
  refine LW.region ?_
  have := LOps.run (rest := []) ops.toList h (LOps.nil hr)
  rwa [List.append_nil] at this
end

/-! ### Calls -/
def callable (P : Program) (g : FuncId) : Bool :=
  match P.funcs[g]? with
  | some fn => fn.name != "runtime.NumGoroutine" && fn.body.isSome
  | none => false

def lcallee (o : Oper) (a : LAct) : Option (FuncId × List LV) :=
  match o.op with
  | .call { callee := .value f, args, argTypes } => match a.ev f, levs a args.toList with
    | some (.fn (.func g) cap), some vs => some (g, vs ++ cap)
    | _, _ => none
  | _ => none

theorem lcallee_sound {P : Program} {o : Oper} {a : LAct} {g : FuncId} {args : List LV} (h : lcallee o a = some (g, args)) (hc : callable P g = true) {E : Env} {w : World} {A : Act} (hA : AR E w a A) :
    ∃ Vs, (execOp A.eval o).run P w = .ok (.enter g Vs.toArray) w ∧ ArgsR E w args Vs := by
  unfold lcallee at h
  split at h
  case h_2 => cases h
  rename_i f xs ts ho
  split at h
  case h_2 => cases h
  rename_i g' cap vs hf hvs
  simp only [Option.some.injEq, Prod.mk.injEq] at h
  obtain ⟨rfl, rfl⟩ := h
  have h1 := hA.ev hf
  have h2 := levs_sound hA hvs
  generalize hF : A.eval f = F at h1
  cases h1 with
  | fn _ _ Vc hl hr =>
    refine ⟨xs.toList.map A.eval ++ Vc, ?_, ?_⟩
    · unfold callable at hc
      split at hc
      case h_2 => cases hc
      rename_i fn hfn
      simp only [Bool.and_eq_true, bne_iff_ne] at hc
      obtain ⟨n1, n2⟩ := hc
      have n3 : fn.body.isNone = false := by
        cases hb : fn.body with
        | none => simp [hb] at n2
        | some b => rfl
      have hm : xs.map A.eval = (xs.toList.map A.eval).toArray := Array.ext' (by rw [Array.toList_map])
      simp only [execOp, ho, resolve, Sem.run_bind, hF, Deferred.ofValue, Sem.run_pure, Result.andThen_ok, invoke, callFunc, run_program, hfn]
      have e1 : (fn.name == "runtime.NumGoroutine") = false := by simpa using n1
      simp only [e1, n3, Bool.false_eq_true, if_false, Sem.run_pure, hm]
      simp
    · refine ⟨by simp [h2.1, hl], fun i i1 i2 => ?_⟩
      simp only [List.getElem_append]
      by_cases c : i < vs.length
      · have c2 : i < (xs.toList.map A.eval).length := by rw [← h2.1]; exact c
        rw [dif_pos c, dif_pos c2]
        exact h2.2 i c c2
      · have c2 : ¬ i < (xs.toList.map A.eval).length := by rw [← h2.1]; exact c
        rw [dif_neg c, dif_neg c2]
        have e : (xs.toList.map A.eval).length = vs.length := h2.1.symm
        simp only [e]
        exact hr _ _ _

/-- A call, entered or met by its contract. -/
theorem LOps.calls {P : Program} {ops : Array Oper} {Q : Exit → LAct → LSt → Prop} {rest : List Oper} {o : Oper} {a : LAct} {σ : LSt} {g : FuncId} {args : List LV} (hw : wantedL ops o a = some true) (hd : dstOk o a = true) (hg : lcallee o a = some (g, args)) (hc : callable P g = true)
    (h : LCalls P g args (fun v σ' => LOps P ops Q rest (a.put o.dst v) σ') σ) : LOps P ops Q (o :: rest) a σ :=
  LOps.call hw (dstOk_inv hd) (fun E w A _ hA => lcallee_sound hg hc hA) h

/-! ### What is handed back -/
def lresv (P : Program) (a : LAct) (σ : LSt) : List ResultVar → Option (List LV)
  | [] => some []
  | .tmp t :: r => match look t a.m, lresv P a σ r with
    | some v, some vs => some (v :: vs)
    | _, _ => none
  | .cell d t :: r => match look d a.m with
    | some p => match lload P t σ p, lresv P a σ r with
      | some v, some vs => some (v :: vs)
      | _, _ => none
    | none => none

def lres (P : Program) (fn : Func) (a : LAct) (σ : LSt) : Option LV :=
  match lresv P a σ fn.results.toList with
  | some [v] => some v
  | some vs => some (.tup vs)
  | none => none

theorem asAddr_load {P : Program} {t : TypeId} {V U : Value} {w : World} (h : (Instr.loadAt t V).run P w = .ok U w) : (do loadVar t (← asAddr V)).run P w = .ok U w := by
  simp only [Instr.loadAt, Instr.sureAddr, Sem.run_bind] at h
  cases V <;> simp_all [asAddr, Instr.sureAddr, stuck]
  rename_i a
  cases a <;> simp_all [asAddr, Instr.sureAddr, stuck]

def resOf (tmps : Array Value) : ResultVar → Sem Value
  | .tmp t => pure (tmps.getD t undef)
  | .cell d t => do loadVar t (← asAddr (tmps.getD d undef))
theorem results_eq (fn : Func) (tmps : Array Value) : results fn tmps = (do
  let vs ← fn.results.mapM (resOf tmps)
  pure (if h : vs.size = 1 then vs[0] else .tuple vs)) := rfl

theorem lresv_sound {P : Program} {E : Env} {w : World} {a : LAct} {σ : LSt} {A : Act} (hS : Sim E w σ) (hA : AR E w a A) : ∀ (rs : List ResultVar) (vs : List LV), lresv P a σ rs = some vs →
    ∃ Vs : List Value, (rs.mapM (resOf A.tmps)).run P w = .ok Vs w ∧ ArgsR E w vs Vs
  | [], vs, h => by simp only [lresv, Option.some.injEq] at h; subst h; exact ⟨[], by simp, rfl, by simp⟩
  | .tmp t :: r, vs, h => by
    simp only [lresv] at h
    split at h
    · rename_i v vs' h1 h2
      simp only [Option.some.injEq] at h; subst h
      obtain ⟨Vs, k1, k2⟩ := lresv_sound hS hA r vs' h2
      refine ⟨A.tmps.getD t undef :: Vs, ?_, by simp [k2.1], fun i i1 i2 => ?_⟩
      · simp only [List.mapM_cons, resOf, Sem.run_bind, Sem.run_pure, Result.andThen_ok, k1]
      · cases i with
        | zero => exact hA.2 t v h1
        | succ i => exact k2.2 i (by simpa using i1) (by simpa using i2)
    · cases h
  | .cell d t :: r, vs, h => by
    simp only [lresv] at h
    split at h
    case h_2 => cases h
    rename_i p hp
    split at h
    · rename_i v vs' h1 h2
      simp only [Option.some.injEq] at h; subst h
      obtain ⟨Vs, k1, k2⟩ := lresv_sound hS hA r vs' h2
      obtain ⟨U, u1, u2⟩ := lload_sound (P := P) hS (hA.2 d p hp) h1
      refine ⟨U :: Vs, ?_, by simp [k2.1], fun i i1 i2 => ?_⟩
      · have := asAddr_load u1
        simp only [List.mapM_cons, resOf, Sem.run_bind] at this ⊢
        rw [this]
        simp only [Result.andThen_ok, k1, Sem.run_pure]
      · cases i with
        | zero => exact u2
        | succ i => exact k2.2 i (by simpa using i1) (by simpa using i2)
    · cases h

theorem lres_sound {P : Program} {fn : Func} {a : LAct} {σ : LSt} {v : LV} (h : lres P fn a σ = some v) : resL P fn a σ v := by
  intro E w A hS hA
  have hmap : ∀ Vs : List Value, (fn.results.toList.mapM (resOf A.tmps)).run P w = .ok Vs w → (results fn A.tmps).run P w = .ok (if h : Vs.toArray.size = 1 then Vs.toArray[0] else .tuple Vs.toArray) w := by
    intro Vs hr
    rw [results_eq, Array.mapM_eq_mapM_toList, ← bind_pure_comp]
    simp only [Sem.run_bind, hr, Result.andThen_ok, Sem.run_pure]
  unfold lres at h
  split at h
  · rename_i u hu
    simp only [Option.some.injEq] at h; subst h
    obtain ⟨Vs, k1, k2⟩ := lresv_sound hS hA _ _ hu
    obtain ⟨X, rfl, hx⟩ := k2.one
    exact ⟨X, hmap _ k1, hx⟩
  · rename_i vs hn hu
    simp only [Option.some.injEq] at h; subst h
    obtain ⟨Vs, k1, k2⟩ := lresv_sound hS hA _ _ hu
    refine ⟨.tuple Vs.toArray, ?_, .tup _ _ k2.1 k2.2⟩
    rw [hmap _ k1, dif_neg]
    intro e
    have : vs.length = 1 := by rw [k2.1]; simpa using e
    match vs, this with
    | [v], _ => exact hn v rfl
  · cases h

/-- A function's body, walked from its entry. -/
theorem LCalls.enter {P : Program} {f : FuncId} {fn : Func} {c : Code} {args : List LV} {Q : LV → LSt → Prop} {σ : LSt} (hf : P.funcs[f]? = some fn) (hb : fn.body = some c) (hn : args.length ≤ fn.ntmps)
    (h : LW P c (fun x a σ => (x = .normal ∨ x = .ret) ∧ ∃ v, lres P fn a σ = some v ∧ Q v σ) ⟨fn.ntmps, enterA 0 args⟩ σ) : LCalls P f args Q σ :=
  LCalls.body hf hb hn (h.mono fun x a σ ⟨hx, v, hv, hq⟩ => ⟨hx, v, lres_sound hv, hq⟩)

/-- Arguments told in another way that says no more. -/
theorem LCalls.args {P : Program} {f : FuncId} {args args' : List LV} {Q : LV → LSt → Prop} {σ : LSt} (hw : args.length = args'.length ∧ ∀ i (h1 : i < args.length) (h2 : i < args'.length), ∀ E w V, VRel E w args[i] V → VRel E w args'[i] V) (h : LCalls P f args' Q σ) : LCalls P f args Q σ :=
  fun E w Vs h1 h2 => h E w Vs h1 ⟨hw.1.symm.trans h2.1, fun i i1 i2 => hw.2 i (by omega) i1 E w _ (h2.2 i (by omega) i2)⟩
end Go.Lw

set_option linter.unusedVariables false
set_option linter.unusedSimpArgs false
namespace Go.Lw

/-- A thing still to be done: code; the end of a block; the end of a loop's round. -/
inductive KI where
  | code (c : Code)
  | blk (id : Nat)
  | fin (J : LAct → LSt → Prop)

/-- What is owed at a way out, with things still to be done. -/
def post (P : Program) : List KI → (Exit → LAct → LSt → Prop) → Exit → LAct → LSt → Prop
  | [], Q => Q
  | .code c :: k, Q => thenQ (fun a σ => LW P c (post P k Q) a σ) (post P k Q)
  | .blk id :: k, Q => fun e a σ => match e with
    | .exit j => if j = id then post P k Q .normal a σ else post P k Q (.exit j) a σ
    | e => post P k Q e a σ
  | .fin J :: k, Q => thenQ J (post P k Q)

def LK (P : Program) (k : List KI) (Q : Exit → LAct → LSt → Prop) (a : LAct) (σ : LSt) : Prop := post P k Q .normal a σ

section
variable {P : Program} {Q : Exit → LAct → LSt → Prop} {a a' : LAct} {σ σ' : LSt} {k : List KI}

theorem LK.start {c : Code} (h : LK P [.code c] Q a σ) : LW P c Q a σ := h
theorem LK.done (h : Q .normal a σ) : LK P [] Q a σ := h
theorem LK.lw {c : Code} (h : LW P c (post P k Q) a σ) : LK P (.code c :: k) Q a σ := h
theorem LK.seq {x y : Code} (h : LK P (.code x :: .code y :: k) Q a σ) : LK P (.code (.seq x y) :: k) Q a σ := LK.lw (LW.seq h)
theorem LK.skip (h : LK P k Q a σ) : LK P (.code .skip :: k) Q a σ := LK.lw (LW.skip h)
theorem LK.label {l : Nat} (h : LK P k Q a σ) : LK P (.code (.label l) :: k) Q a σ := LK.lw (LW.label h)
theorem LK.block {id : Nat} {c : Code} (h : LK P (.code c :: .blk id :: k) Q a σ) : LK P (.code (.block id c) :: k) Q a σ := by
  refine LK.lw (LW.block ?_)
  have h' : LW P c (post P (.blk id :: k) Q) a σ := h
  refine h'.mono fun e a σ q => ?_
  cases e <;> exact q
theorem LK.blk {id : Nat} (h : LK P k Q a σ) : LK P (.blk id :: k) Q a σ := h
theorem LK.fin {J : LAct → LSt → Prop} (h : J a σ) : LK P (.fin J :: k) Q a σ := h
theorem LK.ret (h : post P k Q .ret a σ) : LK P (.code .ret :: k) Q a σ := LK.lw (LW.ret h)
theorem LK.exit {id : Nat} (h : post P k Q (.exit id) a σ) : LK P (.code (.exit id) :: k) Q a σ := LK.lw (LW.exit h)
theorem post_ret_code {c : Code} (h : post P k Q .ret a σ) : post P (.code c :: k) Q .ret a σ := h
theorem post_ret_blk {id : Nat} (h : post P k Q .ret a σ) : post P (.blk id :: k) Q .ret a σ := h
theorem post_ret_fin {J : LAct → LSt → Prop} (h : post P k Q .ret a σ) : post P (.fin J :: k) Q .ret a σ := h
theorem post_exit_code {c : Code} {id : Nat} (h : post P k Q (.exit id) a σ) : post P (.code c :: k) Q (.exit id) a σ := h
theorem post_exit_blk {id : Nat} (h : LK P k Q a σ) : post P (.blk id :: k) Q (.exit id) a σ := by
  show (if id = id then _ else _)
  rw [if_pos rfl]; exact h
theorem post_exit_other {id j : Nat} (hne : j ≠ id) (h : post P k Q (.exit j) a σ) : post P (.blk id :: k) Q (.exit j) a σ := by
  show (if j = id then _ else _)
  rw [if_neg hne]; exact h
theorem post_exit_fin {J : LAct → LSt → Prop} {id : Nat} (h : post P k Q (.exit id) a σ) : post P (.fin J :: k) Q (.exit id) a σ := h
theorem LK.cond {t : Nat} {x y : Code} {b : Bool} (hc : look t a.m = some (.pv (.sc (.bool b)))) (ht : b = true → LK P (.code x :: k) Q a σ) (hf : b = false → LK P (.code y :: k) Q a σ) : LK P (.code (.cond (.tmp t) x y) :: k) Q a σ :=
  LK.lw (LW.condt hc ht hf)
theorem LK.condT {t : Nat} {x y : Code} (hc : look t a.m = some (.pv (.sc (.bool true)))) (ht : LK P (.code x :: k) Q a σ) : LK P (.code (.cond (.tmp t) x y) :: k) Q a σ :=
  LK.cond hc (fun _ => ht) (fun h => by cases h)
theorem LK.condF {t : Nat} {x y : Code} (hc : look t a.m = some (.pv (.sc (.bool false)))) (ht : LK P (.code y :: k) Q a σ) : LK P (.code (.cond (.tmp t) x y) :: k) Q a σ :=
  LK.cond hc (fun h => by cases h) (fun _ => ht)
theorem LK.condC {b : Bool} {x y : Code} (ht : LK P (.code (if b then x else y) :: k) Q a σ) : LK P (.code (.cond (.const (.bool b)) x y) :: k) Q a σ := by
  refine LK.lw (LW.cond (b := b) (fun E w A h => rfl) (fun h => ?_) (fun h => ?_)) <;> subst h <;> exact ht
/-- A region without calls; temporaries that 'keep' does not name are forgotten first. -/
def LAct.prune (a : LAct) (keep : Nat → Bool) : LAct := ⟨a.n, a.m.filter fun p => keep p.1⟩
theorem look_filter {α : Type} (keep : Nat → Bool) (t : Nat) : ∀ l : List (Nat × α), look t (l.filter fun p => keep p.1) = if keep t then look t l else none
  | [] => by simp [look]
  | (i, v) :: r => by
    by_cases hk : keep i = true
    · simp only [List.filter_cons, hk, if_true, look]
      by_cases e : i = t
      · subst e; simp [hk]
      · rw [if_neg e, if_neg e, look_filter keep t r]
    · have hk' : keep i = false := by simpa using hk
      simp only [List.filter_cons, hk', Bool.false_eq_true, if_false, look]
      by_cases e : i = t
      · subst e
        rw [look_filter keep i r]
        simp [hk']
      · rw [if_neg e]
        exact look_filter keep t r
theorem AR.prune {E : Env} {w : World} {A : Act} (h : AR E w a A) (keep : Nat → Bool) : AR E w (a.prune keep) A := by
  refine ⟨h.1, fun t v hv => h.2 t v ?_⟩
  simp only [LAct.prune, look_filter] at hv
  split at hv
  · exact hv
  · cases hv
theorem LW.prune {c : Code} (keep : Nat → Bool) (h : LW P c Q (a.prune keep) σ) : LW P c Q a σ := fun r E w A h0 h1 h2 h3 => h r E w A h0 h1 (h2.prune keep) h3
theorem LK.prune {c : Code} (keep : Nat → Bool) (h : LK P (.code c :: k) Q (a.prune keep) σ) : LK P (.code c :: k) Q a σ := LK.lw (LW.prune keep h)

theorem LK.reg {id : Nat} {ops : Array Oper} (h : lrun P ops ops.toList a σ = some (a', σ')) (hr : LK P k Q a' σ') : LK P (.code (.region id ops false) :: k) Q a σ := LK.lw (LW.reg h hr)
theorem LK.regc {id : Nat} {ops : Array Oper} (h : LOps P ops (post P k Q) ops.toList a σ) : LK P (.code (.region id ops false) :: k) Q a σ := LK.lw (LW.region h)
theorem LOps.done {ops : Array Oper} (h : LK P k Q a σ) : LOps P ops (post P k Q) [] a σ := LOps.nil h
theorem LK.loop {α : Type} {c : Code} (m : α → Nat) (ok : α → Prop) (A : α → LAct) (S : α → List (Nat × LO)) (s₀ : α) (h₀ : ok s₀) (hs : Sub a σ (A s₀) ⟨σ.nx, S s₀⟩)
    (round : ∀ s, ok s → ∀ J : LAct → LSt → Prop, (∀ a' σ', (∃ s', ok s' ∧ m s' < m s ∧ Sub a' σ' (A s') ⟨σ.nx, S s'⟩) → J a' σ') → LK P (.code c :: .fin J :: k) Q (A s) ⟨σ.nx, S s⟩) : LK P (.code (.loop c) :: k) Q a σ :=
  LK.lw (LW.loop m ok A S s₀ h₀ hs fun s hok J hJ => round s hok J hJ)
end

/-- Calls by contract: the call leaves what we have alone. -/
theorem LOps.pure {P : Program} {ops : Array Oper} {Q : Exit → LAct → LSt → Prop} {rest : List Oper} {o : Oper} {a : LAct} {σ : LSt} {g : FuncId} {args : List LV} {v : LV} (hw : wantedL ops o a = some true) (hd : dstOk o a = true) (hg : lcallee o a = some (g, args)) (hc : callable P g = true)
    (ha : args.all (·.under 0) = true) (hv : v.under 0 = true) (h : LCalls P g args (fun u _ => u = v) ⟨0, []⟩) (hr : LOps P ops Q rest (a.put o.dst v) σ) : LOps P ops Q (o :: rest) a σ := by
  refine LOps.calls hw hd hg hc ((LCalls.frame (Q := fun u => u = v) (h.mono fun u σ' e => ⟨by subst e; exact hv, e⟩) ha σ).mono ?_)
  rintro u σ' ⟨rfl, rfl⟩
  exact hr

/-- A function that, given these, hands back that, and leaves all else alone. -/
def Fun (P : Program) (f : FuncId) (args : List LV) (v : LV) : Prop := LCalls P f args (fun u _ => u = v) ⟨0, []⟩

attribute [go_sem] litRows lmapLook lmapPut lmapDel lmapLen lrun lstep dstOk wantedL LAct.yield wantIs lop LAct.ev look upd LAct.put ofV enterA lbinop lbin lun lminmax lload lstore lfieldAddr lfield lindexAddr lindex lconv lappend lslice levs lparts lbuiltin LSt.arr LSt.get LSt.put LV.cells LV.leaf Value.oneCell' partL partP splice srcRows nilTest scOf intOfV scV telemZ lfill rowsOf loB hiB unB scEq fieldsEq vundef lcallee lresv lres LV.under LV.unders
end Go.Lw

set_option linter.unusedVariables false
set_option linter.unusedSimpArgs false
namespace Go.Lw

/-- Only the objects that 'keep' names are seen; the others' blocks are strange; the numbers below n count as used. -/
def Env.focus (E : Env) (keep : Nat → Bool) (n : Nat) : Env :=
  ⟨fun id => if keep id = true then E.f id else none, fun id => id < n, fun b => E.F b ∨ ∃ id L, keep id = false ∧ E.f id = some L ∧ L.blk = some b⟩

theorem focus_own {E : Env} {keep : Nat → Bool} {n b : Nat} (h : (E.focus keep n).Own b) : E.Own b := by
  obtain ⟨id, L, h1, h2⟩ := h
  simp only [Env.focus] at h1
  split at h1
  · exact ⟨id, L, h1, h2⟩
  · cases h1

theorem focus_prot {E : Env} {w : World} {keep : Nat → Bool} {n b : Nat} (h : Prot E w b) : Prot (E.focus keep n) w b ∧ w.heap[b]? = w.heap[b]? :=
  ⟨⟨h.1, fun k => h.2.1 (focus_own k), fun k => k.elim h.2.2 fun ⟨id, L, _, h1, h2⟩ => h.2.1 ⟨id, L, h1, h2⟩⟩, rfl⟩

/-- As 'move', where objects may have gone out of sight. -/
theorem VRel.blur {E E' : Env} {w w' : World} {n : Nat} (hf : ∀ id L, id < n → E'.f id = some L → E.f id = some L) (hU : ∀ id, id < n → E'.U id) (hp : ∀ b, Prot E w b → Prot E' w' b ∧ w'.heap[b]? = w.heap[b]?) {v : LV} {V : Value} (h : VRel E w v V) (hb : v.under n = true) : VRel E' w' v V := by
  induction h with
  | pv p V h => exact .pv p V (h.mono hp)
  | own id m off len V h1 h2 h =>
    have hi : id < n := by simpa [LV.under] using hb
    exact .own id m off len V (hU id hi) h2 fun L hL => h L (hf id L hi hL)
  | ptr id m i j V h1 h2 h =>
    have hi : id < n := by simpa [LV.under] using hb
    exact .ptr id m i j V (hU id hi) h2 fun L hL => h L (hf id L hi hL)
  | rp sz rows i j a g hs ht hc hv =>
    refine .rp sz rows i j a g hs ⟨ht.1, (hp _ ht.2).1⟩ (fun j hj => ?_) (fun j hj => (hv j hj).mono hp)
    rw [cell_of_heap (w := w) (by rw [addr_add_block]; exact (hp _ ht.2).2)]
    exact hc j hj
  | agg l Vs hl h ih =>
    rw [under_agg, List.all_eq_true] at hb
    exact .agg l Vs hl fun i h1 h2 => ih i h1 h2 (hb _ (List.getElem_mem h1))
  | tup l Vs hl h ih =>
    rw [under_tup, List.all_eq_true] at hb
    exact .tup l Vs hl fun i h1 h2 => ih i h1 h2 (hb _ (List.getElem_mem h1))
  | fn f l Vs hl h ih =>
    rw [under_fn, List.all_eq_true] at hb
    exact .fn f l Vs hl fun i h1 h2 => ih i h1 h2 (hb _ (List.getElem_mem h1))
  | mp id V h1 h2 h =>
    have hi : id < n := by simpa [LV.under] using hb
    exact .mp id V (hU id hi) h2 fun L hL => h L (hf id L hi hL)

/-- All numbers that stand in it are used: as 'move', without a bound. -/
theorem VRel.moveU {E E' : Env} {w w' : World} (hf : ∀ id, E.U id → E'.f id = E.f id) (hU : ∀ id, E.U id → E'.U id) (hp : ∀ b, Prot E w b → Prot E' w' b ∧ w'.heap[b]? = w.heap[b]?) {v : LV} {V : Value} (h : VRel E w v V) : VRel E' w' v V := by
  induction h with
  | pv p V h => exact .pv p V (h.mono hp)
  | own id m off len V h1 h2 h => exact .own id m off len V (hU id h1) h2 (by rw [hf id h1]; exact h)
  | ptr id m i j V h1 h2 h => exact .ptr id m i j V (hU id h1) h2 (by rw [hf id h1]; exact h)
  | rp sz rows i j a g hs ht hc hv =>
    refine .rp sz rows i j a g hs ⟨ht.1, (hp _ ht.2).1⟩ (fun j hj => ?_) (fun j hj => (hv j hj).mono hp)
    rw [cell_of_heap (w := w) (by rw [addr_add_block]; exact (hp _ ht.2).2)]
    exact hc j hj
  | agg l Vs hl h ih => exact .agg l Vs hl fun i h1 h2 => ih i h1 h2
  | tup l Vs hl h ih => exact .tup l Vs hl fun i h1 h2 => ih i h1 h2
  | fn f l Vs hl h ih => exact .fn f l Vs hl fun i h1 h2 => ih i h1 h2
  | mp id V h1 h2 h => exact .mp id V (hU id h1) h2 (by rw [hf id h1]; exact h)

theorem ORel.imp {E E' : Env} {w w' : World} {L : Loc} {o : LO} (hv : ∀ v V, VRel E w v V → VRel E' w' v V) (hp : ∀ b, Prot E w b → Prot E' w' b ∧ w'.heap[b]? = w.heap[b]?) (hb : ∀ b, L.blk = some b → w'.heap[b]? = w.heap[b]?) (h : ORel E w L o) : ORel E' w' L o := by
  cases o with
  | arr sz rows =>
    obtain ⟨h1, h2, h3, h4⟩ := h
    refine ⟨h1, h2, h3, ?_⟩
    rcases h4 with h4 | ⟨b, C, g1, g2, g3, g4, g5, g6⟩
    · exact .inl h4
    · refine .inr ⟨b, C, g1, (hb b g1).trans g2, g3, g4, g5, fun j hj => ?_⟩
      obtain ⟨V, k1, k2, k3⟩ := g6 j hj
      exact ⟨V, k1, k2, hv _ _ k3⟩
  | map es =>
    obtain ⟨h1, b, kvs, clock, g1, g2, g3, g4, g5, g6⟩ := h
    refine ⟨h1, b, kvs, clock, g1, (hb b g1).trans g2, g3, fun j hj => ?_, g5, g6⟩
    obtain ⟨e, k1, k2, k3, k4⟩ := g4 j hj
    exact ⟨e, k1, k2, k3, hv _ _ k4⟩
  | loop l st pend n m ps as bd =>
    obtain ⟨h1, h2, r, g1, g2, g3, g4, g5, g6, g7, g8⟩ := h
    exact ⟨h1, h2, r, (hb l h2).trans g1, g2, g3, g4, g5, g6, g7, fun t v hm => hv _ _ (g8 t v hm)⟩
  | iter es seen => exact ⟨h.1, h.2.1, h.2.2.imp hp hb⟩

theorem ORel.blur {E E' : Env} {w w' : World} {n : Nat} (hf : ∀ id L, id < n → E'.f id = some L → E.f id = some L) (hU : ∀ id, id < n → E'.U id) (hp : ∀ b, Prot E w b → Prot E' w' b ∧ w'.heap[b]? = w.heap[b]?) {L : Loc} {o : LO} (hb : ∀ b, L.blk = some b → w'.heap[b]? = w.heap[b]?) (h : ORel E w L o) (ho : o.under n = true) : ORel E' w' L o := by
  cases o with
  | arr sz rows =>
    obtain ⟨h1, h2, h3, h4⟩ := h
    refine ⟨h1, h2, h3, ?_⟩
    rcases h4 with h4 | ⟨b, C, g1, g2, g3, g4, g5, g6⟩
    · exact .inl h4
    · refine .inr ⟨b, C, g1, (hb b g1).trans g2, g3, g4, g5, fun j hj => ?_⟩
      obtain ⟨V, k1, k2, k3⟩ := g6 j hj
      refine ⟨V, k1, k2, k3.blur hf hU hp ?_⟩
      simp only [LO.under, List.all_eq_true] at ho
      obtain ⟨r, hr, hm⟩ := List.mem_flatten.1 (List.getElem_mem hj)
      exact ho r hr _ hm
  | map es =>
    obtain ⟨h1, b, kvs, clock, g1, g2, g3, g4, g5, g6⟩ := h
    refine ⟨h1, b, kvs, clock, g1, (hb b g1).trans g2, g3, fun j hj => ?_, g5, g6⟩
    obtain ⟨e, k1, k2, k3, k4⟩ := g4 j hj
    refine ⟨e, k1, k2, k3, k4.blur hf hU hp ?_⟩
    simp only [LO.under, List.all_eq_true] at ho
    exact ho _ (List.getElem_mem hj)
  | loop l st pend k m ps as bd =>
    obtain ⟨h1, h2, r, g1, g2, g3, g4, g5, g6, g7, g8⟩ := h
    simp only [LO.under, List.all_eq_true] at ho
    exact ⟨h1, h2, r, (hb l h2).trans g1, g2, g3, g4, g5, g6, g7, fun t v hm => (g8 t v hm).blur hf hU hp (ho _ (look_mem0 t v m hm))⟩
  | iter es seen => exact ⟨h.1, h.2.1, h.2.2.imp hp hb⟩

/-- The store seen in part. -/
theorem Sim.focus {E : Env} {w : World} {σ : LSt} (hS : Sim E w σ) {keep : Nat → Bool} {n : Nat} {m : List (Nat × LO)} (hm : ∀ id o, look id m = some o → keep id = true ∧ σ.get id = some o ∧ o.under n = true) (hk : ∀ id, keep id = true → id < n) : Sim (E.focus keep n) w ⟨n, m⟩ := by
  have hf : ∀ id L, (E.focus keep n).f id = some L → keep id = true ∧ E.f id = some L := by
    intro id L h
    simp only [Env.focus] at h
    split at h
    · exact ⟨‹_›, h⟩
    · cases h
  refine ⟨fun id L h => hk id (hf id L h).1, fun i i' L L' b h h' => hS.sep i i' L L' b (hf _ _ h).2 (hf _ _ h').2, fun id L b h e => ?_, ?_, fun id h => h, fun id o h => ?_⟩
  · obtain ⟨k1, k2⟩ := hS.low id L b (hf _ _ h).2 e
    refine ⟨k1, fun hF => hF.elim k2 ?_⟩
    rintro ⟨id', L', g1, g2, g3⟩
    have := hS.sep id id' L L' b (hf _ _ h).2 g2 e g3
    subst this
    rw [(hf _ _ h).1] at g1; cases g1
  · rintro b (hF | ⟨id, L, _, g2, g3⟩)
    · exact hS.flow b hF
    · exact (hS.low id L b g2 g3).1
  · obtain ⟨h1, h2, h3⟩ := hm id o h
    obtain ⟨L, g1, g2⟩ := hS.obj id o h2
    refine ⟨L, by simp [Env.focus, h1, g1], g2.blur (n := n) (fun k L' _ hL' => (hf k L' hL').2) (fun k hk => hk) (fun b hb => focus_prot hb) (fun _ _ => rfl) h3⟩

mutual
/-- All numbers that stand in it are of a kind. -/
def LV.idp (p : Nat → Bool) : LV → Bool
  | .pv _ => true
  | .own id _ _ _ => p id
  | .ptr id _ _ _ => p id
  | .rp _ _ _ _ => true
  | .agg l => LV.idps p l
  | .tup l => LV.idps p l
  | .fn _ l => LV.idps p l
  | .mp id => p id
def LV.idps (p : Nat → Bool) : List LV → Bool
  | [] => true
  | x :: r => x.idp p && LV.idps p r
end
theorem idps_all (p : Nat → Bool) : ∀ l : List LV, LV.idps p l = l.all (·.idp p)
  | [] => rfl
  | x :: r => by simp [LV.idps, idps_all p r]
theorem idp_agg (p : Nat → Bool) (l : List LV) : (LV.agg l).idp p = l.all (·.idp p) := by rw [LV.idp, idps_all]
theorem idp_tup (p : Nat → Bool) (l : List LV) : (LV.tup l).idp p = l.all (·.idp p) := by rw [LV.idp, idps_all]
theorem idp_fn (p : Nat → Bool) (f : Fn) (l : List LV) : (LV.fn f l).idp p = l.all (·.idp p) := by rw [LV.idp, idps_all]
def LO.idp (p : Nat → Bool) : LO → Bool
  | .arr _ rows => rows.all fun r => r.all (·.idp p)
  | .map es => es.all fun e => e.2.idp p
  | .loop _ _ _ _ m _ _ _ => m.all fun e => e.2.idp p
  | .iter _ _ => true

theorem VRel.moveP {E E' : Env} {w w' : World} {p : Nat → Bool} (hf : ∀ id, p id = true → E.U id → E'.f id = E.f id) (hU : ∀ id, p id = true → E.U id → E'.U id) (hp : ∀ b, Prot E w b → Prot E' w' b ∧ w'.heap[b]? = w.heap[b]?) {v : LV} {V : Value} (h : VRel E w v V) (hb : v.idp p = true) : VRel E' w' v V := by
  induction h with
  | pv p V h => exact .pv p V (h.mono hp)
  | own id m off len V h1 h2 h =>
    have hi : p id = true := by simpa [LV.idp] using hb
    exact .own id m off len V (hU id hi h1) h2 (by rw [hf id hi h1]; exact h)
  | ptr id m i j V h1 h2 h =>
    have hi : p id = true := by simpa [LV.idp] using hb
    exact .ptr id m i j V (hU id hi h1) h2 (by rw [hf id hi h1]; exact h)
  | rp sz rows i j a g hs ht hc hv =>
    refine .rp sz rows i j a g hs ⟨ht.1, (hp _ ht.2).1⟩ (fun j hj => ?_) (fun j hj => (hv j hj).mono hp)
    rw [cell_of_heap (w := w) (by rw [addr_add_block]; exact (hp _ ht.2).2)]
    exact hc j hj
  | agg l Vs hl h ih =>
    rw [idp_agg, List.all_eq_true] at hb
    exact .agg l Vs hl fun i h1 h2 => ih i h1 h2 (hb _ (List.getElem_mem h1))
  | tup l Vs hl h ih =>
    rw [idp_tup, List.all_eq_true] at hb
    exact .tup l Vs hl fun i h1 h2 => ih i h1 h2 (hb _ (List.getElem_mem h1))
  | fn f l Vs hl h ih =>
    rw [idp_fn, List.all_eq_true] at hb
    exact .fn f l Vs hl fun i h1 h2 => ih i h1 h2 (hb _ (List.getElem_mem h1))
  | mp id V h1 h2 h =>
    have hi : p id = true := by simpa [LV.idp] using hb
    exact .mp id V (hU id hi h1) h2 (by rw [hf id hi h1]; exact h)

theorem ORel.moveP {E E' : Env} {w w' : World} {p : Nat → Bool} (hf : ∀ id, p id = true → E.U id → E'.f id = E.f id) (hU : ∀ id, p id = true → E.U id → E'.U id) (hp : ∀ b, Prot E w b → Prot E' w' b ∧ w'.heap[b]? = w.heap[b]?) {L : Loc} {o : LO} (hb : ∀ b, L.blk = some b → w'.heap[b]? = w.heap[b]?) (h : ORel E w L o) (ho : o.idp p = true) : ORel E' w' L o := by
  cases o with
  | arr sz rows =>
    obtain ⟨h1, h2, h3, h4⟩ := h
    refine ⟨h1, h2, h3, ?_⟩
    rcases h4 with h4 | ⟨b, C, g1, g2, g3, g4, g5, g6⟩
    · exact .inl h4
    · refine .inr ⟨b, C, g1, (hb b g1).trans g2, g3, g4, g5, fun j hj => ?_⟩
      obtain ⟨V, k1, k2, k3⟩ := g6 j hj
      refine ⟨V, k1, k2, k3.moveP hf hU hp ?_⟩
      simp only [LO.idp, List.all_eq_true] at ho
      obtain ⟨r, hr, hm⟩ := List.mem_flatten.1 (List.getElem_mem hj)
      exact ho r hr _ hm
  | map es =>
    obtain ⟨h1, b, kvs, clock, g1, g2, g3, g4, g5, g6⟩ := h
    refine ⟨h1, b, kvs, clock, g1, (hb b g1).trans g2, g3, fun j hj => ?_, g5, g6⟩
    obtain ⟨e, k1, k2, k3, k4⟩ := g4 j hj
    refine ⟨e, k1, k2, k3, k4.moveP hf hU hp ?_⟩
    simp only [LO.idp, List.all_eq_true] at ho
    exact ho _ (List.getElem_mem hj)
  | loop l st pend k m ps as bd =>
    obtain ⟨h1, h2, r, g1, g2, g3, g4, g5, g6, g7, g8⟩ := h
    simp only [LO.idp, List.all_eq_true] at ho
    exact ⟨h1, h2, r, (hb l h2).trans g1, g2, g3, g4, g5, g6, g7, fun t v hm => (g8 t v hm).moveP hf hU hp (ho _ (look_mem0 t v m hm))⟩
  | iter es seen => exact ⟨h.1, h.2.1, h.2.2.imp hp hb⟩

/-- Back to the whole store. -/
def Env.unfocus (E : Env) (keep : Nat → Bool) (n : Nat) (E' : Env) : Env :=
  ⟨fun id => if keep id = true ∨ (n ≤ id ∧ (E.f id).isNone = true) then E'.f id else E.f id, fun id => E.U id ∨ (n ≤ id ∧ E'.U id), E.F⟩

def vis (keep : Nat → Bool) (n : Nat) (id : Nat) : Bool := keep id || decide (n ≤ id)

theorem unfocus_ok {E : Env} {w : World} {σ : LSt} (hS : Sim E w σ) {keep : Nat → Bool} {n : Nat} {E1 : Env} {w' : World} {σ1 : LSt} (hX : Ext (E.focus keep n) w E1 w') (hS1 : Sim E1 w' σ1) (hk : ∀ id, keep id = true → id < n ∧ E.U id) (hnew : ∀ id, E1.U id → n ≤ id → ¬ E.U id) {σ' : LSt}
    (hσ : ∀ id o, σ'.get id = some o → (σ1.get id = some o ∧ vis keep n id = true ∧ o.idp (vis keep n) = true) ∨ (σ.get id = some o ∧ keep id = false))
    (hnx : ∀ id, E.U id ∨ (n ≤ id ∧ E1.U id) → id < σ'.nx) :
    Ext E w (E.unfocus keep n E1) w' ∧ Sim (E.unfocus keep n E1) w' σ' ∧ (∀ v V, v.idp (vis keep n) = true → VRel E1 w' v V → VRel (E.unfocus keep n E1) w' v V) ∧ ∀ id, (E.unfocus keep n E1).U id ↔ E.U id ∨ (n ≤ id ∧ E1.U id) := by
  have hFe : E1.F = fun b => E.F b ∨ ∃ id L, keep id = false ∧ E.f id = some L ∧ L.blk = some b := hX.F
  -- what the new environment says of a number
  have hold : ∀ id, E.U id → keep id = false → (E.unfocus keep n E1).f id = E.f id := by
    intro id hu hkf
    simp only [Env.unfocus]
    split
    · rename_i h
      rcases h with h | ⟨h1, h2⟩
      · rw [hkf] at h; cases h
      · have e1 : E.f id = none := by cases h : E.f id with | none => rfl | some L => rw [h] at h2; cases h2
        have : E1.f id = none := by
          cases h : E1.f id with
          | none => rfl
          | some L => exact absurd hu (hnew id (hS1.fresh id L h) h1)
        rw [this, e1]
    · rfl
  have hkeep : ∀ id, keep id = true → (E.unfocus keep n E1).f id = E1.f id := by
    intro id h; simp [Env.unfocus, h]
  have hfr : ∀ id, n ≤ id → ¬ E.U id → (E.unfocus keep n E1).f id = E1.f id := by
    intro id h1 h2
    simp only [Env.unfocus]
    rw [if_pos (.inr ⟨h1, by cases h : E.f id with | none => rfl | some L => exact absurd (hS.fresh id L h) h2⟩)]
  have hcase : ∀ id L, (E.unfocus keep n E1).f id = some L → (E1.f id = some L ∧ (keep id = true ∨ (n ≤ id ∧ ¬ E.U id))) ∨ (E.f id = some L ∧ keep id = false) := by
    intro id L h
    by_cases c : keep id = true
    · rw [hkeep id c] at h; exact .inl ⟨h, .inl c⟩
    · have c' : keep id = false := by simpa using c
      by_cases u : E.U id
      · rw [hold id u c'] at h; exact .inr ⟨h, c'⟩
      · by_cases l : n ≤ id
        · rw [hfr id l u] at h; exact .inl ⟨h, .inr ⟨l, u⟩⟩
        · simp only [Env.unfocus] at h
          rw [if_neg (by intro hh; rcases hh with hh | ⟨hh, _⟩; exact c hh; exact l hh)] at h
          exact absurd (hS.fresh id L h) u
  have hownE : ∀ b, (E.unfocus keep n E1).Own b → E1.Own b ∨ (E.Own b ∧ E1.F b) := by
    rintro b ⟨id, L, h, e⟩
    rcases hcase id L h with ⟨h1, _⟩ | ⟨h1, h2⟩
    · exact .inl ⟨id, L, h1, e⟩
    · exact .inr ⟨⟨id, L, h1, e⟩, by rw [hFe]; exact .inr ⟨id, L, h2, h1, e⟩⟩
  have hX' : Ext E w (E.unfocus keep n E1) w' := by
    refine ⟨fun id h => .inl h, rfl, ?_, ?_, hX.size, hX.os, hX.output⟩
    · intro id L' h hu
      rcases hcase id L' h with ⟨h1, h2⟩ | ⟨h1, h2⟩
      · rcases h2 with h2 | ⟨h2, h3⟩
        · obtain ⟨L, g1, g2⟩ := hX.ids id L' h1 (hk id h2).1
          have : E.f id = some L := by simpa [Env.focus, h2] using g1
          exact ⟨L, this, g2⟩
        · exact absurd hu h3
      · exact ⟨L', h1, Nat.le_refl _, fun _ => rfl⟩
    · intro b hb ho
      obtain ⟨g1, g2⟩ := hX.heap b hb (fun h => ho (focus_own h))
      exact ⟨g1, fun h => (hownE b h).elim g2 fun h => ho h.1⟩
  have hprot1 : ∀ b, Prot E1 w' b → Prot (E.unfocus keep n E1) w' b ∧ w'.heap[b]? = w'.heap[b]? := by
    rintro b ⟨p1, p2, p3⟩
    refine ⟨⟨p1, fun h => (hownE b h).elim p2 fun h => p3 h.2, fun h => p3 ?_⟩, rfl⟩
    rw [hFe]; exact .inl h
  have hmf : ∀ id, vis keep n id = true → E1.U id → (E.unfocus keep n E1).f id = E1.f id := by
    intro id hv hu
    simp only [vis, Bool.or_eq_true, decide_eq_true_eq] at hv
    rcases hv with hv | hv
    · exact hkeep id hv
    · exact hfr id hv (hnew id hu hv)
  have hmU : ∀ id, vis keep n id = true → E1.U id → (E.unfocus keep n E1).U id := by
    intro id hv hu
    simp only [vis, Bool.or_eq_true, decide_eq_true_eq] at hv
    rcases hv with hv | hv
    · exact .inl (hk id hv).2
    · exact .inr ⟨hv, hu⟩
  refine ⟨hX', ⟨?_, ?_, ?_, ?_, hnx, ?_⟩, fun v V hv h => h.moveP hmf hmU hprot1 hv, fun id => Iff.rfl⟩
  · intro id L h
    rcases hcase id L h with ⟨h1, h2⟩ | ⟨h1, h2⟩
    · rcases h2 with h2 | ⟨h2, h3⟩
      · exact .inl (hk id h2).2
      · exact .inr ⟨h2, hS1.fresh id L h1⟩
    · exact .inl (hS.fresh id L h1)
  · intro i i' L L' b h h' e e'
    rcases hcase i L h with ⟨h1, _⟩ | ⟨h1, h2⟩ <;> rcases hcase i' L' h' with ⟨h1', _⟩ | ⟨h1', h2'⟩
    · exact hS1.sep i i' L L' b h1 h1' e e'
    · exact absurd (by rw [hFe]; exact .inr ⟨i', L', h2', h1', e'⟩) (hS1.low i L b h1 e).2
    · exact absurd (by rw [hFe]; exact .inr ⟨i, L, h2, h1, e⟩) (hS1.low i' L' b h1' e').2
    · exact hS.sep i i' L L' b h1 h1' e e'
  · intro id L b h e
    rcases hcase id L h with ⟨h1, _⟩ | ⟨h1, h2⟩
    · obtain ⟨k1, k2⟩ := hS1.low id L b h1 e
      exact ⟨k1, fun hF => k2 (by rw [hFe]; exact .inl hF)⟩
    · obtain ⟨k1, k2⟩ := hS.low id L b h1 e
      exact ⟨Nat.lt_of_lt_of_le k1 hX.size, k2⟩
  · intro b hF
    exact Nat.lt_of_lt_of_le (hS.flow b hF) hX.size
  · intro id o ho
    rcases hσ id o ho with ⟨h1, h2, h3⟩ | ⟨h1, h2⟩
    · obtain ⟨L, g1, g2⟩ := hS1.obj id o h1
      refine ⟨L, by rw [hmf id h2 (hS1.fresh id L g1)]; exact g1, g2.moveP hmf hmU hprot1 (fun _ _ => rfl) h3⟩
    · obtain ⟨L, g1, g2⟩ := hS.obj id o h1
      refine ⟨L, by rw [hold id (hS.fresh id L g1) h2]; exact g1, g2.mono hX' fun b hb => ?_⟩
      refine (hX.heap b (hS.low id L b g1 hb).1 ?_).1
      rintro ⟨id', L', q1, q2⟩
      simp only [Env.focus] at q1
      split at q1
      · rename_i hkk
        have := hS.sep id id' L L' b g1 q1 hb q2
        subst this
        rw [h2] at hkk; cases hkk
      · cases q1

/-- Objects put over others. -/
def puts (m : List (Nat × LO)) : List (Nat × LO) → List (Nat × LO)
  | [] => m
  | (id, o) :: d => upd id o (puts m d)
theorem look_puts (m : List (Nat × LO)) (id : Nat) : ∀ d : List (Nat × LO), look id (puts m d) = match look id d with | some o => some o | none => look id m
  | [] => by simp [puts, look]
  | (k, o) :: d => by
    simp only [puts, look_upd, look]
    split
    · rfl
    · exact look_puts m id d
end Go.Lw

set_option linter.unusedVariables false
set_option linter.unusedSimpArgs false
namespace Go.Lw

/-- One operation, carried out or passed by, and what follows. -/
def LStep (P : Program) (ops : Array Oper) (o : Oper) (a : LAct) (σ : LSt) (v : LV) (σ' : LSt) : Prop :=
  ∀ (r : Option Nat) (Q : Exit → Act → World → Prop) (K : Act → World → Prop) E w A, Sim E w σ → AR E w a A → (∀ V w' E', Ext E w E' w' → Sim E' w' σ' → VRel E' w' v V → K (A.put o.dst V) w') →
    if Region.wanted o (yielded ops A.tmps) then o.wpIn (wd r) 0 P A w K Q else (∀ f, o.about P w A.eval = some f → (wd r).fn f) ∧ K (A.put o.dst undef) w

section
variable {P : Program} {ops : Array Oper} {o : Oper} {a : LAct} {σ σ' : LSt} {v : LV}
theorem LStep.lop (hw : wantedL ops o a = some true) (h : Lw.lop P o a σ = some (v, σ')) : LStep P ops o a σ v σ' := by
  intro r Q K E w A h1 h2 hK
  rw [wanted_of h2 hw, if_pos rfl]
  obtain ⟨V, w', E', hr, g1, g2, g3⟩ := lop_sound h E w A h1 h2
  exact wpIn_value hr (hK _ _ _ g1 g2 g3)
theorem LStep.skip (hw : wantedL ops o a = some false) : LStep P ops o a σ vundef σ := by
  intro r Q K E w A h1 h2 hK
  rw [wanted_of h2 hw, if_neg (by simp)]
  exact ⟨fun _ _ => trivial, hK _ _ _ (.refl _ _) h1 (.pv _ _ (.sc _))⟩
theorem LStep.fn {g : FuncId} {args : List LV} (hw : wantedL ops o a = some true) (hg : lcallee o a = some (g, args)) (hc : callable P g = true) (ha : args.all (·.under 0) = true) (hv : v.under 0 = true) (h : Fun P g args v) : LStep P ops o a σ v σ := by
  intro r Q K E w A h1 h2 hK
  rw [wanted_of h2 hw, if_pos rfl]
  obtain ⟨Vs, hr, hA⟩ := lcallee_sound (P := P) hg hc h2
  refine wpIn_enter hr (((LCalls.frame (Q := fun u => u = v) (LCalls.mono h fun u σ' e => ⟨by subst e; exact hv, e⟩) ha σ) E w Vs h1 hA).mono ?_)
  rintro e w' ⟨u, V, E', σ2, rfl, g1, g2, g3, g4, g5⟩
  subst g4; subst g5
  exact ⟨V, rfl, hK _ _ _ g1 g2 g3⟩
theorem LStep.call {g : FuncId} {args : List LV} (hw : wantedL ops o a = some true) (hg : lcallee o a = some (g, args)) (hc : callable P g = true) (h : LCalls P g args (fun u σ2 => u = v ∧ σ2 = σ') σ) : LStep P ops o a σ v σ' := by
  intro r Q K E w A h1 h2 hK
  rw [wanted_of h2 hw, if_pos rfl]
  obtain ⟨Vs, hr, hA⟩ := lcallee_sound (P := P) hg hc h2
  refine wpIn_enter hr ((h E w Vs h1 hA).mono ?_)
  rintro e w' ⟨u, V, E', σ2, rfl, g1, g2, g3, g4, g5⟩
  subst g4; subst g5
  exact ⟨V, rfl, hK _ _ _ g1 g2 g3⟩
end

/-- What one operation of a region needs, and makes: temporaries and objects read; the value; objects written; the numbers it may use. -/
structure Ev where
  tv : List (Nat × LV)
  ov : List (Nat × LO)
  wt : Option Nat
  v : LV
  nv : List (Nat × LO)
  lo : Nat
  hi : Nat
  pu : Option (Nat × Nat × Nat)

def Ev.putT (e : Ev) (m : List (Nat × LV)) : List (Nat × LV) := match e.wt with | none => m | some d => (d, e.v) :: m
def tOf (f : Nat → Bool) : Nat → List Ev → List (Nat × LV) → List (Nat × LV)
  | _, [], m => m
  | k, e :: es, m => tOf f (k + 1) es (if f k then e.putT m else m)
def oOf (f : Nat → Bool) : Nat → List Ev → List (Nat × LO) → List (Nat × LO)
  | _, [], m => m
  | k, e :: es, m => oOf f (k + 1) es (if f k then puts m e.nv else m)

theorem look_putT (e : Ev) (m : List (Nat × LV)) (t : Nat) : look t (e.putT m) = if e.wt = some t then some e.v else look t m := by
  unfold Ev.putT
  cases h : e.wt with
  | none => simp
  | some d => by_cases c : d = t <;> simp [look, c]

theorem tOf_congr (f g : Nat → Bool) (t : Nat) : ∀ (es : List Ev) (k : Nat) (m m' : List (Nat × LV)), look t m = look t m' → (∀ j e, es[j]? = some e → e.wt = some t → f (k + j) = g (k + j)) → look t (tOf f k es m) = look t (tOf g k es m')
  | [], k, m, m', h, _ => h
  | e :: es, k, m, m', h, hw => by
    simp only [tOf]
    refine tOf_congr f g t es (k + 1) _ _ ?_ (fun j e' he hwt => by have := hw (j + 1) e' he hwt; rwa [show k + (j + 1) = k + 1 + j by omega] at this)
    by_cases c : e.wt = some t
    · have := hw 0 e rfl c
      simp only [Nat.add_zero] at this
      rw [this]
      split
      · rw [look_putT, look_putT, if_pos c, if_pos c]
      · exact h
    · split <;> split <;> first | exact h | (simp only [look_putT, c, if_false]; exact h)
theorem oOf_congr (f g : Nat → Bool) (id : Nat) : ∀ (es : List Ev) (k : Nat) (m m' : List (Nat × LO)), look id m = look id m' → (∀ j e, es[j]? = some e → id ∈ e.nv.map (·.1) → f (k + j) = g (k + j)) → look id (oOf f k es m) = look id (oOf g k es m')
  | [], k, m, m', h, _ => h
  | e :: es, k, m, m', h, hw => by
    simp only [oOf]
    refine oOf_congr f g id es (k + 1) _ _ ?_ (fun j e' he hwt => by have := hw (j + 1) e' he hwt; rwa [show k + (j + 1) = k + 1 + j by omega] at this)
    by_cases c : id ∈ e.nv.map (·.1)
    · have := hw 0 e rfl c
      simp only [Nat.add_zero] at this
      rw [this]
      split
      · rw [look_puts, look_puts, h]
      · exact h
    · have hn : look id e.nv = none := by
        cases hl : look id e.nv with
        | none => rfl
        | some o => exact absurd (List.mem_map.2 ⟨(id, o), look_mem _ _ _ hl, rfl⟩) c
      split <;> split <;> first | exact h | (simp only [look_puts, hn]; exact h)

/-- The last one to write it, of those that have been carried out, is the i-th. -/
theorem tOf_last (f : Nat → Bool) (t : Nat) : ∀ (es : List Ev) (k i : Nat) (m : List (Nat × LV)) (e : Ev), es[i]? = some e → e.wt = some t → f (k + i) = true → (∀ j e', es[j]? = some e' → i < j → e'.wt = some t → f (k + j) = false) → look t (tOf f k es m) = some e.v
  | [], k, i, m, e, h, _, _, _ => by simp at h
  | e0 :: es, k, 0, m, e, h, hw, hf, hl => by
    obtain rfl : e0 = e := by simpa using h
    simp only [tOf]
    rw [show f k = true from hf, if_pos rfl]
    have := tOf_congr f (fun _ => false) t es (k + 1) (e0.putT m) (e0.putT m) rfl (fun j e' he hwt => by
      have := hl (j + 1) e' he (by omega) hwt
      rwa [show k + (j + 1) = k + 1 + j by omega] at this)
    rw [this]
    have hz : ∀ (es : List Ev) k m, look t (tOf (fun _ => false) k es m) = look t m := by
      intro es
      induction es with
      | nil => intro k m; rfl
      | cons e es ih => intro k m; simp only [tOf, Bool.false_eq_true, if_false]; exact ih _ _
    rw [hz, look_putT, if_pos hw]
  | e0 :: es, k, i + 1, m, e, h, hw, hf, hl => by
    simp only [tOf]
    exact tOf_last f t es (k + 1) i _ e h hw (by rwa [show k + 1 + i = k + (i + 1) by omega]) (fun j e' he hij hwt => by
      have := hl (j + 1) e' he (by omega) hwt
      rwa [show k + (j + 1) = k + 1 + j by omega] at this)
theorem oOf_last (f : Nat → Bool) (id : Nat) : ∀ (es : List Ev) (k i : Nat) (m : List (Nat × LO)) (e : Ev) (o : LO), es[i]? = some e → look id e.nv = some o → f (k + i) = true → (∀ j e', es[j]? = some e' → i < j → id ∈ e'.nv.map (·.1) → f (k + j) = false) → look id (oOf f k es m) = some o
  | [], k, i, m, e, o, h, _, _, _ => by simp at h
  | e0 :: es, k, 0, m, e, o, h, hw, hf, hl => by
    obtain rfl : e0 = e := by simpa using h
    simp only [oOf]
    rw [show f k = true from hf, if_pos rfl]
    have := oOf_congr f (fun _ => false) id es (k + 1) (puts m e0.nv) (puts m e0.nv) rfl (fun j e' he hwt => by
      have := hl (j + 1) e' he (by omega) hwt
      rwa [show k + (j + 1) = k + 1 + j by omega] at this)
    rw [this]
    have hz : ∀ (es : List Ev) k m, look id (oOf (fun _ => false) k es m) = look id m := by
      intro es
      induction es with
      | nil => intro k m; rfl
      | cons e es ih => intro k m; simp only [oOf, Bool.false_eq_true, if_false]; exact ih _ _
    rw [hz, look_puts, hw]
  | e0 :: es, k, i + 1, m, e, o, h, hw, hf, hl => by
    simp only [oOf]
    exact oOf_last f id es (k + 1) i _ e o h hw (by rwa [show k + 1 + i = k + (i + 1) by omega]) (fun j e' he hij hwt => by
      have := hl (j + 1) e' he (by omega) hwt
      rwa [show k + (j + 1) = k + 1 + j by omega] at this)

/-- An array of our own has so many rows of so many cells. -/
def ShapeAt (σ : LSt) (s : Nat × Nat × Nat) : Prop := ∃ rows, look s.1 σ.m = some (.arr s.2.1 rows) ∧ rows.length = s.2.2
/-- An operation that turns nothing, and asks no more than an array's shape. -/
def LStepP (P : Program) (ops : Array Oper) (o : Oper) (a : LAct) (s : Nat × Nat × Nat) (v : LV) : Prop :=
  ∀ (r : Option Nat) (Q : Exit → Act → World → Prop) (K : Act → World → Prop) E w A σ, Sim E w σ → ShapeAt σ s → AR E w a A → (∀ V, VRel E w v V → K (A.put o.dst V) w) →
    if Region.wanted o (yielded ops A.tmps) then o.wpIn (wd r) 0 P A w K Q else (∀ f, o.about P w A.eval = some f → (wd r).fn f) ∧ K (A.put o.dst undef) w
/-- What is written to it keeps its shape. -/
def nvShape (s : Nat × Nat × Nat) : List (Nat × LO) → Prop
  | [] => True
  | (id, o) :: r => (id = s.1 → ∃ rows, o = .arr s.2.1 rows ∧ rows.length = s.2.2) ∧ nvShape s r
def evShape (s : Nat × Nat × Nat) : List Ev → Prop
  | [] => True
  | e :: es => nvShape s e.nv ∧ evShape s es
def puOk (all : List Ev) (mo : List (Nat × LO)) : List Ev → Prop
  | [] => True
  | e :: es => (∀ s, e.pu = some s → (∃ rows, look s.1 mo = some (.arr s.2.1 rows) ∧ rows.length = s.2.2) ∧ evShape s all) ∧ puOk all mo es
theorem nvShape_look {s : Nat × Nat × Nat} : ∀ {l : List (Nat × LO)} {o : LO}, nvShape s l → look s.1 l = some o → ∃ rows, o = .arr s.2.1 rows ∧ rows.length = s.2.2
  | [], o, _, h => by cases h
  | (k, o') :: r, o, hn, h => by
    simp only [look] at h
    split at h
    · rename_i e
      obtain rfl := Option.some.inj h
      exact hn.1 e
    · exact nvShape_look hn.2 h
theorem evShape_oOf {s : Nat × Nat × Nat} (f : Nat → Bool) : ∀ (es : List Ev) (k : Nat) (m : List (Nat × LO)), evShape s es → (∃ rows, look s.1 m = some (.arr s.2.1 rows) ∧ rows.length = s.2.2) → ∃ rows, look s.1 (oOf f k es m) = some (.arr s.2.1 rows) ∧ rows.length = s.2.2
  | [], k, m, _, h => h
  | e :: es, k, m, hs, h => by
    simp only [oOf]
    refine evShape_oOf f es (k + 1) _ hs.2 ?_
    split
    · rw [look_puts]
      cases hl : look s.1 e.nv with
      | none => exact h
      | some o =>
        obtain ⟨rows, rfl, hr⟩ := nvShape_look hs.1 hl
        exact ⟨rows, rfl, hr⟩
    · exact h
theorem puOk_at {all : List Ev} {mo : List (Nat × LO)} : ∀ {es : List Ev} {i : Nat} {e : Ev} {s : Nat × Nat × Nat}, puOk all mo es → es[i]? = some e → e.pu = some s → (∃ rows, look s.1 mo = some (.arr s.2.1 rows) ∧ rows.length = s.2.2) ∧ evShape s all
  | [], i, e, s, _, h, _ => by simp at h
  | e0 :: es, 0, e, s, hp, h, hs => by
    obtain rfl : e0 = e := by simpa using h
    exact hp.1 s hs
  | e0 :: es, i + 1, e, s, hp, h, hs => puOk_at hp.2 (by simpa using h) hs
theorem puOk_none {all : List Ev} {mo : List (Nat × LO)} : ∀ {es : List Ev}, es.all (fun e => e.pu.isNone) = true → puOk all mo es
  | [], _ => trivial
  | e :: es, h => by
    simp only [List.all_cons, Bool.and_eq_true] at h
    exact ⟨fun s hs => by rw [hs] at h; simp at h, puOk_none h.2⟩

/-! ### The order -/
/-- Do two operations touch the same thing, one of them writing it? -/
def touch (x y : Ev) : Bool :=
  (match x.wt with | some t => (y.tv.any fun p => p.1 == t) || y.wt == some t | none => false) || (match y.wt with | some t => x.tv.any fun p => p.1 == t | none => false) ||
  (x.nv.any fun p => (y.ov.any fun q => q.1 == p.1) || (y.nv.any fun q => q.1 == p.1)) || (y.nv.any fun p => x.ov.any fun q => q.1 == p.1)

def masksOk (ops : Array Oper) (ms : Array Nat) : Bool :=
  (List.range ops.size).all fun j => match ops[j]? with
    | some o => (o.after.toList.all fun e => !Region.binds .any e || decide (e.on < j)) && (ms.getD j 0 == o.after.toList.foldl (fun s e => if Region.binds .any e then s ||| (2 ^ e.on) ||| ms.getD e.on 0 else s) 0)
    | none => true
def pairsOk (ms : Array Nat) (es : List Ev) : Bool :=
  (List.range es.length).all fun j => (List.range j).all fun i => match es[i]?, es[j]? with
    | some x, some y => !touch x y || (ms.getD j 0).testBit i
    | _, _ => true
def okDraw (ops : Array Oper) (es : List Ev) : Bool := let ms := Region.before ops; masksOk ops ms && pairsOk ms es

theorem foldl_testBit (ms : Array Nat) (i : Nat) : ∀ (l : List Edge) (s : Nat), (l.foldl (fun s e => if Region.binds .any e then s ||| (2 ^ e.on) ||| ms.getD e.on 0 else s) s).testBit i = true → s.testBit i = true ∨ ∃ e ∈ l, Region.binds .any e = true ∧ (e.on = i ∨ (ms.getD e.on 0).testBit i = true)
  | [], s, h => .inl h
  | e :: l, s, h => by
    simp only [List.foldl_cons] at h
    rcases foldl_testBit ms i l _ h with h | ⟨e', h1, h2⟩
    · split at h
      · rename_i hb
        simp only [Nat.testBit_or, Bool.or_eq_true] at h
        rcases h with (h | h) | h
        · exact .inl h
        · refine .inr ⟨e, by simp, hb, .inl ?_⟩
          rw [Nat.testBit_two_pow] at h; simpa using h
        · exact .inr ⟨e, by simp, hb, .inr h⟩
      · exact .inl h
    · exact .inr ⟨e', List.mem_cons_of_mem _ h1, h2⟩

/-- Of what has been carried out all that had to come before has been, too. -/
def DownC (ops : Array Oper) (f : Nat → Bool) : Prop := ∀ j o, ops[j]? = some o → f j = true → ∀ e ∈ o.after, Region.binds .any e = true → f e.on = true

theorem before_listed {ops : Array Oper} {ms : Array Nat} (hm : masksOk ops ms = true) {f : Nat → Bool} (hd : DownC ops f) : ∀ (j i : Nat), j < ops.size → (ms.getD j 0).testBit i = true → (∀ o, ops[j]? = some o → ∀ e ∈ o.after, Region.binds .any e = true → f e.on = true) → f i = true := by
  intro j
  induction j using Nat.strongRecOn with
  | _ j ih =>
    intro i hj hb hr
    unfold masksOk at hm
    rw [List.all_eq_true] at hm
    have hmj := hm j (List.mem_range.2 hj)
    have ho : ops[j]? = some ops[j] := Array.getElem?_eq_getElem hj
    rw [ho] at hmj
    simp only [Bool.and_eq_true, List.all_eq_true, Bool.or_eq_true, Bool.not_eq_true', decide_eq_true_eq, beq_iff_eq] at hmj
    rw [hmj.2] at hb
    rcases foldl_testBit ms i _ _ hb with h | ⟨e, h1, h2, h3⟩
    · simp at h
    · have hmem : e ∈ ops[j].after := by simpa using h1
      have hl := hr _ ho e hmem h2
      have hlt : e.on < j := (hmj.1 e h1).resolve_left (by simp [h2])
      rcases h3 with h3 | h3
      · rw [← h3]; exact hl
      · exact ih e.on hlt i (by omega) h3 (fun o ho' e' he' hb' => hd e.on o ho' hl e' he' hb')
end Go.Lw

set_option linter.unusedVariables false
set_option linter.unusedSimpArgs false
namespace Go.Lw

def Ev.keep (e : Ev) (id : Nat) : Bool := e.ov.any fun p => p.1 == id

/-- The region in the order of the text, each operation by what it needs and makes. -/
inductive DRun (P : Program) (ops : Array Oper) (N : Nat) : List Oper → List Ev → List (Nat × LV) → List (Nat × LO) → Nat → List (Nat × LV) → List (Nat × LO) → Nat → Prop
  | nil (T : List (Nat × LV)) (M : List (Nat × LO)) (n : Nat) : DRun P ops N [] [] T M n T M n
  | cons {o : Oper} {r : List Oper} {e : Ev} {es : List Ev} {T : List (Nat × LV)} {M : List (Nat × LO)} {n : Nat} {T' : List (Nat × LV)} {M' : List (Nat × LO)} {n' : Nat}
      (hwt : e.wt = o.dst) (hd : ∀ d, o.dst = some d → d < N) (hlo : e.lo = n) (hhi : n ≤ e.hi)
      (htv : ∀ p ∈ e.tv, look p.1 T = some p.2 ∧ p.2.under n = true)
      (hov : ∀ p ∈ e.ov, look p.1 M = some p.2 ∧ p.1 < n ∧ p.2.under n = true ∧ p.2.idp (vis e.keep n) = true)
      (hnv : ∀ p ∈ e.nv, vis e.keep n p.1 = true ∧ p.2.idp (vis e.keep n) = true)
      (hv : e.v.idp (vis e.keep n) = true)
      (hpu : e.pu = none) (hs : LStep P ops o ⟨N, e.tv⟩ ⟨e.lo, e.ov⟩ e.v ⟨e.hi, puts e.ov e.nv⟩)
      (hr : DRun P ops N r es (e.putT T) (puts M e.nv) e.hi T' M' n') : DRun P ops N (o :: r) (e :: es) T M n T' M' n'
  | consP {o : Oper} {r : List Oper} {e : Ev} {es : List Ev} {T : List (Nat × LV)} {M : List (Nat × LO)} {n : Nat} {T' : List (Nat × LV)} {M' : List (Nat × LO)} {n' : Nat} {s : Nat × Nat × Nat}
      (hwt : e.wt = o.dst) (hd : ∀ d, o.dst = some d → d < N) (hlo : e.lo = n) (hhi : e.hi = n) (hov : e.ov = []) (hnv : e.nv = [])
      (htv : ∀ p ∈ e.tv, look p.1 T = some p.2 ∧ p.2.under n = true)
      (hpu : e.pu = some s) (hs : LStepP P ops o ⟨N, e.tv⟩ s e.v)
      (hr : DRun P ops N r es (e.putT T) M n T' M' n') : DRun P ops N (o :: r) (e :: es) T M n T' M' n'

section
variable {P : Program} {ops : Array Oper} {N : Nat}

theorem DRun.len {l : List Oper} {es : List Ev} {T M n T' M' n'} (h : DRun P ops N l es T M n T' M' n') : l.length = es.length := by
  induction h with
  | nil => rfl
  | cons _ _ _ _ _ _ _ _ _ _ _ ih => simp [ih]
  | consP _ _ _ _ _ _ _ _ _ _ ih => simp [ih]

theorem DRun.le {l : List Oper} {es : List Ev} {T M n T' M' n'} (h : DRun P ops N l es T M n T' M' n') : n ≤ n' ∧ ∀ (j : Nat) (e : Ev), es[j]? = some e → n ≤ e.lo ∧ e.lo ≤ e.hi ∧ e.hi ≤ n' := by
  induction h with
  | nil => exact ⟨Nat.le_refl _, by simp⟩
  | @cons o r e es T M n T' M' n' hwt hd hlo hhi htv hov hnv hv hpu hs hr ih =>
    refine ⟨by omega, fun j e' he => ?_⟩
    cases j with
    | zero =>
      obtain rfl : e = e' := by simpa using he
      exact ⟨by omega, by omega, ih.1⟩
    | succ j =>
      have := ih.2 j e' he
      exact ⟨by omega, this.2.1, this.2.2⟩
  | @consP o r e es T M n T' M' n' s hwt hd hlo hhi hov hnv htv hpu hs hr ih =>
    refine ⟨ih.1, fun j e' he => ?_⟩
    cases j with
    | zero =>
      obtain rfl : e = e' := by simpa using he
      have := ih.1
      exact ⟨by omega, by omega, by omega⟩
    | succ j => exact ih.2 j e' he

theorem DRun.sorted {l : List Oper} {es : List Ev} {T M n T' M' n'} (h : DRun P ops N l es T M n T' M' n') : ∀ (i j : Nat) (x y : Ev), es[i]? = some x → es[j]? = some y → i < j → x.hi ≤ y.lo := by
  induction h with
  | nil => intro i j x y h; simp at h
  | @cons o r e es T M n T' M' n' hwt hd hlo hhi htv hov hnv hv hpu hs hr ih =>
    intro i j x y hx hy hij
    cases j with
    | zero => omega
    | succ j =>
      cases i with
      | zero =>
        obtain rfl : e = x := by simpa using hx
        exact (hr.le.2 j y hy).1
      | succ i => exact ih i j x y hx hy (by omega)
  | @consP o r e es T M n T' M' n' s hwt hd hlo hhi hov hnv htv hpu hs hr ih =>
    intro i j x y hx hy hij
    cases j with
    | zero => omega
    | succ j =>
      cases i with
      | zero =>
        obtain rfl : e = x := by simpa using hx
        have := (hr.le.2 j y hy).1
        omega
      | succ i => exact ih i j x y hx hy (by omega)

/-- What each operation meets in the order of the text. -/
theorem DRun.at_ {l : List Oper} {es : List Ev} {T M n T' M' n'} (h : DRun P ops N l es T M n T' M' n') : ∀ (i : Nat) (e : Ev) (o : Oper), es[i]? = some e → l[i]? = some o →
    e.wt = o.dst ∧ (∀ d, o.dst = some d → d < N) ∧ (∀ p ∈ e.tv, look p.1 (tOf (fun j => decide (j < i)) 0 es T) = some p.2 ∧ p.2.under e.lo = true) ∧
      ((∃ s, e.pu = some s ∧ e.ov = [] ∧ e.nv = [] ∧ LStepP P ops o ⟨N, e.tv⟩ s e.v) ∨ (∀ p ∈ e.ov, look p.1 (oOf (fun j => decide (j < i)) 0 es M) = some p.2 ∧ p.1 < e.lo ∧ p.2.under e.lo = true ∧ p.2.idp (vis e.keep e.lo) = true) ∧
      (∀ p ∈ e.nv, vis e.keep e.lo p.1 = true ∧ p.2.idp (vis e.keep e.lo) = true) ∧ e.v.idp (vis e.keep e.lo) = true ∧ LStep P ops o ⟨N, e.tv⟩ ⟨e.lo, e.ov⟩ e.v ⟨e.hi, puts e.ov e.nv⟩) := by
  induction h with
  | nil => intro i e o h; simp at h
  | @cons o r e es T M n T' M' n' hwt hd hlo hhi htv hov hnv hv hpu hs hr ih =>
    intro i e' o' he ho
    have hzT : ∀ (es : List Ev) (k : Nat) (m : List (Nat × LV)) (t : Nat), look t (tOf (fun j => decide (j < 0)) k es m) = look t m := by
      intro es
      induction es with
      | nil => intro k m t; rfl
      | cons e es ih => intro k m t; simp only [tOf]; rw [if_neg (by simp)]; exact ih _ _ _
    have hzO : ∀ (es : List Ev) (k : Nat) (m : List (Nat × LO)) (t : Nat), look t (oOf (fun j => decide (j < 0)) k es m) = look t m := by
      intro es
      induction es with
      | nil => intro k m t; rfl
      | cons e es ih => intro k m t; simp only [oOf]; rw [if_neg (by simp)]; exact ih _ _ _
    cases i with
    | zero =>
      obtain rfl : e = e' := by simpa using he
      obtain rfl : o = o' := by simpa using ho
      subst hlo
      exact ⟨hwt, hd, fun p hp => by rw [hzT]; exact htv p hp, .inr ⟨fun p hp => by rw [hzO]; exact hov p hp, hnv, hv, hs⟩⟩
    | succ i =>
      obtain ⟨g1, g2, g3, g4⟩ := ih i e' o' he ho
      have sT : ∀ (es : List Ev) (k : Nat) (m : List (Nat × LV)), tOf (fun j => decide (j < i + 1)) (k + 1) es m = tOf (fun j => decide (j < i)) k es m := by
        intro es
        induction es with
        | nil => intro k m; rfl
        | cons e es ih => intro k m; simp only [tOf, Nat.add_lt_add_iff_right]; exact ih _ _
      have sO : ∀ (es : List Ev) (k : Nat) (m : List (Nat × LO)), oOf (fun j => decide (j < i + 1)) (k + 1) es m = oOf (fun j => decide (j < i)) k es m := by
        intro es
        induction es with
        | nil => intro k m; rfl
        | cons e es ih => intro k m; simp only [oOf, Nat.add_lt_add_iff_right]; exact ih _ _
      refine ⟨g1, g2, fun p hp => ?_, g4.imp id fun g4 => ⟨fun p hp => ?_, g4.2⟩⟩
      · have := g3 p hp
        simp only [tOf]
        rw [if_pos (by simp), sT]; exact this
      · have := g4.1 p hp
        simp only [oOf]
        rw [if_pos (by simp), sO]; exact this
  | @consP o r e es T M n T' M' n' s hwt hd hlo hhi hov hnv htv hpu hs hr ih =>
    intro i e' o' he ho
    have hzT : ∀ (es : List Ev) (k : Nat) (m : List (Nat × LV)) (t : Nat), look t (tOf (fun j => decide (j < 0)) k es m) = look t m := by
      intro es
      induction es with
      | nil => intro k m t; rfl
      | cons e es ih => intro k m t; simp only [tOf]; rw [if_neg (by simp)]; exact ih _ _ _
    have hzO : ∀ (es : List Ev) (k : Nat) (m : List (Nat × LO)) (t : Nat), look t (oOf (fun j => decide (j < 0)) k es m) = look t m := by
      intro es
      induction es with
      | nil => intro k m t; rfl
      | cons e es ih => intro k m t; simp only [oOf]; rw [if_neg (by simp)]; exact ih _ _ _
    cases i with
    | zero =>
      obtain rfl : e = e' := by simpa using he
      obtain rfl : o = o' := by simpa using ho
      subst hlo
      exact ⟨hwt, hd, fun p hp => by rw [hzT]; exact htv p hp, .inl ⟨s, hpu, hov, hnv, hs⟩⟩
    | succ i =>
      obtain ⟨g1, g2, g3, g4⟩ := ih i e' o' he ho
      have sT : ∀ (es : List Ev) (k : Nat) (m : List (Nat × LV)), tOf (fun j => decide (j < i + 1)) (k + 1) es m = tOf (fun j => decide (j < i)) k es m := by
        intro es
        induction es with
        | nil => intro k m; rfl
        | cons e es ih => intro k m; simp only [tOf, Nat.add_lt_add_iff_right]; exact ih _ _
      have sO : ∀ (es : List Ev) (k : Nat) (m : List (Nat × LO)), oOf (fun j => decide (j < i + 1)) (k + 1) es m = oOf (fun j => decide (j < i)) k es m := by
        intro es
        induction es with
        | nil => intro k m; rfl
        | cons e es ih => intro k m; simp only [oOf, Nat.add_lt_add_iff_right]; exact ih _ _
      refine ⟨g1, g2, fun p hp => ?_, g4.imp id fun g4 => ⟨fun p hp => ?_, g4.2⟩⟩
      · have := g3 p hp
        simp only [tOf]
        rw [if_pos (by simp), sT]; exact this
      · have := g4.1 p hp
        simp only [oOf]
        rw [if_pos (by simp), hnv, sO]; exact this

theorem DRun.fin {l : List Oper} {es : List Ev} {T M n T' M' n'} (h : DRun P ops N l es T M n T' M' n') : ∀ (f : Nat → Bool) (k : Nat), (∀ j, j < es.length → f (k + j) = true) → tOf f k es T = T' ∧ oOf f k es M = M' := by
  induction h with
  | nil => intro f k _; exact ⟨rfl, rfl⟩
  | @cons o r e es T M n T' M' n' hwt hd hlo hhi htv hov hnv hv hpu hs hr ih =>
    intro f k hf
    have h0 : f k = true := hf 0 (by simp)
    obtain ⟨h1, h2⟩ := ih f (k + 1) (fun j hj => by have := hf (j + 1) (by simpa using hj); rwa [show k + (j + 1) = k + 1 + j by omega] at this)
    simp only [tOf, oOf, h0, if_true]
    exact ⟨h1, h2⟩
  | @consP o r e es T M n T' M' n' s hwt hd hlo hhi hov hnv htv hpu hs hr ih =>
    intro f k hf
    have h0 : f k = true := hf 0 (by simp)
    obtain ⟨h1, h2⟩ := ih f (k + 1) (fun j hj => by have := hf (j + 1) (by simpa using hj); rwa [show k + (j + 1) = k + 1 + j by omega] at this)
    simp only [tOf, oOf, h0, if_true, hnv, puts]
    exact ⟨h1, h2⟩
end

/-- How many are still to come. -/
def todo (m : Nat) (f : Nat → Bool) : Nat := (List.range m).countP fun j => !f j
theorem todo_set {m : Nat} {f g : Nat → Bool} {i : Nat} (hi : i < m) (h0 : f i = false) (h1 : g i = true) (h : ∀ j, j ≠ i → g j = f j) : todo m g + 1 = todo m f := by
  induction m with
  | zero => omega
  | succ m ih =>
    unfold todo at ih ⊢
    rw [List.range_succ, List.countP_append, List.countP_append]
    by_cases c : i = m
    · subst c
      have e : (List.range i).countP (fun j => !g j) = (List.range i).countP fun j => !f j := by
        apply List.countP_congr
        intro j hj
        rw [h j (by have := List.mem_range.1 hj; omega)]
      rw [e]; simp [h0, h1]
    · have := ih (by omega)
      simp only [List.countP_singleton, h m (by omega)]
      omega
theorem todo_zero {m : Nat} {f : Nat → Bool} (h : todo m f = 0) : ∀ j, j < m → f j = true := by
  intro j hj
  have := List.countP_eq_zero.1 h j (List.mem_range.2 hj)
  simpa using this

theorem not_in {α : Type} {id : Nat} : ∀ {l : List (Nat × α)}, look id l = none → id ∉ l.map (·.1)
  | [], _ => by simp
  | (k, v) :: r, h => by
    simp only [look] at h
    split at h
    · cases h
    · rename_i e
      have := not_in h
      simp only [List.map_cons, List.mem_cons, not_or]
      exact ⟨fun e' => e e'.symm, this⟩

set_option maxHeartbeats 1000000 in
theorem LK.drawnP {P : Program} {Q : Exit → LAct → LSt → Prop} {a : LAct} {σ : LSt} {k : List KI} {id : Nat} {ops : Array Oper} {evs : List Ev} {T' : List (Nat × LV)} {M' : List (Nat × LO)} {n' : Nat} (hm : P.follows .mixedOrders = true)
    (hd : DRun P ops a.n ops.toList evs a.m σ.m σ.nx T' M' n') (ho : okDraw ops evs = true) (hpo : puOk evs σ.m evs) (h : LK P k Q ⟨a.n, T'⟩ ⟨n', M'⟩) : LK P (.code (.region id ops true) :: k) Q a σ := by
  refine LK.lw fun rd E0 w0 A0 _ hS0 hA0 hdf => wpIn_region_any hm ?_
  unfold okDraw at ho
  simp only [Bool.and_eq_true] at ho
  obtain ⟨hmask, hpair⟩ := ho
  have hlen : evs.length = ops.size := by have := hd.len; simpa using this.symm
  -- pairs that touch
  have hord : ∀ (i j : Nat) (x y : Ev), evs[i]? = some x → evs[j]? = some y → i < j → touch x y = true → ((Region.before ops).getD j 0).testBit i = true := by
    intro i j x y hx hy hij ht
    unfold pairsOk at hpair
    rw [List.all_eq_true] at hpair
    have hjl := (List.getElem?_eq_some_iff.1 hy).1
    have h1 := hpair j (List.mem_range.2 hjl)
    rw [List.all_eq_true] at h1
    have h2 := h1 i (List.mem_range.2 hij)
    rw [hx, hy] at h2
    simpa [ht] using h2
  have main : ∀ (fuel : Nat) (listed : Array Bool) (A : Act) (w : World), listed.size = ops.size → todo ops.size (fun j => listed.getD j false) ≤ fuel → DownC ops (fun j => listed.getD j false) →
      (∃ E, Ext E0 w0 E w ∧ Sim E w ⟨n', oOf (fun j => listed.getD j false) 0 evs σ.m⟩ ∧ AR E w ⟨a.n, tOf (fun j => listed.getD j false) 0 evs a.m⟩ A ∧ (Marks E w A.defers ∧ A.defers = A0.defers) ∧
        ∀ i, E.U i → i < σ.nx ∨ ∃ j e, evs[j]? = some e ∧ listed.getD j false = true ∧ e.lo ≤ i ∧ i < e.hi) →
      wpAnyIn (wd rd) 0 P .any ops (lift E0 w0 A0.defers (post P k Q)) fuel listed A w := by
    intro fuel
    induction fuel with
    | zero =>
      rintro listed A w hsz htd hdc ⟨E, i1, i2, i3, i4, i5⟩
      have hall := todo_zero (Nat.le_zero.1 htd)
      have hr0 : Region.ready .any ops listed = [] := by
        apply List.eq_nil_iff_forall_not_mem.2
        intro j hj
        obtain ⟨h1, o, h2, _⟩ := mem_ready.1 hj
        have hjl := (Array.getElem?_eq_some_iff.1 h2).1
        have := hall j hjl
        rw [Array.getD_eq_getD_getElem?, Array.getElem?_eq_getElem (by omega)] at h1 this
        simp_all
      refine ⟨hr0, trivial, ⟨a.n, T'⟩, ⟨n', M'⟩, E, i1, ?_, ?_, ⟨i4.1, i4.2 ▸ .refl _ _⟩, h⟩
      · obtain ⟨_, f2⟩ := hd.fin (fun j => listed.getD j false) 0 (fun j hj => by rw [Nat.zero_add]; exact hall j (by omega))
        rw [← f2]; exact i2
      · obtain ⟨f1, _⟩ := hd.fin (fun j => listed.getD j false) 0 (fun j hj => by rw [Nat.zero_add]; exact hall j (by omega))
        rw [← f1]; exact i3
    | succ fuel ih =>
      rintro listed A w hsz htd hdc ⟨E, i1, i2, i3, i4, i5⟩
      refine ⟨fun hr0 => ?_, fun i hi => ?_⟩
      · -- none is ready: all are over
        have hall : ∀ j, j < ops.size → listed.getD j false = true := by
          intro j
          induction j using Nat.strongRecOn with
          | _ j ihj =>
            intro hj
            cases hc : listed.getD j false with
            | true => rfl
            | false =>
              exfalso
              have hnr : j ∉ Region.ready .any ops listed := by rw [hr0]; simp
              apply hnr
              refine mem_ready.2 ⟨?_, ops[j], Array.getElem?_eq_getElem hj, fun e he hb => ?_⟩
              · rw [Array.getD_eq_getD_getElem?, Array.getElem?_eq_getElem (by omega)] at hc ⊢
                simpa using hc
              · unfold masksOk at hmask
                rw [List.all_eq_true] at hmask
                have hmj := hmask j (List.mem_range.2 hj)
                rw [Array.getElem?_eq_getElem hj] at hmj
                simp only [Bool.and_eq_true, List.all_eq_true, Bool.or_eq_true, Bool.not_eq_true', decide_eq_true_eq] at hmj
                have hlt := (hmj.1 e (by simpa using he)).resolve_left (by simp [hb])
                exact ihj e.on hlt (by omega)
        obtain ⟨f1, f2⟩ := hd.fin (fun j => listed.getD j false) 0 (fun j hj => by rw [Nat.zero_add]; exact hall j (by omega))
        exact ⟨trivial, ⟨a.n, T'⟩, ⟨n', M'⟩, E, i1, by rw [← f2]; exact i2, by rw [← f1]; exact i3, ⟨i4.1, i4.2 ▸ .refl _ _⟩, h⟩
      · obtain ⟨hl, o, ho, hre⟩ := mem_ready.1 hi
        have hil := (Array.getElem?_eq_some_iff.1 ho).1
        have hlf : listed.getD i false = false := by
          rw [Array.getD_eq_getD_getElem?, Array.getElem?_eq_getElem (by omega)] at hl ⊢
          simpa using hl
        have he : evs[i]? = some (evs[i]'(by omega)) := List.getElem?_eq_getElem (by omega)
        generalize evs[i]'(by omega) = e at he
        have hoL : ops.toList[i]? = some o := by simpa using ho
        obtain ⟨c1, c2, c3, c47⟩ := hd.at_ i e o he hoL
        have hrng := hd.le.2 i e he
        -- who touches it: those before are over, those behind are not
        have hbefore : ∀ (j : Nat) (x : Ev), evs[j]? = some x → j < i → touch x e = true → listed.getD j false = true := by
          intro j x hx hji ht
          refine before_listed hmask hdc i j hil (hord j i x e hx he hji ht) fun o' ho' e' he' hb' => ?_
          rw [ho] at ho'
          obtain rfl := Option.some.inj ho'
          exact hre e' he' hb'
        have hbehind : ∀ (j : Nat) (x : Ev), evs[j]? = some x → i < j → touch e x = true → listed.getD j false = false := by
          intro j x hx hij ht
          cases hc : listed.getD j false with
          | false => rfl
          | true =>
            have hjl : j < ops.size := by have := (List.getElem?_eq_some_iff.1 hx).1; omega
            have := before_listed hmask hdc j i hjl (hord i j e x he hx hij ht) fun o' ho' e' he' hb' => hdc j o' ho' hc e' he' hb'
            rw [hlf] at this; cases this
        have htouchT : ∀ (x : Ev) t, x.wt = some t → (∃ u, (t, u) ∈ e.tv) → touch x e = true ∧ touch e x = true := by
          rintro x t hx ⟨u, hu⟩
          have : (e.tv.any fun p => p.1 == t) = true := List.any_eq_true.2 ⟨(t, u), hu, by simp⟩
          constructor
          · unfold touch; rw [hx]; simp [this]
          · unfold touch; rw [hx]
            simp only [this, Bool.or_true, Bool.true_or]
        have htouchW : ∀ (x : Ev) t, x.wt = some t → e.wt = some t → touch x e = true ∧ touch e x = true := by
          intro x t hx hy
          constructor <;> (unfold touch; rw [hx, hy]; simp)
        have htouchO : ∀ (x : Ev) q, q ∈ x.nv.map (·.1) → (∃ u, (q, u) ∈ e.ov) → touch x e = true ∧ touch e x = true := by
          rintro x q hx ⟨u, hu⟩
          obtain ⟨p, hp, rfl⟩ := List.mem_map.1 hx
          have h1 : (e.ov.any fun y => y.1 == p.1) = true := List.any_eq_true.2 ⟨_, hu, by simp⟩
          have h2 : (x.nv.any fun p => (e.ov.any fun y => y.1 == p.1) || (e.nv.any fun y => y.1 == p.1)) = true := List.any_eq_true.2 ⟨p, hp, by simp [h1]⟩
          have h3 : (x.nv.any fun p => e.ov.any fun y => y.1 == p.1) = true := List.any_eq_true.2 ⟨p, hp, h1⟩
          constructor
          · unfold touch; simp only [h2, Bool.or_true, Bool.true_or]
          · unfold touch; simp only [h3, Bool.or_true]
        have htouchN : ∀ (x : Ev) q, q ∈ x.nv.map (·.1) → q ∈ e.nv.map (·.1) → touch x e = true ∧ touch e x = true := by
          intro x q hx hy
          obtain ⟨p, hp, rfl⟩ := List.mem_map.1 hx
          obtain ⟨p', hp', hpp⟩ := List.mem_map.1 hy
          have h1 : (e.nv.any fun y => y.1 == p.1) = true := List.any_eq_true.2 ⟨p', hp', by simp [hpp]⟩
          have h2 : (x.nv.any fun p => (e.ov.any fun y => y.1 == p.1) || (e.nv.any fun y => y.1 == p.1)) = true := List.any_eq_true.2 ⟨p, hp, by simp [h1]⟩
          have h4 : (x.nv.any fun y => y.1 == p'.1) = true := List.any_eq_true.2 ⟨p, hp, by simp [hpp]⟩
          have h3 : (e.nv.any fun p => (x.ov.any fun y => y.1 == p.1) || (x.nv.any fun y => y.1 == p.1)) = true := List.any_eq_true.2 ⟨p', hp', by simp [h4]⟩
          constructor
          · unfold touch; simp only [h2, Bool.or_true, Bool.true_or]
          · unfold touch; simp only [h3, Bool.or_true, Bool.true_or]
        -- what it needs stands as in the order of the text
        have hflag : ∀ (j : Nat) (x : Ev), evs[j]? = some x → touch x e = true ∧ touch e x = true → listed.getD j false = decide (j < i) := by
          intro j x hx ht
          rcases Nat.lt_trichotomy j i with c | c | c
          · rw [hbefore j x hx c ht.1]; simp [c]
          · subst c; rw [hlf]; simp
          · rw [hbehind j x hx c ht.2]; simp; omega
        have hT : ∀ p ∈ e.tv, look p.1 (tOf (fun j => listed.getD j false) 0 evs a.m) = some p.2 := by
          intro p hp
          rw [tOf_congr (fun j => listed.getD j false) (fun j => decide (j < i)) p.1 evs 0 a.m a.m rfl fun j x hx hw => by
            rw [Nat.zero_add]; exact hflag j x hx (htouchT x p.1 hw ⟨p.2, hp⟩)]
          exact (c3 p hp).1
        -- the new flags
        have hflags : ∀ j, (listed.setIfInBounds i true).getD j false = if j = i then true else listed.getD j false := by
          intro j
          by_cases c : j = i
          · subst c
            rw [if_pos rfl, Array.getD_eq_getD_getElem?, Array.getElem?_setIfInBounds]
            simp [show j < listed.size by omega]
          · rw [if_neg c, getD_set_ne _ (Ne.symm c)]
        have hTnew : ∀ t, look t (tOf (fun j => (listed.setIfInBounds i true).getD j false) 0 evs a.m) = if e.wt = some t then some e.v else look t (tOf (fun j => listed.getD j false) 0 evs a.m) := by
          intro t
          by_cases c : e.wt = some t
          · rw [if_pos c]
            refine tOf_last _ t evs 0 i a.m e he c (by simp only [Nat.zero_add, hflags, if_true]) fun j x hx hij hw => ?_
            simp only [Nat.zero_add, hflags]
            rw [if_neg (by omega)]
            exact hbehind j x hx hij (htouchW x t hw c).2
          · rw [if_neg c]
            refine tOf_congr _ _ t evs 0 a.m a.m rfl fun j x hx hw => ?_
            simp only [Nat.zero_add, hflags]
            rw [if_neg]
            rintro rfl
            rw [he] at hx
            obtain rfl := Option.some.inj hx
            exact c hw
        have hOnew : ∀ q o', look q (oOf (fun j => (listed.setIfInBounds i true).getD j false) 0 evs σ.m) = some o' → look q e.nv = some o' ∨ (look q e.nv = none ∧ look q (oOf (fun j => listed.getD j false) 0 evs σ.m) = some o') := by
          intro q o' hq
          cases c : look q e.nv with
          | some o2 =>
            have := oOf_last (fun j => (listed.setIfInBounds i true).getD j false) q evs 0 i σ.m e o2 he c (by simp only [Nat.zero_add, hflags, if_true]) fun j x hx hij hw => by
              simp only [Nat.zero_add, hflags]
              rw [if_neg (by omega)]
              exact hbehind j x hx hij (htouchN x q hw (List.mem_map.2 ⟨_, look_mem _ _ _ c, rfl⟩)).2
            rw [this] at hq
            exact .inl hq
          | none =>
            refine .inr ⟨rfl, ?_⟩
            rw [← hq]
            refine oOf_congr _ _ q evs 0 σ.m σ.m rfl fun j x hx hw => ?_
            simp only [Nat.zero_add, hflags]
            rw [if_neg]
            rintro rfl
            rw [he] at hx
            obtain rfl := Option.some.inj hx
            exact not_in c hw
        have finish : ∀ V w' E', Ext E w E' w' → Sim E' w' ⟨n', oOf (fun j => (listed.setIfInBounds i true).getD j false) 0 evs σ.m⟩ → VRel E' w' e.v V → (∀ q, E'.U q → E.U q ∨ (e.lo ≤ q ∧ q < e.hi)) → wpAnyIn (wd rd) 0 P .any ops (lift E0 w0 A0.defers (post P k Q)) fuel (listed.setIfInBounds i true) (A.put o.dst V) w' := by
          intro V w' E' u1 u2 u3 u4
          refine ih _ _ _ (by simp [hsz]) ?_ ?_ ⟨_, i1.trans u1, u2, ⟨?_, fun t v hv => ?_⟩, ⟨defers_put (i4.1.mono u1), by rw [put_defers]; exact i4.2⟩, fun q hq => ?_⟩
          · have := todo_set (m := ops.size) (f := fun j => listed.getD j false) (g := fun j => (listed.setIfInBounds i true).getD j false) hil hlf (by simp only [hflags, if_true]) (fun j hj => by simp only [hflags, if_neg hj])
            omega
          · intro j o' ho' hj e' he' hb'
            simp only [hflags] at hj ⊢
            by_cases c : j = i
            · subst c
              rw [ho] at ho'
              obtain rfl := Option.some.inj ho'
              have := hre e' he' hb'
              split
              · rfl
              · exact this
            · rw [if_neg c] at hj
              have := hdc j o' ho' hj e' he' hb'
              split
              · rfl
              · exact this
          · have := i3.1
            cases hdst : o.dst <;> simp [Act.put, this]
          · simp only [hTnew] at hv
            by_cases c : e.wt = some t
            · rw [if_pos c] at hv
              obtain rfl := Option.some.inj hv
              have hdst : o.dst = some t := by rw [← c1]; exact c
              have hlt : t < A.tmps.size := by rw [i3.1]; exact c2 t hdst
              rw [hdst]
              simp only [Act.put]
              have : (A.tmps.setIfInBounds t V).getD t undef = V := by
                rw [Array.getD_eq_getD_getElem?, Array.getElem?_setIfInBounds]; simp [hlt]
              rw [this]
              exact u3
            · rw [if_neg c] at hv
              have h1 := (i3.2 t v hv).mono u1
              have : (A.put o.dst V).tmps.getD t undef = A.tmps.getD t undef := by
                cases hdst : o.dst with
                | none => rfl
                | some d =>
                  have hne : d ≠ t := fun e' => c (by rw [c1, hdst, e'])
                  simp only [Act.put]
                  rw [Array.getD_eq_getD_getElem?, Array.getElem?_setIfInBounds, if_neg hne, ← Array.getD_eq_getD_getElem?]
              rw [this]; exact h1
          · rcases u4 q hq with c | ⟨g1, g2⟩
            · rcases i5 q c with c | ⟨j, x, hx, hlj, g⟩
              · exact .inl c
              · refine .inr ⟨j, x, hx, ?_, g⟩
                rw [hflags]; split
                · rfl
                · exact hlj
            · exact .inr ⟨i, e, he, by simp only [hflags, if_true], g1, g2⟩
        rcases c47 with ⟨s, hpu, hov, hnv, hsP⟩ | ⟨c4, c5, c6, c7⟩
        · -- nothing turns
          have hsh : ShapeAt ⟨n', oOf (fun j => listed.getD j false) 0 evs σ.m⟩ s := by
            obtain ⟨g1, g2⟩ := puOk_at hpo he hpu
            exact evShape_oOf _ evs 0 σ.m g2 g1
          simp only [wpOpIn, ho]
          refine hsP _ _ _ E w A _ i2 hsh ⟨i3.1, fun t v hv => i3.2 t v (hT _ (look_mem _ _ _ hv))⟩ fun V hV => ?_
          refine finish V w E (.refl _ _) (i2.less rfl fun q o' hq => ?_) hV (fun q hq => .inl hq)
          rcases hOnew q o' hq with c | ⟨_, c⟩
          · rw [hnv] at c; cases c
          · exact c
        have hO : ∀ p ∈ e.ov, look p.1 (oOf (fun j => listed.getD j false) 0 evs σ.m) = some p.2 := by
          intro p hp
          rw [oOf_congr (fun j => listed.getD j false) (fun j => decide (j < i)) p.1 evs 0 σ.m σ.m rfl fun j x hx hw => by
            rw [Nat.zero_add]; exact hflag j x hx (htouchO x p.1 hw ⟨p.2, hp⟩)]
          exact (c4 p hp).1
        have hkeep : ∀ q, e.keep q = true → ∃ u, (q, u) ∈ e.ov := by
          intro q hq
          obtain ⟨p, hp, hpq⟩ := List.any_eq_true.1 hq
          have : p.1 = q := by simpa using hpq
          exact ⟨p.2, by rw [← this]; exact hp⟩
        have hkeep2 : ∀ q u, (q, u) ∈ e.ov → e.keep q = true := fun q u hq => List.any_eq_true.2 ⟨_, hq, by simp⟩
        -- the machine's step, what it does not see put aside
        simp only [wpOpIn, ho]
        refine c7 _ _ _ (E.focus e.keep e.lo) w A (i2.focus (fun q o' hq => ?_) (fun q hq => ?_)) ⟨i3.1, fun t v hv => ?_⟩ fun V w' E1 hX hS1 hV => ?_
        · have hmem := look_mem _ _ _ hq
          exact ⟨hkeep2 _ _ hmem, hO _ hmem, (c4 _ hmem).2.2.1⟩
        · obtain ⟨u, hu⟩ := hkeep q hq
          exact (c4 _ hu).2.1
        · have hmem := look_mem _ _ _ hv
          refine (i3.2 t v (hT _ hmem)).blur (n := e.lo) (fun q L _ hL => ?_) (fun q hq => hq) (fun b hb => focus_prot hb) (c3 _ hmem).2
          simp only [Env.focus] at hL
          split at hL
          · exact hL
          · cases hL
        · have hS1nx : ∀ q, E1.U q → q < e.hi := hS1.nx
          have hUk : ∀ q, e.keep q = true → q < e.lo ∧ E.U q := by
            intro q hq
            obtain ⟨u, hu⟩ := hkeep q hq
            obtain ⟨L, g1, _⟩ := i2.obj q u (hO _ hu)
            exact ⟨(c4 _ hu).2.1, i2.fresh q L g1⟩
          have hnew : ∀ q, E1.U q → e.lo ≤ q → ¬ E.U q := by
            intro q hq hle hu
            have hlt := hS1nx q hq
            rcases i5 q hu with c | ⟨j, x, hx, hlj, g1, g2⟩
            · omega
            · rcases Nat.lt_trichotomy j i with c | c | c
              · have := hd.sorted j i x e hx he c; omega
              · subst c; rw [hlf] at hlj; cases hlj
              · have := hd.sorted i j e x he hx c; omega
          have hU := unfocus_ok (σ' := ⟨n', oOf (fun j => (listed.setIfInBounds i true).getD j false) 0 evs σ.m⟩) i2 hX hS1 hUk hnew
            (fun q o' hq => by
              rcases hOnew q o' hq with c | ⟨c, c'⟩
              · have hmem := look_mem _ _ _ c
                refine .inl ⟨?_, (c5 _ hmem).1, (c5 _ hmem).2⟩
                simp only [LSt.get, look_puts, c]
              · by_cases ck : e.keep q = true
                · obtain ⟨u, hu⟩ := hkeep q ck
                  have hou : o' = u := by have := hO _ hu; rw [c'] at this; exact Option.some.inj this
                  subst hou
                  refine .inl ⟨?_, by simp [vis, ck], (c4 _ hu).2.2.2⟩
                  simp only [LSt.get, look_puts, c]
                  -- the objects read are told once each
                  cases hl2 : look q e.ov with
                  | none => exact absurd (List.mem_map.2 ⟨_, hu, rfl⟩) (not_in hl2)
                  | some o3 =>
                    have := hO _ (look_mem _ _ _ hl2)
                    rw [c'] at this
                    rw [Option.some.inj this]
                · exact .inr ⟨c', by simpa using ck⟩)
            (fun q hq => by
              rcases hq with hq | ⟨_, hq⟩
              · exact i2.nx q hq
              · have := hS1nx q hq
                show q < n'
                omega)
          obtain ⟨u1, u2, u3, u4⟩ := hU
          exact finish V w' _ u1 u2 (u3 _ _ c6 hV) fun q hq => (u4 q).1 hq |>.imp (fun h => h) fun g => ⟨g.1, hS1nx q g.2⟩
  refine main ops.size _ A0 _ (by simp) ?_ ?_ ?_
  · unfold todo
    exact Nat.le_trans (List.countP_le_length) (by simp)
  · intro j o' _ hj
    have hj' : (Array.replicate ops.size false).getD j false = true := hj
    rw [Array.getD_eq_getD_getElem?, Array.getElem?_replicate] at hj'
    split at hj' <;> simp at hj'
  · have hz : ∀ j, (Array.replicate ops.size false).getD j false = false := by
      intro j
      rw [Array.getD_eq_getD_getElem?, Array.getElem?_replicate]
      split <;> rfl
    have hzT : ∀ (es : List Ev) (k : Nat) (m : List (Nat × LV)), tOf (fun j => (Array.replicate ops.size false).getD j false) k es m = m := by
      intro es
      induction es with
      | nil => intro k m; rfl
      | cons e es ih => 
        intro k m
        show tOf (fun j => (Array.replicate ops.size false).getD j false) (k + 1) es (if (Array.replicate ops.size false).getD k false = true then _ else m) = m
        rw [if_neg (by rw [hz]; simp)]; exact ih _ _
    have hzO : ∀ (es : List Ev) (k : Nat) (m : List (Nat × LO)), oOf (fun j => (Array.replicate ops.size false).getD j false) k es m = m := by
      intro es
      induction es with
      | nil => intro k m; rfl
      | cons e es ih => 
        intro k m
        show oOf (fun j => (Array.replicate ops.size false).getD j false) (k + 1) es (if (Array.replicate ops.size false).getD k false = true then _ else m) = m
        rw [if_neg (by rw [hz]; simp)]; exact ih _ _
    rw [hzT, hzO]
    obtain ⟨s1, s2⟩ := hS0.still (w' := { w0 with drawn := w0.drawn + 1 }) rfl rfl rfl rfl
    refine ⟨E0, s1, ⟨s2.fresh, s2.sep, s2.low, s2.flow, fun i hi => Nat.lt_of_lt_of_le (s2.nx i hi) hd.le.1, s2.obj⟩, hA0.mono s1, ⟨hdf.mono s1, rfl⟩, fun i hi => .inl (hS0.nx i hi)⟩
theorem LK.drawn {P : Program} {Q : Exit → LAct → LSt → Prop} {a : LAct} {σ : LSt} {k : List KI} {id : Nat} {ops : Array Oper} {evs : List Ev} {T' : List (Nat × LV)} {M' : List (Nat × LO)} {n' : Nat} (hm : P.follows .mixedOrders = true)
    (hd : DRun P ops a.n ops.toList evs a.m σ.m σ.nx T' M' n') (ho : okDraw ops evs = true) (hp : evs.all (fun e => e.pu.isNone) = true) (h : LK P k Q ⟨a.n, T'⟩ ⟨n', M'⟩) : LK P (.code (.region id ops true) :: k) Q a σ :=
  LK.drawnP hm hd ho (puOk_none hp) h
end Go.Lw

set_option linter.unusedVariables false
set_option linter.unusedSimpArgs false
namespace Go.Lw
open Go.RowKit

section
variable {P : Program} {Q : Exit → LAct → LSt → Prop} {a a' : LAct} {σ σ' : LSt} {k : List KI}

theorem post_ret : ∀ (k : List KI) {Q : Exit → LAct → LSt → Prop} {a : LAct} {σ : LSt}, Q .ret a σ → post P k Q .ret a σ
  | [], _, _, _, h => h
  | .code _ :: k, _, _, _, h => post_ret_code (post_ret k h)
  | .blk _ :: k, _, _, _, h => post_ret_blk (post_ret k h)
  | .fin _ :: k, _, _, _, h => post_ret_fin (post_ret k h)

/-- A return, from wherever. -/
theorem LK.ret' (h : Q .ret a σ) : LK P (.code .ret :: k) Q a σ := LK.ret (post_ret k h)

/-- What is still to be done behind the block of that number. -/
def outOf (id : Nat) : List KI → Option (List KI)
  | [] => none
  | .code _ :: k => outOf id k
  | .fin _ :: k => outOf id k
  | .blk j :: k => if id = j then some k else outOf id k

theorem post_exit {id : Nat} : ∀ (k k' : List KI), outOf id k = some k' → LK P k' Q a σ → post P k Q (.exit id) a σ
  | [], _, h, _ => by cases h
  | .code _ :: k, k', h, hr => post_exit_code (post_exit k k' h hr)
  | .fin _ :: k, k', h, hr => post_exit_fin (post_exit k k' h hr)
  | .blk j :: k, k', h, hr => by
    simp only [outOf] at h
    split at h
    · rename_i e
      subst e
      simp only [Option.some.injEq] at h; subst h
      exact post_exit_blk hr
    · rename_i e
      exact post_exit_other e (post_exit k k' h hr)

theorem LK.exit' {id : Nat} {k' : List KI} (ho : outOf id k = some k') (h : LK P k' Q a σ) : LK P (.code (.exit id) :: k) Q a σ := LK.exit (post_exit k k' ho h)

/-- A choice on a bool in a temporary, in the middle of a region. -/
theorem LOps.choose {ops : Array Oper} {Q : Exit → LAct → LSt → Prop} {l : List Oper} {b : Bool} (d : Nat) (hb : look d a.m = some (.pv (.sc (.bool b)))) (ht : b = true → LOps P ops Q l ⟨a.n, upd d (.pv (.sc (.bool true))) a.m⟩ σ) (hf : b = false → LOps P ops Q l ⟨a.n, upd d (.pv (.sc (.bool false))) a.m⟩ σ) : LOps P ops Q l a σ := by
  have same : ∀ E w A, AR E w a A → AR E w ⟨a.n, upd d (.pv (.sc (.bool b))) a.m⟩ A := by
    intro E w A hA
    refine ⟨hA.1, fun t v hv => hA.2 t v ?_⟩
    simp only [look_upd] at hv
    split at hv
    · rename_i e; subst e; rw [hb]; exact hv
    · exact hv
  cases b with
  | true => exact fun r E w A h1 h2 h3 => ht rfl r E w A h1 (same _ _ _ h2) h3
  | false => exact fun r E w A h1 h2 h3 => hf rfl r E w A h1 (same _ _ _ h2) h3

/-- The next operation hangs on a choice that is not settled: settle it. -/
theorem LOps.guard {ops : Array Oper} {Q : Exit → LAct → LSt → Prop} {o : Oper} {l : List Oper} {b : Bool} {j d : Nat} {want : Bool} (hg : o.guard = some (j, want)) (hd : (ops[j]?).bind (·.dst) = some d) (hb : look d a.m = some (.pv (.sc (.bool b)))) (ht : b = true → LOps P ops Q (o :: l) ⟨a.n, upd d (.pv (.sc (.bool true))) a.m⟩ σ) (hf : b = false → LOps P ops Q (o :: l) ⟨a.n, upd d (.pv (.sc (.bool false))) a.m⟩ σ) : LOps P ops Q (o :: l) a σ :=
  LOps.choose d hb ht hf

/-- 'LOps.pure', its parts in the order in which they are found. -/
theorem LOps.fn {ops : Array Oper} {Q : Exit → LAct → LSt → Prop} {rest : List Oper} {o : Oper} {g : FuncId} {args : List LV} {v : LV} (hw : wantedL ops o a = some true) (hd : dstOk o a = true) (hg : lcallee o a = some (g, args)) (hc : callable P g = true)
    (h : Fun P g args v) (ha : args.all (·.under 0) = true) (hv : v.under 0 = true) (hr : LOps P ops Q rest (a.put o.dst v) σ) : LOps P ops Q (o :: rest) a σ := LOps.pure hw hd hg hc ha hv h hr

/-- A region's end told once: the ways of its choices come together. -/
theorem LK.join {id : Nat} {ops : Array Oper} (a' : LAct) (σ' : LSt) (hn : σ.nx ≤ σ'.nx) (h : LOps P ops (fun e x s => e = .normal ∧ Sub x s a' σ') ops.toList a σ) (hr : LK P k Q a' σ') : LK P (.code (.region id ops false) :: k) Q a σ := by
  refine LK.lw (LW.region ?_)
  intro r E w A h1 h2 h3
  refine wpList_mono _ ?_ (h r E w A h1 h2 h3)
  rintro e A' w' ⟨hc, x, s, E', g1, g2, g3, g4, rfl, hs⟩
  obtain ⟨E2, k1, k2, k3, k4⟩ := hs.use' g1 (fun i hi => Nat.lt_of_lt_of_le (h1.nx i hi) hn) g2 g3
  exact ⟨hc, a', σ', E2, k1, k2, k3, ⟨g4.1.less k4, g4.2⟩, hr⟩

/-- A loop of at most so many rounds, unrolled. -/
def LR (P : Program) (c : Code) (k : List KI) (Q : Exit → LAct → LSt → Prop) : Nat → LAct → LSt → Prop
  | 0 => fun _ _ => False
  | n + 1 => fun a σ => LK P (.code c :: .fin (LR P c k Q n) :: k) Q a σ
theorem LR.step {c : Code} {n : Nat} (h : LK P (.code c :: .fin (LR P c k Q n) :: k) Q a σ) : LR P c k Q (n + 1) a σ := h
theorem LK.rounds {c : Code} (n : Nat) (h : LR P c k Q n a σ) : LK P (.code (.loop c) :: k) Q a σ := by
  refine LK.lw fun rd E0 w0 A0 h0 hS hA hd => wpIn_loop_rounds n ?_
  have key : ∀ (n : Nat) (a : LAct) (σ : LSt), LR P c k Q n a σ → ∀ E w A, Ext E0 w0 E w → Sim E w σ → AR E w a A → Marks E w A.defers → More w0 A0.defers A.defers → Code.roundsIn (wd rd) 0 P c (lift E0 w0 A0.defers (post P k Q)) n A w := by
    intro n
    induction n with
    | zero => intro a σ h; exact h.elim
    | succ n ih =>
      intro a σ h E w A hx h1 h2 h3 h4
      have h' : LW P c (post P (.fin (LR P c k Q n) :: k) Q) a σ := h
      rw [roundsIn_succ]
      refine wpIn_mono (h' rd E w A h0 h1 h2 h3) ?_
      intro x A2 w2 q
      obtain ⟨hc, a2, σ2, E2, k1, k2, k3, k4, k5⟩ := lift_up hx h4 q
      cases x with
      | normal => exact ih a2 σ2 k5 E2 w2 A2 k1 k2 k3 k4.1 k4.2
      | panic c => exact hc.elim
      | outgrown => exact hc.elim
      | exit id => exact ⟨hc, a2, σ2, E2, k1, k2, k3, k4, k5⟩
      | goto l => exact ⟨hc, a2, σ2, E2, k1, k2, k3, k4, k5⟩
      | ret => exact ⟨hc, a2, σ2, E2, k1, k2, k3, k4, k5⟩
  exact key n a σ h E0 w0 A0 (.refl _ _) hS hA hd (.refl _ _)
end

/-- The world at a row's call: nothing there is ours. -/
def Env.none : Env := ⟨fun _ => Option.none, fun _ => False, fun _ => False⟩
theorem Sim.start (w : World) : Sim Env.none w ⟨0, []⟩ :=
  ⟨fun _ _ h => (by cases h), fun _ _ _ _ _ h => (by cases h), fun _ _ _ h => (by cases h), fun _ h => h.elim, fun _ h => h.elim, fun _ _ h => (by cases h)⟩
theorem Ext.below {w : World} {E' : Env} {w' : World} (h : Ext Env.none w E' w') : Below w.heap.size w { w' with tape := w.tape } :=
  ⟨h.os, rfl, h.output, h.size, fun b hb => (h.heap b hb (fun ⟨_, _, h, _⟩ => by cases h)).1⟩

/-- A row's walk: the law hands back true. -/
theorem LCalls.row {P : Program} {f : FuncId} {args : List LV} {Vs : List Value} (h : LCalls P f args (fun v _ => v = .pv (.sc (.bool true))) ⟨0, []⟩) (w : World) (hA : ArgsR Env.none w args Vs) : Calls P f Vs.toArray w fun e w' => e = .returned (.bool true) ∧ Below w.heap.size w { w' with tape := w.tape } := by
  refine (h Env.none w Vs (Sim.start w) hA).mono ?_
  rintro e w' ⟨v, V, E', σ', rfl, hx, _, hv, rfl⟩
  refine ⟨?_, hx.below⟩
  cases hv with
  | pv _ _ h => cases h; rfl

theorem ArgsR.nil {E : Env} {w : World} : ArgsR E w [] [] := ⟨rfl, fun i h => absurd h (by simp)⟩
theorem ArgsR.cons {E : Env} {w : World} {v : LV} {V : Value} {vs : List LV} {Vs : List Value} (h : VRel E w v V) (hr : ArgsR E w vs Vs) : ArgsR E w (v :: vs) (V :: Vs) := by
  refine ⟨by simp [hr.1], fun i h1 h2 => ?_⟩
  cases i with
  | zero => exact h
  | succ i => exact hr.2 i (by simpa using h1) (by simpa using h2)
theorem VRel.scalar {E : Env} {w : World} (V : Value) : VRel E w (.pv (.sc V)) V := .pv _ _ (.sc _)
end Go.Lw

set_option linter.unusedVariables false
set_option linter.unusedSimpArgs false
namespace Go.Lw

/-- The entries of these keys. -/
def takes {α : Type} (T : List (Nat × α)) : List Nat → Option (List (Nat × α))
  | [] => some []
  | k :: ks => match look k T, takes T ks with
    | some v, some r => some ((k, v) :: r)
    | _, _ => none
theorem takes_look {α : Type} {T : List (Nat × α)} : ∀ {ks : List Nat} {l : List (Nat × α)}, takes T ks = some l → ∀ p ∈ l, look p.1 T = some p.2
  | [], l, h, p, hp => by simp only [takes, Option.some.injEq] at h; subst h; cases hp
  | k :: ks, l, h, p, hp => by
    simp only [takes] at h
    split at h
    · rename_i v r h1 h2
      simp only [Option.some.injEq] at h; subst h
      rcases List.mem_cons.1 hp with rfl | hp
      · exact h1
      · exact takes_look h2 p hp
    · cases h

def keepOf (ov : List (Nat × LO)) (q : Nat) : Bool := ov.any fun p => p.1 == q
def ovOk (n : Nat) (ov : List (Nat × LO)) : Bool := ov.all fun p => decide (p.1 < n) && p.2.under n && p.2.idp (vis (keepOf ov) n)
def nvOk (n : Nat) (ov nv : List (Nat × LO)) : Bool := nv.all fun p => vis (keepOf ov) n p.1 && p.2.idp (vis (keepOf ov) n)

section
variable {P : Program} {ops : Array Oper} {N : Nat} {o : Oper} {r : List Oper} {es : List Ev} {T T' : List (Nat × LV)} {M M' : List (Nat × LO)} {n n' : Nat}

theorem DRun.any {tv : List (Nat × LV)} {ov : List (Nat × LO)} {v : LV} (ks is : List Nat) (nv : List (Nat × LO)) (hi : Nat) (htv : takes T ks = some tv) (hov : takes M is = some ov)
    (hd : dstOk o ⟨N, []⟩ = true) (hs : LStep P ops o ⟨N, tv⟩ ⟨n, ov⟩ v ⟨hi, puts ov nv⟩) (hle : n ≤ hi)
    (hu : tv.all (fun p => p.2.under n) = true) (ho : ovOk n ov = true) (hn : nvOk n ov nv = true) (hv : v.idp (vis (keepOf ov) n) = true)
    (hr : DRun P ops N r es (Ev.putT ⟨tv, ov, o.dst, v, nv, n, hi, none⟩ T) (puts M nv) hi T' M' n') : DRun P ops N (o :: r) (⟨tv, ov, o.dst, v, nv, n, hi, none⟩ :: es) T M n T' M' n' := by
  refine DRun.cons rfl (fun d hd' => ?_) rfl hle (fun p hp => ⟨takes_look htv p hp, List.all_eq_true.1 hu p hp⟩) (fun p hp => ?_) (fun p hp => ?_) hv rfl hs hr
  · simpa [dstOk, hd'] using hd
  · have := List.all_eq_true.1 ho p hp
    simp only [Bool.and_eq_true, decide_eq_true_eq] at this
    exact ⟨takes_look hov p hp, this.1.1, this.1.2, this.2⟩
  · have := List.all_eq_true.1 hn p hp
    simp only [Bool.and_eq_true] at this
    exact this

/-- An operation that writes nothing. -/
theorem DRun.op {tv : List (Nat × LV)} {ov : List (Nat × LO)} {v : LV} (ks is : List Nat) (htv : takes T ks = some tv) (hov : takes M is = some ov) (hd : dstOk o ⟨N, []⟩ = true)
    (hw : wantedL ops o ⟨N, tv⟩ = some true) (hl : lop P o ⟨N, tv⟩ ⟨n, ov⟩ = some (v, ⟨n, ov⟩))
    (hu : tv.all (fun p => p.2.under n) = true) (ho : ovOk n ov = true) (hv : v.idp (vis (keepOf ov) n) = true)
    (hr : DRun P ops N r es (Ev.putT ⟨tv, ov, o.dst, v, [], n, n, none⟩ T) M n T' M' n') : DRun P ops N (o :: r) (⟨tv, ov, o.dst, v, [], n, n, none⟩ :: es) T M n T' M' n' :=
  DRun.any ks is [] n htv hov hd (LStep.lop hw hl) (Nat.le_refl _) hu ho rfl hv hr

/-- A call by contract. -/
theorem DRun.fn {tv : List (Nat × LV)} {v : LV} {g : FuncId} {args : List LV} (ks : List Nat) (htv : takes T ks = some tv) (hd : dstOk o ⟨N, []⟩ = true)
    (hw : wantedL ops o ⟨N, tv⟩ = some true) (hg : lcallee o ⟨N, tv⟩ = some (g, args)) (hc : callable P g = true) (h : Fun P g args v) (ha : args.all (·.under 0) = true) (hv0 : v.under 0 = true)
    (hu : tv.all (fun p => p.2.under n) = true) (hv : v.idp (vis (keepOf []) n) = true)
    (hr : DRun P ops N r es (Ev.putT ⟨tv, [], o.dst, v, [], n, n, none⟩ T) M n T' M' n') : DRun P ops N (o :: r) (⟨tv, [], o.dst, v, [], n, n, none⟩ :: es) T M n T' M' n' :=
  DRun.any ks [] [] n htv rfl hd (LStep.fn hw hg hc ha hv0 h) (Nat.le_refl _) hu rfl rfl hv hr

/-- An operation that lays one new object. -/
theorem DRun.new {tv : List (Nat × LV)} {ov m' : List (Nat × LO)} {v : LV} {x : LO} (ks is : List Nat) (htv : takes T ks = some tv) (hov : takes M is = some ov) (hd : dstOk o ⟨N, []⟩ = true)
    (hw : wantedL ops o ⟨N, tv⟩ = some true) (hl : lop P o ⟨N, tv⟩ ⟨n, ov⟩ = some (v, ⟨n + 1, m'⟩)) (hm : m' = puts ov [(n, x)])
    (hu : tv.all (fun p => p.2.under n) = true) (ho : ovOk n ov = true) (hn : nvOk n ov [(n, x)] = true) (hv : v.idp (vis (keepOf ov) n) = true)
    (hr : DRun P ops N r es (Ev.putT ⟨tv, ov, o.dst, v, [(n, x)], n, n + 1, none⟩ T) (puts M [(n, x)]) (n + 1) T' M' n') : DRun P ops N (o :: r) (⟨tv, ov, o.dst, v, [(n, x)], n, n + 1, none⟩ :: es) T M n T' M' n' :=
  DRun.any ks is [(n, x)] (n + 1) htv hov hd (LStep.lop hw (by rw [hl, hm])) (Nat.le_succ _) hu ho hn hv hr

/-- A call that reads objects of ours and writes none. -/
theorem DRun.call {tv : List (Nat × LV)} {ov : List (Nat × LO)} {v : LV} {g : FuncId} {args : List LV} (ks is : List Nat) (htv : takes T ks = some tv) (hov : takes M is = some ov) (hd : dstOk o ⟨N, []⟩ = true)
    (hw : wantedL ops o ⟨N, tv⟩ = some true) (hg : lcallee o ⟨N, tv⟩ = some (g, args)) (hc : callable P g = true) (h : LCalls P g args (fun u s => u = v ∧ s = ⟨n, ov⟩) ⟨n, ov⟩)
    (hu : tv.all (fun p => p.2.under n) = true) (ho : ovOk n ov = true) (hv : v.idp (vis (keepOf ov) n) = true)
    (hr : DRun P ops N r es (Ev.putT ⟨tv, ov, o.dst, v, [], n, n, none⟩ T) M n T' M' n') : DRun P ops N (o :: r) (⟨tv, ov, o.dst, v, [], n, n, none⟩ :: es) T M n T' M' n' :=
  DRun.any ks is [] n htv hov hd (LStep.call hw hg hc h) (Nat.le_refl _) hu ho rfl hv hr
end
theorem LK.condT' {P : Program} {Q : Exit → LAct → LSt → Prop} {a : LAct} {σ : LSt} {k : List KI} {t : Nat} {x y : Code} {b : Bool} (hc : look t a.m = some (.pv (.sc (.bool b)))) (hb : b = true) (ht : LK P (.code x :: k) Q a σ) : LK P (.code (.cond (.tmp t) x y) :: k) Q a σ := LK.condT (hb ▸ hc) ht
theorem LK.condF' {P : Program} {Q : Exit → LAct → LSt → Prop} {a : LAct} {σ : LSt} {k : List KI} {t : Nat} {x y : Code} {b : Bool} (hc : look t a.m = some (.pv (.sc (.bool b)))) (hb : b = false) (ht : LK P (.code y :: k) Q a σ) : LK P (.code (.cond (.tmp t) x y) :: k) Q a σ := LK.condF (hb ▸ hc) ht
attribute [go_sem] takes puts Ev.putT
end Go.Lw

set_option linter.unusedVariables false
set_option linter.unusedSimpArgs false
namespace Go.Lw

/-- The temporaries outside D are as they were. -/
def Agree (D : Nat → Bool) (A B : Act) : Prop := B.tmps.size = A.tmps.size ∧ ∀ t, D t = false → B.tmps.getD t undef = A.tmps.getD t undef
theorem Agree.defer {D : Nat → Bool} {A B : Act} (h : Agree D A B) (l : List _) : Agree D A { tmps := B.tmps, defers := l } := h
theorem Agree.put {D : Nat → Bool} {A B : Act} (h : Agree D A B) {dst : Option Nat} (hd : ∀ d, dst = some d → D d = true) (V : Value) : Agree D A (B.put dst V) := by
  cases dst with
  | none => exact h
  | some d =>
    refine ⟨by simp [Act.put, h.1], fun t ht => ?_⟩
    have hne : d ≠ t := fun e => by subst e; rw [hd d rfl] at ht; cases ht
    simp only [Act.put]
    rw [Array.getD_eq_getD_getElem?, Array.getElem?_setIfInBounds, if_neg hne, ← Array.getD_eq_getD_getElem?]
    exact h.2 t ht

section
variable {P : Program} {ops : Array Oper} {a a' : LAct} {σ σ' : LSt}

/-- A list of operations cut in two: behind the first part only its own temporaries have turned. -/
theorem wpList_cut {rd : Option Nat} {D : Nat → Bool} {R R' : Exit → Act → World → Prop} {rest : List Oper} {A0 : Act} (hq : ∀ e A w, e ≠ .normal → R' e A w → R e A w) (hn : ∀ A w, Agree D A0 A → R' .normal A w → wpListIn (wd rd) 0 P ops R rest A w) :
    ∀ (g : List Oper), (∀ o ∈ g, ∀ d, o.dst = some d → D d = true) → ∀ {A : Act} {w : World}, Agree D A0 A → wpListIn (wd rd) 0 P ops R' g A w → wpListIn (wd rd) 0 P ops R (g ++ rest) A w
  | [], hg, A, w, hA, h => hn A w hA h
  | o :: g, hg, A, w, hA, h => by
    have ih := fun {A : Act} {w : World} => wpList_cut (D := D) (R := R) (R' := R') (rest := rest) (A0 := A0) hq hn g (fun o' ho' => hg o' (List.mem_cons_of_mem _ ho')) (A := A) (w := w)
    have hd := hg o List.mem_cons_self
    simp only [List.cons_append, wpListIn] at h ⊢
    split at h
    · rename_i hw
      rw [if_pos hw]
      refine ⟨fun _ _ => trivial, ?_⟩
      obtain ⟨_, h⟩ := h
      revert h
      generalize (o.semAt (wd rd).round A.eval).run P w = r
      intro h
      unfold Oper.uponIn at h ⊢
      split at h
      · exact ih (hA.put hd _) h
      · exact ih (hA.put hd _) h
      · exact ih ((hA.defer _).put hd _) h
      · refine ⟨h.1, CallsIn.mono h.2 ?_⟩
        intro e w'' hr
        cases e with
        | returned v => exact ih (hA.put hd _) hr
        | panicked c => exact hq _ _ _ (by simp) hr
        | outgrown => obtain ⟨x, y, hz⟩ := hr; exact ⟨x, y, hq _ _ _ (by simp) hz⟩
      · exact ⟨h.1, RowsIn.mono h.2 fun v w'' hr => ih (hA.put hd _) hr⟩
      · refine ⟨h.1, RoundIn.mono h.2 ?_⟩
        intro e w'' hr
        cases e with
        | returned v => exact ih (hA.put hd _) hr
        | panicked c => exact hq _ _ _ (by simp) hr
        | outgrown => obtain ⟨x, y, hz⟩ := hr; exact ⟨x, y, hq _ _ _ (by simp) hz⟩
      · exact hq _ _ _ (by simp) h
      · exact h.elim
    · rename_i hw
      rw [if_neg hw]
      exact ⟨fun _ _ => trivial, ih (hA.put hd _) h.2⟩

def keysOut (D : Nat → Bool) (m : List (Nat × LV)) : Bool := m.all fun p => !D p.1
def dstsIn (D : Nat → Bool) (l : List Oper) : Bool := l.all fun o => match o.dst with | none => true | some d => D d

/-- The first k operations, of which nothing is kept but one temporary. -/
theorem LOps.cut {Q : Exit → LAct → LSt → Prop} {l : List Oper} {V : LV} (k : Nat) (D : Nat → Bool) (dp : Nat) (hD : dstsIn D (l.take k) = true) (hm : keysOut D a.m = true)
    (h : LOps P ops (fun e x s => e = .normal ∧ s = σ ∧ look dp x.m = some V) (l.take k) a σ) (hr : LOps P ops Q (l.drop k) ⟨a.n, upd dp V a.m⟩ σ) : LOps P ops Q l a σ := by
  intro r E w A h1 h2 h3
  rw [← List.take_append_drop k l]
  refine wpList_cut (D := D) (A0 := A) (R' := Lw.lift E w A.defers (fun e x s => e = .normal ∧ s = σ ∧ look dp x.m = some V)) ?_ ?_ (l.take k) ?_ ⟨rfl, fun _ _ => rfl⟩ (h r E w A h1 h2 h3)
  · rintro e A' w' hne ⟨_, x, s, E', _, _, _, _, he, _⟩
    exact absurd he hne
  · rintro A' w' hag ⟨_, x, s, E', g1, g2, g3, g4, _, rfl, g5⟩
    refine LOps.lift g1 g4.2 (hr r E' w' A' g2 ⟨?_, fun t v hv => ?_⟩ g4.1)
    · rw [hag.1]; exact h2.1
    · simp only [look_upd] at hv
      split at hv
      · rename_i e; subst e
        obtain rfl := Option.some.inj hv
        exact g3.2 _ _ g5
      · have hmem := look_mem _ _ _ hv
        have := List.all_eq_true.1 hm _ hmem
        rw [hag.2 t (by simpa using this)]
        exact (h2.2 t v hv).mono g1
  · intro o ho d hd
    have := List.all_eq_true.1 hD o ho
    rw [hd] at this
    exact this

/-- 'x && y', y walked under x alone. -/
theorem LOps.andThen {Q : Exit → LAct → LSt → Prop} {l : List Oper} {b v : Bool} (k : Nat) (D : Nat → Bool) (d dp : Nat) (hb : look d a.m = some (.pv (.sc (.bool b)))) (hD : dstsIn D (l.take k) = true) (hm : keysOut D a.m = true)
    (ht : b = true → LOps P ops (fun e x s => e = .normal ∧ s = σ ∧ look dp x.m = some (.pv (.sc (.bool v)))) (l.take k) ⟨a.n, upd d (.pv (.sc (.bool true))) a.m⟩ σ)
    (hf : LOps P ops (fun e x s => e = .normal ∧ s = σ ∧ look dp x.m = some (.pv (.sc (.bool false)))) (l.take k) ⟨a.n, upd d (.pv (.sc (.bool false))) a.m⟩ σ)
    (hr : LOps P ops Q (l.drop k) ⟨a.n, upd dp (.pv (.sc (.bool (b && v)))) a.m⟩ σ) : LOps P ops Q l a σ := by
  refine LOps.cut k D dp hD hm (LOps.choose d hb (fun h => ?_) (fun h => ?_)) hr
  · subst h; exact ht rfl
  · subst h; exact hf
/-- 'x || y', y walked under 'not x' alone. -/
theorem LOps.orElse {Q : Exit → LAct → LSt → Prop} {l : List Oper} {b v : Bool} (k : Nat) (D : Nat → Bool) (d dp : Nat) (hb : look d a.m = some (.pv (.sc (.bool b)))) (hD : dstsIn D (l.take k) = true) (hm : keysOut D a.m = true)
    (ht : LOps P ops (fun e x s => e = .normal ∧ s = σ ∧ look dp x.m = some (.pv (.sc (.bool true)))) (l.take k) ⟨a.n, upd d (.pv (.sc (.bool true))) a.m⟩ σ)
    (hf : b = false → LOps P ops (fun e x s => e = .normal ∧ s = σ ∧ look dp x.m = some (.pv (.sc (.bool v)))) (l.take k) ⟨a.n, upd d (.pv (.sc (.bool false))) a.m⟩ σ)
    (hr : LOps P ops Q (l.drop k) ⟨a.n, upd dp (.pv (.sc (.bool (b || v)))) a.m⟩ σ) : LOps P ops Q l a σ := by
  refine LOps.cut k D dp hD hm (LOps.choose d hb (fun h => ?_) (fun h => ?_)) hr
  · subst h; exact ht
  · subst h; exact hf rfl
end
end Go.Lw
