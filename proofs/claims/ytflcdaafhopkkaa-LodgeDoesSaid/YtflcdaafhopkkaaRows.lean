/-
  No cell of these rows narrows 'for every input' (looked for: loops, veiled, ifaces, maps, wideKeys, modest, calm, conditions, laid).
  DERIVED. THE GIVEN ROWS OF THIS SEAT. 3 by the template 'for every input the law returns true; each argument reads behind the call as it read before'; 0 by the template 'total and deterministic' (their statements: YtflcdaafhopkkaaTotals.lean).
  GIVEN WITH THE SEED: the statements are not yours to turn. If you find one false, say at which input.
  Laid BY PROGRAM, IN A SANDBOX (cutbox-rows.mjs): the forced cells as the released guide's own fill.sh prints them over the translation 8579675426430d8e… (all of the seat's roots in one cut). By AI agents, Wed Nov 11 2026. No macro, syntax, notation, axiom, sorry.
-/
import Derived.Test.YtflcdaafhopkkaaChecked
import GoSem.Claim
import GoSem.ClaimJoined
import GoSem.ClaimMapViews
import Derived.JoinedTies
import Derived.KernelRfl
namespace Go.Proofs.Ytflcdaafhopkkaa
/- THE CELL 'sum', in the pinned program and in every row, IS THE sha256 OF THE DUMP (.gsa) THAT YtflcdaafhopkkaaProg.lean LOADS. Nothing in Lean hashes anything: it is a label: what it is worth is what the hold of that sum in a sandbox is worth. -/
noncomputable def Try.pinned : Pinned := { name := "ytflcdaafhopkkaa", sum := "8579675426430d8eccd4d8423028bd50e9cbb55f56dadf8918291d140e308ed7", checked := Try.checked }
namespace Rows
def none {H : Type} : Left H := { results := [], args := [] }

/-- 'ravellaw14.LodgeApart': WHATEVER THE INPUT: true; the input reads as it did. -/
def lodgeApartSpec : ChangeSpec := { name := "lodgeApart", fn := fun _ => fun
  | [d1, d2, d3] => { results := [.lit (.bool true)], args := [d1, d2, d3] }
  | _ => none }
def lodgeApartRow : OpenClaim := { program := "ytflcdaafhopkkaa", sum := "8579675426430d8eccd4d8423028bd50e9cbb55f56dadf8918291d140e308ed7", func := "ravel/ravellaw14.LodgeApart", spec := "lodgeApart", unfollowed := true, recurses := true, apart := false }
def LodgeApartSaid : Prop := lodgeApartRow.holds Try.pinned (OpenSpec.ofChange lodgeApartSpec)

/-- ITS FALSE NEIGHBOUR: 'it returns false'. Refute it at one input. -/
def lodgeApartWrong : ChangeSpec := { name := "lodgeApart", fn := fun _ => fun
  | [d1, d2, d3] => { results := [.lit (.bool false)], args := [d1, d2, d3] }
  | _ => none }
def LodgeApartWrongFalsely : Prop := lodgeApartRow.holds Try.pinned (OpenSpec.ofChange lodgeApartWrong)

/-- 'ravellaw14.LodgeBack': WHATEVER THE INPUT: true; the input reads as it did. -/
def lodgeBackSpec : ChangeSpec := { name := "lodgeBack", fn := fun _ => fun
  | [d1, d2, d3, d4] => { results := [.lit (.bool true)], args := [d1, d2, d3, d4] }
  | _ => none }
def lodgeBackRow : OpenClaim := { program := "ytflcdaafhopkkaa", sum := "8579675426430d8eccd4d8423028bd50e9cbb55f56dadf8918291d140e308ed7", func := "ravel/ravellaw14.LodgeBack", spec := "lodgeBack", unfollowed := true, recurses := true, apart := false }
def LodgeBackSaid : Prop := lodgeBackRow.holds Try.pinned (OpenSpec.ofChange lodgeBackSpec)

/-- ITS FALSE NEIGHBOUR: 'it returns false'. Refute it at one input. -/
def lodgeBackWrong : ChangeSpec := { name := "lodgeBack", fn := fun _ => fun
  | [d1, d2, d3, d4] => { results := [.lit (.bool false)], args := [d1, d2, d3, d4] }
  | _ => none }
def LodgeBackWrongFalsely : Prop := lodgeBackRow.holds Try.pinned (OpenSpec.ofChange lodgeBackWrong)

/-- 'ravellaw14.LodgeDoes': WHATEVER THE INPUT: true; the input reads as it did. -/
def lodgeDoesSpec : ChangeSpec := { name := "lodgeDoes", fn := fun _ => fun
  | [d1, d2, d3, d4, d5, d6] => { results := [.lit (.bool true)], args := [d1, d2, d3, d4, d5, d6] }
  | _ => none }
def lodgeDoesRow : OpenClaim := { program := "ytflcdaafhopkkaa", sum := "8579675426430d8eccd4d8423028bd50e9cbb55f56dadf8918291d140e308ed7", func := "ravel/ravellaw14.LodgeDoes", spec := "lodgeDoes", unfollowed := true, recurses := true, apart := false }
def LodgeDoesSaid : Prop := lodgeDoesRow.holds Try.pinned (OpenSpec.ofChange lodgeDoesSpec)

/-- ITS FALSE NEIGHBOUR: 'it returns false'. Refute it at one input. -/
def lodgeDoesWrong : ChangeSpec := { name := "lodgeDoes", fn := fun _ => fun
  | [d1, d2, d3, d4, d5, d6] => { results := [.lit (.bool false)], args := [d1, d2, d3, d4, d5, d6] }
  | _ => none }
def LodgeDoesWrongFalsely : Prop := lodgeDoesRow.holds Try.pinned (OpenSpec.ofChange lodgeDoesWrong)

/- THE SECOND FORM. 'bulk': how many values and letters a reading holds, each counted each time it is reached (what is shared counts as often as it is met; a slice's spare places count too). A statement '..UptoSaid' is the law's where the arguments, and the package variables that the reading takes, are together of bulk at most 1048576: NARROWER than '..Said'. Prove '..Said' where nothing that the law and all that it calls make is longer than what came in: it says more and counts as full. Else prove '..UptoSaid'. A law counts once. -/
mutual
def uptoBulk {H : Type} : DataW H → Nat
  | .lit (.string bytes) => bytes.length + 1
  | .lit _ => 1
  | .nil => 1
  | .ptr d => uptoBulk d + 1
  | .slice elems spare => uptoBulkAll elems + uptoBulkAll spare + 1
  | .agg parts => uptoBulkAll parts + 1
  | .iface _ d => uptoBulk d + 1
  | .map entries => uptoBulkEntries entries + 1
  | .held _ => 1
def uptoBulkAll {H : Type} : List (DataW H) → Nat
  | [] => 0
  | d :: r => uptoBulk d + uptoBulkAll r
def uptoBulkEntries {H : Type} : List (Lit × DataW H) → Nat
  | [] => 0
  | x :: r => uptoBulkEntry x + uptoBulkEntries r
def uptoBulkEntry {H : Type} : Lit × DataW H → Nat
  | (.string bytes, d) => bytes.length + uptoBulk d + 1
  | (_, d) => uptoBulk d + 1
 end
def uptoSmall : (H : Type) → List (DataW H) → Bool := fun _ ds => decide (uptoBulkAll ds ≤ 1048576)
def OpenSpec.upto (s : _root_.Go.ChangeSpec) : _root_.Go.OpenSpec := { _root_.Go.OpenSpec.ofChange s with cond := some uptoSmall }

/-- 'ravellaw14.LodgeApart', WHERE WHAT IT READS IS OF BULK AT MOST 1048576: true; the input reads as it did. -/
def lodgeApartUptoRow : OpenClaim := { program := "ytflcdaafhopkkaa", sum := "8579675426430d8eccd4d8423028bd50e9cbb55f56dadf8918291d140e308ed7", func := "ravel/ravellaw14.LodgeApart", spec := "lodgeApart", unfollowed := true, recurses := true, apart := false, narrowed := true }
def LodgeApartUptoSaid : Prop := lodgeApartUptoRow.holds Try.pinned (OpenSpec.upto lodgeApartSpec)

/-- 'ravellaw14.LodgeBack', WHERE WHAT IT READS IS OF BULK AT MOST 1048576: true; the input reads as it did. -/
def lodgeBackUptoRow : OpenClaim := { program := "ytflcdaafhopkkaa", sum := "8579675426430d8eccd4d8423028bd50e9cbb55f56dadf8918291d140e308ed7", func := "ravel/ravellaw14.LodgeBack", spec := "lodgeBack", unfollowed := true, recurses := true, apart := false, narrowed := true }
def LodgeBackUptoSaid : Prop := lodgeBackUptoRow.holds Try.pinned (OpenSpec.upto lodgeBackSpec)

/-- 'ravellaw14.LodgeDoes', WHERE WHAT IT READS IS OF BULK AT MOST 1048576: true; the input reads as it did. -/
def lodgeDoesUptoRow : OpenClaim := { program := "ytflcdaafhopkkaa", sum := "8579675426430d8eccd4d8423028bd50e9cbb55f56dadf8918291d140e308ed7", func := "ravel/ravellaw14.LodgeDoes", spec := "lodgeDoes", unfollowed := true, recurses := true, apart := false, narrowed := true }
def LodgeDoesUptoSaid : Prop := lodgeDoesUptoRow.holds Try.pinned (OpenSpec.upto lodgeDoesSpec)

end Rows
end Go.Proofs.Ytflcdaafhopkkaa
