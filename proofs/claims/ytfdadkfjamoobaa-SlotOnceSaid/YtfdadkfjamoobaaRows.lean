/-
  No cell of these rows narrows 'for every input' (looked for: loops, veiled, ifaces, maps, wideKeys, modest, calm, conditions, laid).
  DERIVED. THE GIVEN ROWS OF THIS SEAT. 5 by the template 'for every input the law returns true; each argument reads behind the call as it read before'; 0 by the template 'total and deterministic' (their statements: YtfdadkfjamoobaaTotals.lean).
  GIVEN WITH THE SEED: the statements are not yours to turn. If you find one false, say at which input.
  Laid BY PROGRAM, IN A SANDBOX (cutbox-rows.mjs): the forced cells as the released guide's own fill.sh prints them over the translation d8f898284a648010… (all of the seat's roots in one cut). By AI agents, Wed Nov 11 2026. No macro, syntax, notation, axiom, sorry.
-/
import Derived.Test.YtfdadkfjamoobaaChecked
import GoSem.Claim
import GoSem.ClaimJoined
import GoSem.ClaimMapViews
import Derived.JoinedTies
import Derived.KernelRfl
namespace Go.Proofs.Ytfdadkfjamoobaa
/- THE CELL 'sum', in the pinned program and in every row, IS THE sha256 OF THE DUMP (.gsa) THAT YtfdadkfjamoobaaProg.lean LOADS. Nothing in Lean hashes anything: it is a label: what it is worth is what the hold of that sum in a sandbox is worth. -/
noncomputable def Try.pinned : Pinned := { name := "ytfdadkfjamoobaa", sum := "d8f898284a6480105fa3a705720ea0129f70c44d57ef6f22ad1abc6369590f1e", checked := Try.checked }
namespace Rows
def none {H : Type} : Left H := { results := [], args := [] }

/-- 'ravellaw05.SlotEnds': WHATEVER THE INPUT: true; the input reads as it did. -/
def slotEndsSpec : ChangeSpec := { name := "slotEnds", fn := fun _ => fun
  | [d1, d2] => { results := [.lit (.bool true)], args := [d1, d2] }
  | _ => none }
def slotEndsRow : OpenClaim := { program := "ytfdadkfjamoobaa", sum := "d8f898284a6480105fa3a705720ea0129f70c44d57ef6f22ad1abc6369590f1e", func := "ravel/ravellaw05.SlotEnds", spec := "slotEnds", unfollowed := true, recurses := true, apart := false }
def SlotEndsSaid : Prop := slotEndsRow.holds Try.pinned (OpenSpec.ofChange slotEndsSpec)

/-- ITS FALSE NEIGHBOUR: 'it returns false'. Refute it at one input. -/
def slotEndsWrong : ChangeSpec := { name := "slotEnds", fn := fun _ => fun
  | [d1, d2] => { results := [.lit (.bool false)], args := [d1, d2] }
  | _ => none }
def SlotEndsWrongFalsely : Prop := slotEndsRow.holds Try.pinned (OpenSpec.ofChange slotEndsWrong)

/-- 'ravellaw05.SlotAgain': WHATEVER THE INPUT: true; the input reads as it did. -/
def slotAgainSpec : ChangeSpec := { name := "slotAgain", fn := fun _ => fun
  | [d1, d2] => { results := [.lit (.bool true)], args := [d1, d2] }
  | _ => none }
def slotAgainRow : OpenClaim := { program := "ytfdadkfjamoobaa", sum := "d8f898284a6480105fa3a705720ea0129f70c44d57ef6f22ad1abc6369590f1e", func := "ravel/ravellaw05.SlotAgain", spec := "slotAgain", unfollowed := true, recurses := true, apart := false }
def SlotAgainSaid : Prop := slotAgainRow.holds Try.pinned (OpenSpec.ofChange slotAgainSpec)

/-- ITS FALSE NEIGHBOUR: 'it returns false'. Refute it at one input. -/
def slotAgainWrong : ChangeSpec := { name := "slotAgain", fn := fun _ => fun
  | [d1, d2] => { results := [.lit (.bool false)], args := [d1, d2] }
  | _ => none }
def SlotAgainWrongFalsely : Prop := slotAgainRow.holds Try.pinned (OpenSpec.ofChange slotAgainWrong)

/-- 'ravellaw05.SlotOnce': WHATEVER THE INPUT: true; the input reads as it did. -/
def slotOnceSpec : ChangeSpec := { name := "slotOnce", fn := fun _ => fun
  | [d1, d2] => { results := [.lit (.bool true)], args := [d1, d2] }
  | _ => none }
def slotOnceRow : OpenClaim := { program := "ytfdadkfjamoobaa", sum := "d8f898284a6480105fa3a705720ea0129f70c44d57ef6f22ad1abc6369590f1e", func := "ravel/ravellaw05.SlotOnce", spec := "slotOnce", unfollowed := true, recurses := true, apart := false }
def SlotOnceSaid : Prop := slotOnceRow.holds Try.pinned (OpenSpec.ofChange slotOnceSpec)

/-- ITS FALSE NEIGHBOUR: 'it returns false'. Refute it at one input. -/
def slotOnceWrong : ChangeSpec := { name := "slotOnce", fn := fun _ => fun
  | [d1, d2] => { results := [.lit (.bool false)], args := [d1, d2] }
  | _ => none }
def SlotOnceWrongFalsely : Prop := slotOnceRow.holds Try.pinned (OpenSpec.ofChange slotOnceWrong)

/-- 'ravellaw05.SlotIds': WHATEVER THE INPUT: true; the input reads as it did. -/
def slotIdsSpec : ChangeSpec := { name := "slotIds", fn := fun _ => fun
  | [d] => { results := [.lit (.bool true)], args := [d] }
  | _ => none }
def slotIdsRow : OpenClaim := { program := "ytfdadkfjamoobaa", sum := "d8f898284a6480105fa3a705720ea0129f70c44d57ef6f22ad1abc6369590f1e", func := "ravel/ravellaw05.SlotIds", spec := "slotIds", unfollowed := true, recurses := true, apart := false }
def SlotIdsSaid : Prop := slotIdsRow.holds Try.pinned (OpenSpec.ofChange slotIdsSpec)

/-- ITS FALSE NEIGHBOUR: 'it returns false'. Refute it at one input. -/
def slotIdsWrong : ChangeSpec := { name := "slotIds", fn := fun _ => fun
  | [d] => { results := [.lit (.bool false)], args := [d] }
  | _ => none }
def SlotIdsWrongFalsely : Prop := slotIdsRow.holds Try.pinned (OpenSpec.ofChange slotIdsWrong)

/-- 'ravellaw05.SlotDoes': WHATEVER THE INPUT: true; the input reads as it did. -/
def slotDoesSpec : ChangeSpec := { name := "slotDoes", fn := fun _ => fun
  | [d1, d2, d3, d4] => { results := [.lit (.bool true)], args := [d1, d2, d3, d4] }
  | _ => none }
def slotDoesRow : OpenClaim := { program := "ytfdadkfjamoobaa", sum := "d8f898284a6480105fa3a705720ea0129f70c44d57ef6f22ad1abc6369590f1e", func := "ravel/ravellaw05.SlotDoes", spec := "slotDoes", unfollowed := true, recurses := true, apart := false }
def SlotDoesSaid : Prop := slotDoesRow.holds Try.pinned (OpenSpec.ofChange slotDoesSpec)

/-- ITS FALSE NEIGHBOUR: 'it returns false'. Refute it at one input. -/
def slotDoesWrong : ChangeSpec := { name := "slotDoes", fn := fun _ => fun
  | [d1, d2, d3, d4] => { results := [.lit (.bool false)], args := [d1, d2, d3, d4] }
  | _ => none }
def SlotDoesWrongFalsely : Prop := slotDoesRow.holds Try.pinned (OpenSpec.ofChange slotDoesWrong)

/- THE SECOND FORM. 'bulk': how many values and letters a reading holds, each counted each time it is reached (what is shared counts as often as it is met; a slice's spare places count too). A statement '..UptoSaid' is the law's where the arguments, and the package variables that the reading takes, are together of bulk at most 1048576: NARROWER than '..Said'. Prove '..Said' where nothing that the law and all that it calls make is longer than what came in: it says more and counts as full. Else prove '..UptoSaid'. A law counts once. -/
mutual
def uptoBulk {H : Type} : DataW H → Nat
  | .lit (.string bytes) => bytes.length + 1
  | .lit _ => 1
  | .nil => 1
  | .ptr d => uptoBulk d + 1
  | .slice elems spare => uptoBulkAll elems + uptoBulkAll spare + 1
  | .agg parts => uptoBulkAll parts + 1
  | .iface _ d => uptoBulk d + 1
  | .map entries => uptoBulkEntries entries + 1
  | .held _ => 1
def uptoBulkAll {H : Type} : List (DataW H) → Nat
  | [] => 0
  | d :: r => uptoBulk d + uptoBulkAll r
def uptoBulkEntries {H : Type} : List (Lit × DataW H) → Nat
  | [] => 0
  | x :: r => uptoBulkEntry x + uptoBulkEntries r
def uptoBulkEntry {H : Type} : Lit × DataW H → Nat
  | (.string bytes, d) => bytes.length + uptoBulk d + 1
  | (_, d) => uptoBulk d + 1
 end
def uptoSmall : (H : Type) → List (DataW H) → Bool := fun _ ds => decide (uptoBulkAll ds ≤ 1048576)
def OpenSpec.upto (s : _root_.Go.ChangeSpec) : _root_.Go.OpenSpec := { _root_.Go.OpenSpec.ofChange s with cond := some uptoSmall }

/-- 'ravellaw05.SlotEnds', WHERE WHAT IT READS IS OF BULK AT MOST 1048576: true; the input reads as it did. -/
def slotEndsUptoRow : OpenClaim := { program := "ytfdadkfjamoobaa", sum := "d8f898284a6480105fa3a705720ea0129f70c44d57ef6f22ad1abc6369590f1e", func := "ravel/ravellaw05.SlotEnds", spec := "slotEnds", unfollowed := true, recurses := true, apart := false, narrowed := true }
def SlotEndsUptoSaid : Prop := slotEndsUptoRow.holds Try.pinned (OpenSpec.upto slotEndsSpec)

/-- 'ravellaw05.SlotAgain', WHERE WHAT IT READS IS OF BULK AT MOST 1048576: true; the input reads as it did. -/
def slotAgainUptoRow : OpenClaim := { program := "ytfdadkfjamoobaa", sum := "d8f898284a6480105fa3a705720ea0129f70c44d57ef6f22ad1abc6369590f1e", func := "ravel/ravellaw05.SlotAgain", spec := "slotAgain", unfollowed := true, recurses := true, apart := false, narrowed := true }
def SlotAgainUptoSaid : Prop := slotAgainUptoRow.holds Try.pinned (OpenSpec.upto slotAgainSpec)

/-- 'ravellaw05.SlotOnce', WHERE WHAT IT READS IS OF BULK AT MOST 1048576: true; the input reads as it did. -/
def slotOnceUptoRow : OpenClaim := { program := "ytfdadkfjamoobaa", sum := "d8f898284a6480105fa3a705720ea0129f70c44d57ef6f22ad1abc6369590f1e", func := "ravel/ravellaw05.SlotOnce", spec := "slotOnce", unfollowed := true, recurses := true, apart := false, narrowed := true }
def SlotOnceUptoSaid : Prop := slotOnceUptoRow.holds Try.pinned (OpenSpec.upto slotOnceSpec)

/-- 'ravellaw05.SlotIds', WHERE WHAT IT READS IS OF BULK AT MOST 1048576: true; the input reads as it did. -/
def slotIdsUptoRow : OpenClaim := { program := "ytfdadkfjamoobaa", sum := "d8f898284a6480105fa3a705720ea0129f70c44d57ef6f22ad1abc6369590f1e", func := "ravel/ravellaw05.SlotIds", spec := "slotIds", unfollowed := true, recurses := true, apart := false, narrowed := true }
def SlotIdsUptoSaid : Prop := slotIdsUptoRow.holds Try.pinned (OpenSpec.upto slotIdsSpec)

/-- 'ravellaw05.SlotDoes', WHERE WHAT IT READS IS OF BULK AT MOST 1048576: true; the input reads as it did. -/
def slotDoesUptoRow : OpenClaim := { program := "ytfdadkfjamoobaa", sum := "d8f898284a6480105fa3a705720ea0129f70c44d57ef6f22ad1abc6369590f1e", func := "ravel/ravellaw05.SlotDoes", spec := "slotDoes", unfollowed := true, recurses := true, apart := false, narrowed := true }
def SlotDoesUptoSaid : Prop := slotDoesUptoRow.holds Try.pinned (OpenSpec.upto slotDoesSpec)

end Rows
end Go.Proofs.Ytfdadkfjamoobaa
