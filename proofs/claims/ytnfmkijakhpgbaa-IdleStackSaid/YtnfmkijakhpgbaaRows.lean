/-
  No cell of these rows narrows 'for every input' (looked for: loops, veiled, ifaces, maps, wideKeys, modest, calm, conditions, laid).
  DERIVED. THE GIVEN ROWS OF THIS SEAT. 4 by the template 'for every input the law returns true; each argument reads behind the call as it read before'; 0 by the template 'total and deterministic' (their statements: YtnfmkijakhpgbaaTotals.lean).
  GIVEN WITH THE SEED: the statements are not yours to turn. If you find one false, say at which input.
  Laid BY PROGRAM, IN A SANDBOX (cutbox-rows.mjs): the forced cells as the released guide's own fill.sh prints them over the translation 8acdeeec65d57083… (all of the seat's roots in one cut). By AI agents, Wed Nov 11 2026. No macro, syntax, notation, axiom, sorry.
-/
import Derived.Test.YtnfmkijakhpgbaaChecked
import GoSem.Claim
import GoSem.ClaimJoined
import GoSem.ClaimMapViews
import Derived.JoinedTies
import Derived.KernelRfl
namespace Go.Proofs.Ytnfmkijakhpgbaa
/- THE CELL 'sum', in the pinned program and in every row, IS THE sha256 OF THE DUMP (.gsa) THAT YtnfmkijakhpgbaaProg.lean LOADS. Nothing in Lean hashes anything: it is a label: what it is worth is what the hold of that sum in a sandbox is worth. -/
noncomputable def Try.pinned : Pinned := { name := "ytnfmkijakhpgbaa", sum := "8acdeeec65d57083c8791a038597e5ef6d8e495fdf7122f2aeb3db8f5f01bd26", checked := Try.checked }
namespace Rows
def none {H : Type} : Left H := { results := [], args := [] }

/-- 'ravellaw17.IdleCounts': WHATEVER THE INPUT: true; the input reads as it did. -/
def idleCountsSpec : ChangeSpec := { name := "idleCounts", fn := fun _ => fun
  | [d] => { results := [.lit (.bool true)], args := [d] }
  | _ => none }
def idleCountsRow : OpenClaim := { program := "ytnfmkijakhpgbaa", sum := "8acdeeec65d57083c8791a038597e5ef6d8e495fdf7122f2aeb3db8f5f01bd26", func := "ravel/ravellaw17.IdleCounts", spec := "idleCounts", unfollowed := true, recurses := true, apart := false }
def IdleCountsSaid : Prop := idleCountsRow.holds Try.pinned (OpenSpec.ofChange idleCountsSpec)

/-- ITS FALSE NEIGHBOUR: 'it returns false'. Refute it at one input. -/
def idleCountsWrong : ChangeSpec := { name := "idleCounts", fn := fun _ => fun
  | [d] => { results := [.lit (.bool false)], args := [d] }
  | _ => none }
def IdleCountsWrongFalsely : Prop := idleCountsRow.holds Try.pinned (OpenSpec.ofChange idleCountsWrong)

/-- 'ravellaw17.IdleStack': WHATEVER THE INPUT: true; the input reads as it did. -/
def idleStackSpec : ChangeSpec := { name := "idleStack", fn := fun _ => fun
  | [d1, d2, d3] => { results := [.lit (.bool true)], args := [d1, d2, d3] }
  | _ => none }
def idleStackRow : OpenClaim := { program := "ytnfmkijakhpgbaa", sum := "8acdeeec65d57083c8791a038597e5ef6d8e495fdf7122f2aeb3db8f5f01bd26", func := "ravel/ravellaw17.IdleStack", spec := "idleStack", unfollowed := true, recurses := true, apart := false }
def IdleStackSaid : Prop := idleStackRow.holds Try.pinned (OpenSpec.ofChange idleStackSpec)

/-- ITS FALSE NEIGHBOUR: 'it returns false'. Refute it at one input. -/
def idleStackWrong : ChangeSpec := { name := "idleStack", fn := fun _ => fun
  | [d1, d2, d3] => { results := [.lit (.bool false)], args := [d1, d2, d3] }
  | _ => none }
def IdleStackWrongFalsely : Prop := idleStackRow.holds Try.pinned (OpenSpec.ofChange idleStackWrong)

/-- 'ravellaw17.IdleBack': WHATEVER THE INPUT: true; the input reads as it did. -/
def idleBackSpec : ChangeSpec := { name := "idleBack", fn := fun _ => fun
  | [d1, d2] => { results := [.lit (.bool true)], args := [d1, d2] }
  | _ => none }
def idleBackRow : OpenClaim := { program := "ytnfmkijakhpgbaa", sum := "8acdeeec65d57083c8791a038597e5ef6d8e495fdf7122f2aeb3db8f5f01bd26", func := "ravel/ravellaw17.IdleBack", spec := "idleBack", unfollowed := true, recurses := true, apart := false }
def IdleBackSaid : Prop := idleBackRow.holds Try.pinned (OpenSpec.ofChange idleBackSpec)

/-- ITS FALSE NEIGHBOUR: 'it returns false'. Refute it at one input. -/
def idleBackWrong : ChangeSpec := { name := "idleBack", fn := fun _ => fun
  | [d1, d2] => { results := [.lit (.bool false)], args := [d1, d2] }
  | _ => none }
def IdleBackWrongFalsely : Prop := idleBackRow.holds Try.pinned (OpenSpec.ofChange idleBackWrong)

/-- 'ravellaw17.IdleDoes': WHATEVER THE INPUT: true; the input reads as it did. -/
def idleDoesSpec : ChangeSpec := { name := "idleDoes", fn := fun _ => fun
  | [d1, d2, d3, d4, d5] => { results := [.lit (.bool true)], args := [d1, d2, d3, d4, d5] }
  | _ => none }
def idleDoesRow : OpenClaim := { program := "ytnfmkijakhpgbaa", sum := "8acdeeec65d57083c8791a038597e5ef6d8e495fdf7122f2aeb3db8f5f01bd26", func := "ravel/ravellaw17.IdleDoes", spec := "idleDoes", unfollowed := true, recurses := true, apart := false }
def IdleDoesSaid : Prop := idleDoesRow.holds Try.pinned (OpenSpec.ofChange idleDoesSpec)

/-- ITS FALSE NEIGHBOUR: 'it returns false'. Refute it at one input. -/
def idleDoesWrong : ChangeSpec := { name := "idleDoes", fn := fun _ => fun
  | [d1, d2, d3, d4, d5] => { results := [.lit (.bool false)], args := [d1, d2, d3, d4, d5] }
  | _ => none }
def IdleDoesWrongFalsely : Prop := idleDoesRow.holds Try.pinned (OpenSpec.ofChange idleDoesWrong)

/- THE SECOND FORM. 'bulk': how many values and letters a reading holds, each counted each time it is reached (what is shared counts as often as it is met; a slice's spare places count too). A statement '..UptoSaid' is the law's where the arguments, and the package variables that the reading takes, are together of bulk at most 1048576: NARROWER than '..Said'. Prove '..Said' where nothing that the law and all that it calls make is longer than what came in: it says more and counts as full. Else prove '..UptoSaid'. A law counts once. -/
mutual
def uptoBulk {H : Type} : DataW H → Nat
  | .lit (.string bytes) => bytes.length + 1
  | .lit _ => 1
  | .nil => 1
  | .ptr d => uptoBulk d + 1
  | .slice elems spare => uptoBulkAll elems + uptoBulkAll spare + 1
  | .agg parts => uptoBulkAll parts + 1
  | .iface _ d => uptoBulk d + 1
  | .map entries => uptoBulkEntries entries + 1
  | .held _ => 1
def uptoBulkAll {H : Type} : List (DataW H) → Nat
  | [] => 0
  | d :: r => uptoBulk d + uptoBulkAll r
def uptoBulkEntries {H : Type} : List (Lit × DataW H) → Nat
  | [] => 0
  | x :: r => uptoBulkEntry x + uptoBulkEntries r
def uptoBulkEntry {H : Type} : Lit × DataW H → Nat
  | (.string bytes, d) => bytes.length + uptoBulk d + 1
  | (_, d) => uptoBulk d + 1
 end
def uptoSmall : (H : Type) → List (DataW H) → Bool := fun _ ds => decide (uptoBulkAll ds ≤ 1048576)
def OpenSpec.upto (s : _root_.Go.ChangeSpec) : _root_.Go.OpenSpec := { _root_.Go.OpenSpec.ofChange s with cond := some uptoSmall }

/-- 'ravellaw17.IdleCounts', WHERE WHAT IT READS IS OF BULK AT MOST 1048576: true; the input reads as it did. -/
def idleCountsUptoRow : OpenClaim := { program := "ytnfmkijakhpgbaa", sum := "8acdeeec65d57083c8791a038597e5ef6d8e495fdf7122f2aeb3db8f5f01bd26", func := "ravel/ravellaw17.IdleCounts", spec := "idleCounts", unfollowed := true, recurses := true, apart := false, narrowed := true }
def IdleCountsUptoSaid : Prop := idleCountsUptoRow.holds Try.pinned (OpenSpec.upto idleCountsSpec)

/-- 'ravellaw17.IdleStack', WHERE WHAT IT READS IS OF BULK AT MOST 1048576: true; the input reads as it did. -/
def idleStackUptoRow : OpenClaim := { program := "ytnfmkijakhpgbaa", sum := "8acdeeec65d57083c8791a038597e5ef6d8e495fdf7122f2aeb3db8f5f01bd26", func := "ravel/ravellaw17.IdleStack", spec := "idleStack", unfollowed := true, recurses := true, apart := false, narrowed := true }
def IdleStackUptoSaid : Prop := idleStackUptoRow.holds Try.pinned (OpenSpec.upto idleStackSpec)

/-- 'ravellaw17.IdleBack', WHERE WHAT IT READS IS OF BULK AT MOST 1048576: true; the input reads as it did. -/
def idleBackUptoRow : OpenClaim := { program := "ytnfmkijakhpgbaa", sum := "8acdeeec65d57083c8791a038597e5ef6d8e495fdf7122f2aeb3db8f5f01bd26", func := "ravel/ravellaw17.IdleBack", spec := "idleBack", unfollowed := true, recurses := true, apart := false, narrowed := true }
def IdleBackUptoSaid : Prop := idleBackUptoRow.holds Try.pinned (OpenSpec.upto idleBackSpec)

/-- 'ravellaw17.IdleDoes', WHERE WHAT IT READS IS OF BULK AT MOST 1048576: true; the input reads as it did. -/
def idleDoesUptoRow : OpenClaim := { program := "ytnfmkijakhpgbaa", sum := "8acdeeec65d57083c8791a038597e5ef6d8e495fdf7122f2aeb3db8f5f01bd26", func := "ravel/ravellaw17.IdleDoes", spec := "idleDoes", unfollowed := true, recurses := true, apart := false, narrowed := true }
def IdleDoesUptoSaid : Prop := idleDoesUptoRow.holds Try.pinned (OpenSpec.upto idleDoesSpec)

end Rows
end Go.Proofs.Ytnfmkijakhpgbaa
