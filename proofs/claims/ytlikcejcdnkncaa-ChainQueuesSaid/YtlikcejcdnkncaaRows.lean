/-
  No cell of these rows narrows 'for every input' (looked for: loops, veiled, ifaces, maps, wideKeys, modest, calm, conditions, laid).
  DERIVED. THE GIVEN ROWS OF THIS SEAT. 6 by the template 'for every input the law returns true; each argument reads behind the call as it read before'; 0 by the template 'total and deterministic' (their statements: YtlikcejcdnkncaaTotals.lean).
  GIVEN WITH THE SEED: the statements are not yours to turn. If you find one false, say at which input.
  Laid BY PROGRAM, IN A SANDBOX (cutbox-rows.mjs): the forced cells as the released guide's own fill.sh prints them over the translation cee3cec3a2885254… (all of the seat's roots in one cut). By AI agents, Wed Nov 11 2026. No macro, syntax, notation, axiom, sorry.
-/
import Derived.Test.YtlikcejcdnkncaaChecked
import GoSem.Claim
import GoSem.ClaimJoined
import GoSem.ClaimMapViews
import Derived.JoinedTies
import Derived.KernelRfl
namespace Go.Proofs.Ytlikcejcdnkncaa
/- THE CELL 'sum', in the pinned program and in every row, IS THE sha256 OF THE DUMP (.gsa) THAT YtlikcejcdnkncaaProg.lean LOADS. Nothing in Lean hashes anything: it is a label: what it is worth is what the hold of that sum in a sandbox is worth. -/
noncomputable def Try.pinned : Pinned := { name := "ytlikcejcdnkncaa", sum := "cee3cec3a28852547e2c63eb68d4acc55a395f866c5ea18aa88c9d77efbd3140", checked := Try.checked }
namespace Rows
def none {H : Type} : Left H := { results := [], args := [] }

/-- 'ravellaw06.ChainPops': WHATEVER THE INPUT: true; the input reads as it did. -/
def chainPopsSpec : ChangeSpec := { name := "chainPops", fn := fun _ => fun
  | [d1, d2] => { results := [.lit (.bool true)], args := [d1, d2] }
  | _ => none }
def chainPopsRow : OpenClaim := { program := "ytlikcejcdnkncaa", sum := "cee3cec3a28852547e2c63eb68d4acc55a395f866c5ea18aa88c9d77efbd3140", func := "ravel/ravellaw06.ChainPops", spec := "chainPops", unfollowed := true, recurses := true, apart := false }
def ChainPopsSaid : Prop := chainPopsRow.holds Try.pinned (OpenSpec.ofChange chainPopsSpec)

/-- ITS FALSE NEIGHBOUR: 'it returns false'. Refute it at one input. -/
def chainPopsWrong : ChangeSpec := { name := "chainPops", fn := fun _ => fun
  | [d1, d2] => { results := [.lit (.bool false)], args := [d1, d2] }
  | _ => none }
def ChainPopsWrongFalsely : Prop := chainPopsRow.holds Try.pinned (OpenSpec.ofChange chainPopsWrong)

/-- 'ravellaw06.ChainWhere': WHATEVER THE INPUT: true; the input reads as it did. -/
def chainWhereSpec : ChangeSpec := { name := "chainWhere", fn := fun _ => fun
  | [d] => { results := [.lit (.bool true)], args := [d] }
  | _ => none }
def chainWhereRow : OpenClaim := { program := "ytlikcejcdnkncaa", sum := "cee3cec3a28852547e2c63eb68d4acc55a395f866c5ea18aa88c9d77efbd3140", func := "ravel/ravellaw06.ChainWhere", spec := "chainWhere", unfollowed := true, recurses := true, apart := false }
def ChainWhereSaid : Prop := chainWhereRow.holds Try.pinned (OpenSpec.ofChange chainWhereSpec)

/-- ITS FALSE NEIGHBOUR: 'it returns false'. Refute it at one input. -/
def chainWhereWrong : ChangeSpec := { name := "chainWhere", fn := fun _ => fun
  | [d] => { results := [.lit (.bool false)], args := [d] }
  | _ => none }
def ChainWhereWrongFalsely : Prop := chainWhereRow.holds Try.pinned (OpenSpec.ofChange chainWhereWrong)

/-- 'ravellaw06.ChainMoves': WHATEVER THE INPUT: true; the input reads as it did. -/
def chainMovesSpec : ChangeSpec := { name := "chainMoves", fn := fun _ => fun
  | [d1, d2, d3, d4] => { results := [.lit (.bool true)], args := [d1, d2, d3, d4] }
  | _ => none }
def chainMovesRow : OpenClaim := { program := "ytlikcejcdnkncaa", sum := "cee3cec3a28852547e2c63eb68d4acc55a395f866c5ea18aa88c9d77efbd3140", func := "ravel/ravellaw06.ChainMoves", spec := "chainMoves", unfollowed := true, recurses := true, apart := false }
def ChainMovesSaid : Prop := chainMovesRow.holds Try.pinned (OpenSpec.ofChange chainMovesSpec)

/-- ITS FALSE NEIGHBOUR: 'it returns false'. Refute it at one input. -/
def chainMovesWrong : ChangeSpec := { name := "chainMoves", fn := fun _ => fun
  | [d1, d2, d3, d4] => { results := [.lit (.bool false)], args := [d1, d2, d3, d4] }
  | _ => none }
def ChainMovesWrongFalsely : Prop := chainMovesRow.holds Try.pinned (OpenSpec.ofChange chainMovesWrong)

/-- 'ravellaw06.ChainTells': WHATEVER THE INPUT: true; the input reads as it did. -/
def chainTellsSpec : ChangeSpec := { name := "chainTells", fn := fun _ => fun
  | [d1, d2, d3, d4, d5, d6] => { results := [.lit (.bool true)], args := [d1, d2, d3, d4, d5, d6] }
  | _ => none }
def chainTellsRow : OpenClaim := { program := "ytlikcejcdnkncaa", sum := "cee3cec3a28852547e2c63eb68d4acc55a395f866c5ea18aa88c9d77efbd3140", func := "ravel/ravellaw06.ChainTells", spec := "chainTells", unfollowed := true, recurses := true, apart := false }
def ChainTellsSaid : Prop := chainTellsRow.holds Try.pinned (OpenSpec.ofChange chainTellsSpec)

/-- ITS FALSE NEIGHBOUR: 'it returns false'. Refute it at one input. -/
def chainTellsWrong : ChangeSpec := { name := "chainTells", fn := fun _ => fun
  | [d1, d2, d3, d4, d5, d6] => { results := [.lit (.bool false)], args := [d1, d2, d3, d4, d5, d6] }
  | _ => none }
def ChainTellsWrongFalsely : Prop := chainTellsRow.holds Try.pinned (OpenSpec.ofChange chainTellsWrong)

/-- 'ravellaw06.ChainQueues': WHATEVER THE INPUT: true; the input reads as it did. -/
def chainQueuesSpec : ChangeSpec := { name := "chainQueues", fn := fun _ => fun
  | [d1, d2, d3] => { results := [.lit (.bool true)], args := [d1, d2, d3] }
  | _ => none }
def chainQueuesRow : OpenClaim := { program := "ytlikcejcdnkncaa", sum := "cee3cec3a28852547e2c63eb68d4acc55a395f866c5ea18aa88c9d77efbd3140", func := "ravel/ravellaw06.ChainQueues", spec := "chainQueues", unfollowed := true, recurses := true, apart := false }
def ChainQueuesSaid : Prop := chainQueuesRow.holds Try.pinned (OpenSpec.ofChange chainQueuesSpec)

/-- ITS FALSE NEIGHBOUR: 'it returns false'. Refute it at one input. -/
def chainQueuesWrong : ChangeSpec := { name := "chainQueues", fn := fun _ => fun
  | [d1, d2, d3] => { results := [.lit (.bool false)], args := [d1, d2, d3] }
  | _ => none }
def ChainQueuesWrongFalsely : Prop := chainQueuesRow.holds Try.pinned (OpenSpec.ofChange chainQueuesWrong)

/-- 'ravellaw06.ChainBack': WHATEVER THE INPUT: true; the input reads as it did. -/
def chainBackSpec : ChangeSpec := { name := "chainBack", fn := fun _ => fun
  | [d1, d2, d3, d4] => { results := [.lit (.bool true)], args := [d1, d2, d3, d4] }
  | _ => none }
def chainBackRow : OpenClaim := { program := "ytlikcejcdnkncaa", sum := "cee3cec3a28852547e2c63eb68d4acc55a395f866c5ea18aa88c9d77efbd3140", func := "ravel/ravellaw06.ChainBack", spec := "chainBack", unfollowed := true, recurses := true, apart := false }
def ChainBackSaid : Prop := chainBackRow.holds Try.pinned (OpenSpec.ofChange chainBackSpec)

/-- ITS FALSE NEIGHBOUR: 'it returns false'. Refute it at one input. -/
def chainBackWrong : ChangeSpec := { name := "chainBack", fn := fun _ => fun
  | [d1, d2, d3, d4] => { results := [.lit (.bool false)], args := [d1, d2, d3, d4] }
  | _ => none }
def ChainBackWrongFalsely : Prop := chainBackRow.holds Try.pinned (OpenSpec.ofChange chainBackWrong)

/- THE SECOND FORM. 'bulk': how many values and letters a reading holds, each counted each time it is reached (what is shared counts as often as it is met; a slice's spare places count too). A statement '..UptoSaid' is the law's where the arguments, and the package variables that the reading takes, are together of bulk at most 1048576: NARROWER than '..Said'. Prove '..Said' where nothing that the law and all that it calls make is longer than what came in: it says more and counts as full. Else prove '..UptoSaid'. A law counts once. -/
mutual
def uptoBulk {H : Type} : DataW H → Nat
  | .lit (.string bytes) => bytes.length + 1
  | .lit _ => 1
  | .nil => 1
  | .ptr d => uptoBulk d + 1
  | .slice elems spare => uptoBulkAll elems + uptoBulkAll spare + 1
  | .agg parts => uptoBulkAll parts + 1
  | .iface _ d => uptoBulk d + 1
  | .map entries => uptoBulkEntries entries + 1
  | .held _ => 1
def uptoBulkAll {H : Type} : List (DataW H) → Nat
  | [] => 0
  | d :: r => uptoBulk d + uptoBulkAll r
def uptoBulkEntries {H : Type} : List (Lit × DataW H) → Nat
  | [] => 0
  | x :: r => uptoBulkEntry x + uptoBulkEntries r
def uptoBulkEntry {H : Type} : Lit × DataW H → Nat
  | (.string bytes, d) => bytes.length + uptoBulk d + 1
  | (_, d) => uptoBulk d + 1
 end
def uptoSmall : (H : Type) → List (DataW H) → Bool := fun _ ds => decide (uptoBulkAll ds ≤ 1048576)
def OpenSpec.upto (s : _root_.Go.ChangeSpec) : _root_.Go.OpenSpec := { _root_.Go.OpenSpec.ofChange s with cond := some uptoSmall }

/-- 'ravellaw06.ChainPops', WHERE WHAT IT READS IS OF BULK AT MOST 1048576: true; the input reads as it did. -/
def chainPopsUptoRow : OpenClaim := { program := "ytlikcejcdnkncaa", sum := "cee3cec3a28852547e2c63eb68d4acc55a395f866c5ea18aa88c9d77efbd3140", func := "ravel/ravellaw06.ChainPops", spec := "chainPops", unfollowed := true, recurses := true, apart := false, narrowed := true }
def ChainPopsUptoSaid : Prop := chainPopsUptoRow.holds Try.pinned (OpenSpec.upto chainPopsSpec)

/-- 'ravellaw06.ChainWhere', WHERE WHAT IT READS IS OF BULK AT MOST 1048576: true; the input reads as it did. -/
def chainWhereUptoRow : OpenClaim := { program := "ytlikcejcdnkncaa", sum := "cee3cec3a28852547e2c63eb68d4acc55a395f866c5ea18aa88c9d77efbd3140", func := "ravel/ravellaw06.ChainWhere", spec := "chainWhere", unfollowed := true, recurses := true, apart := false, narrowed := true }
def ChainWhereUptoSaid : Prop := chainWhereUptoRow.holds Try.pinned (OpenSpec.upto chainWhereSpec)

/-- 'ravellaw06.ChainMoves', WHERE WHAT IT READS IS OF BULK AT MOST 1048576: true; the input reads as it did. -/
def chainMovesUptoRow : OpenClaim := { program := "ytlikcejcdnkncaa", sum := "cee3cec3a28852547e2c63eb68d4acc55a395f866c5ea18aa88c9d77efbd3140", func := "ravel/ravellaw06.ChainMoves", spec := "chainMoves", unfollowed := true, recurses := true, apart := false, narrowed := true }
def ChainMovesUptoSaid : Prop := chainMovesUptoRow.holds Try.pinned (OpenSpec.upto chainMovesSpec)

/-- 'ravellaw06.ChainTells', WHERE WHAT IT READS IS OF BULK AT MOST 1048576: true; the input reads as it did. -/
def chainTellsUptoRow : OpenClaim := { program := "ytlikcejcdnkncaa", sum := "cee3cec3a28852547e2c63eb68d4acc55a395f866c5ea18aa88c9d77efbd3140", func := "ravel/ravellaw06.ChainTells", spec := "chainTells", unfollowed := true, recurses := true, apart := false, narrowed := true }
def ChainTellsUptoSaid : Prop := chainTellsUptoRow.holds Try.pinned (OpenSpec.upto chainTellsSpec)

/-- 'ravellaw06.ChainQueues', WHERE WHAT IT READS IS OF BULK AT MOST 1048576: true; the input reads as it did. -/
def chainQueuesUptoRow : OpenClaim := { program := "ytlikcejcdnkncaa", sum := "cee3cec3a28852547e2c63eb68d4acc55a395f866c5ea18aa88c9d77efbd3140", func := "ravel/ravellaw06.ChainQueues", spec := "chainQueues", unfollowed := true, recurses := true, apart := false, narrowed := true }
def ChainQueuesUptoSaid : Prop := chainQueuesUptoRow.holds Try.pinned (OpenSpec.upto chainQueuesSpec)

/-- 'ravellaw06.ChainBack', WHERE WHAT IT READS IS OF BULK AT MOST 1048576: true; the input reads as it did. -/
def chainBackUptoRow : OpenClaim := { program := "ytlikcejcdnkncaa", sum := "cee3cec3a28852547e2c63eb68d4acc55a395f866c5ea18aa88c9d77efbd3140", func := "ravel/ravellaw06.ChainBack", spec := "chainBack", unfollowed := true, recurses := true, apart := false, narrowed := true }
def ChainBackUptoSaid : Prop := chainBackUptoRow.holds Try.pinned (OpenSpec.upto chainBackSpec)

end Rows
end Go.Proofs.Ytlikcejcdnkncaa
