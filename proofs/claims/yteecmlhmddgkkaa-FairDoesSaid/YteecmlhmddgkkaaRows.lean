/-
  No cell of these rows narrows 'for every input' (looked for: loops, veiled, ifaces, maps, wideKeys, modest, calm, conditions, laid).
  DERIVED. THE GIVEN ROWS OF THIS SEAT. 5 by the template 'for every input the law returns true; each argument reads behind the call as it read before'; 0 by the template 'total and deterministic' (their statements: YteecmlhmddgkkaaTotals.lean).
  GIVEN WITH THE SEED: the statements are not yours to turn. If you find one false, say at which input.
  Laid BY PROGRAM, IN A SANDBOX (cutbox-rows.mjs): the forced cells as the released guide's own fill.sh prints them over the translation d26ed33820b2af9f… (all of the seat's roots in one cut). By AI agents, Wed Nov 11 2026. No macro, syntax, notation, axiom, sorry.
-/
import Derived.Test.YteecmlhmddgkkaaChecked
import GoSem.Claim
import GoSem.ClaimJoined
import GoSem.ClaimMapViews
import Derived.JoinedTies
import Derived.KernelRfl
namespace Go.Proofs.Yteecmlhmddgkkaa
/- THE CELL 'sum', in the pinned program and in every row, IS THE sha256 OF THE DUMP (.gsa) THAT YteecmlhmddgkkaaProg.lean LOADS. Nothing in Lean hashes anything: it is a label: what it is worth is what the hold of that sum in a sandbox is worth. -/
noncomputable def Try.pinned : Pinned := { name := "yteecmlhmddgkkaa", sum := "d26ed33820b2af9f5f18d4da4d939e2f038804554db1d7aff73284a0c1434043", checked := Try.checked }
namespace Rows
def none {H : Type} : Left H := { results := [], args := [] }

/-- 'ravellaw15.FairTurns': WHATEVER THE INPUT: true; the input reads as it did. -/
def fairTurnsSpec : ChangeSpec := { name := "fairTurns", fn := fun _ => fun
  | [d1, d2, d3] => { results := [.lit (.bool true)], args := [d1, d2, d3] }
  | _ => none }
def fairTurnsRow : OpenClaim := { program := "yteecmlhmddgkkaa", sum := "d26ed33820b2af9f5f18d4da4d939e2f038804554db1d7aff73284a0c1434043", func := "ravel/ravellaw15.FairTurns", spec := "fairTurns", unfollowed := true, recurses := true, apart := false }
def FairTurnsSaid : Prop := fairTurnsRow.holds Try.pinned (OpenSpec.ofChange fairTurnsSpec)

/-- ITS FALSE NEIGHBOUR: 'it returns false'. Refute it at one input. -/
def fairTurnsWrong : ChangeSpec := { name := "fairTurns", fn := fun _ => fun
  | [d1, d2, d3] => { results := [.lit (.bool false)], args := [d1, d2, d3] }
  | _ => none }
def FairTurnsWrongFalsely : Prop := fairTurnsRow.holds Try.pinned (OpenSpec.ofChange fairTurnsWrong)

/-- 'ravellaw15.FairAlone': WHATEVER THE INPUT: true; the input reads as it did. -/
def fairAloneSpec : ChangeSpec := { name := "fairAlone", fn := fun _ => fun
  | [d1, d2, d3, d4] => { results := [.lit (.bool true)], args := [d1, d2, d3, d4] }
  | _ => none }
def fairAloneRow : OpenClaim := { program := "yteecmlhmddgkkaa", sum := "d26ed33820b2af9f5f18d4da4d939e2f038804554db1d7aff73284a0c1434043", func := "ravel/ravellaw15.FairAlone", spec := "fairAlone", unfollowed := true, recurses := true, apart := false }
def FairAloneSaid : Prop := fairAloneRow.holds Try.pinned (OpenSpec.ofChange fairAloneSpec)

/-- ITS FALSE NEIGHBOUR: 'it returns false'. Refute it at one input. -/
def fairAloneWrong : ChangeSpec := { name := "fairAlone", fn := fun _ => fun
  | [d1, d2, d3, d4] => { results := [.lit (.bool false)], args := [d1, d2, d3, d4] }
  | _ => none }
def FairAloneWrongFalsely : Prop := fairAloneRow.holds Try.pinned (OpenSpec.ofChange fairAloneWrong)

/-- 'ravellaw15.FairWakes': WHATEVER THE INPUT: true; the input reads as it did. -/
def fairWakesSpec : ChangeSpec := { name := "fairWakes", fn := fun _ => fun
  | [d1, d2, d3] => { results := [.lit (.bool true)], args := [d1, d2, d3] }
  | _ => none }
def fairWakesRow : OpenClaim := { program := "yteecmlhmddgkkaa", sum := "d26ed33820b2af9f5f18d4da4d939e2f038804554db1d7aff73284a0c1434043", func := "ravel/ravellaw15.FairWakes", spec := "fairWakes", unfollowed := true, recurses := true, apart := false }
def FairWakesSaid : Prop := fairWakesRow.holds Try.pinned (OpenSpec.ofChange fairWakesSpec)

/-- ITS FALSE NEIGHBOUR: 'it returns false'. Refute it at one input. -/
def fairWakesWrong : ChangeSpec := { name := "fairWakes", fn := fun _ => fun
  | [d1, d2, d3] => { results := [.lit (.bool false)], args := [d1, d2, d3] }
  | _ => none }
def FairWakesWrongFalsely : Prop := fairWakesRow.holds Try.pinned (OpenSpec.ofChange fairWakesWrong)

/-- 'ravellaw15.FairBack': WHATEVER THE INPUT: true; the input reads as it did. -/
def fairBackSpec : ChangeSpec := { name := "fairBack", fn := fun _ => fun
  | [d1, d2, d3, d4] => { results := [.lit (.bool true)], args := [d1, d2, d3, d4] }
  | _ => none }
def fairBackRow : OpenClaim := { program := "yteecmlhmddgkkaa", sum := "d26ed33820b2af9f5f18d4da4d939e2f038804554db1d7aff73284a0c1434043", func := "ravel/ravellaw15.FairBack", spec := "fairBack", unfollowed := true, recurses := true, apart := false }
def FairBackSaid : Prop := fairBackRow.holds Try.pinned (OpenSpec.ofChange fairBackSpec)

/-- ITS FALSE NEIGHBOUR: 'it returns false'. Refute it at one input. -/
def fairBackWrong : ChangeSpec := { name := "fairBack", fn := fun _ => fun
  | [d1, d2, d3, d4] => { results := [.lit (.bool false)], args := [d1, d2, d3, d4] }
  | _ => none }
def FairBackWrongFalsely : Prop := fairBackRow.holds Try.pinned (OpenSpec.ofChange fairBackWrong)

/-- 'ravellaw15.FairDoes': WHATEVER THE INPUT: true; the input reads as it did. -/
def fairDoesSpec : ChangeSpec := { name := "fairDoes", fn := fun _ => fun
  | [d1, d2, d3, d4, d5, d6] => { results := [.lit (.bool true)], args := [d1, d2, d3, d4, d5, d6] }
  | _ => none }
def fairDoesRow : OpenClaim := { program := "yteecmlhmddgkkaa", sum := "d26ed33820b2af9f5f18d4da4d939e2f038804554db1d7aff73284a0c1434043", func := "ravel/ravellaw15.FairDoes", spec := "fairDoes", unfollowed := true, recurses := true, apart := false }
def FairDoesSaid : Prop := fairDoesRow.holds Try.pinned (OpenSpec.ofChange fairDoesSpec)

/-- ITS FALSE NEIGHBOUR: 'it returns false'. Refute it at one input. -/
def fairDoesWrong : ChangeSpec := { name := "fairDoes", fn := fun _ => fun
  | [d1, d2, d3, d4, d5, d6] => { results := [.lit (.bool false)], args := [d1, d2, d3, d4, d5, d6] }
  | _ => none }
def FairDoesWrongFalsely : Prop := fairDoesRow.holds Try.pinned (OpenSpec.ofChange fairDoesWrong)

/- THE SECOND FORM. 'bulk': how many values and letters a reading holds, each counted each time it is reached (what is shared counts as often as it is met; a slice's spare places count too). A statement '..UptoSaid' is the law's where the arguments, and the package variables that the reading takes, are together of bulk at most 1048576: NARROWER than '..Said'. Prove '..Said' where nothing that the law and all that it calls make is longer than what came in: it says more and counts as full. Else prove '..UptoSaid'. A law counts once. -/
mutual
def uptoBulk {H : Type} : DataW H → Nat
  | .lit (.string bytes) => bytes.length + 1
  | .lit _ => 1
  | .nil => 1
  | .ptr d => uptoBulk d + 1
  | .slice elems spare => uptoBulkAll elems + uptoBulkAll spare + 1
  | .agg parts => uptoBulkAll parts + 1
  | .iface _ d => uptoBulk d + 1
  | .map entries => uptoBulkEntries entries + 1
  | .held _ => 1
def uptoBulkAll {H : Type} : List (DataW H) → Nat
  | [] => 0
  | d :: r => uptoBulk d + uptoBulkAll r
def uptoBulkEntries {H : Type} : List (Lit × DataW H) → Nat
  | [] => 0
  | x :: r => uptoBulkEntry x + uptoBulkEntries r
def uptoBulkEntry {H : Type} : Lit × DataW H → Nat
  | (.string bytes, d) => bytes.length + uptoBulk d + 1
  | (_, d) => uptoBulk d + 1
 end
def uptoSmall : (H : Type) → List (DataW H) → Bool := fun _ ds => decide (uptoBulkAll ds ≤ 1048576)
def OpenSpec.upto (s : _root_.Go.ChangeSpec) : _root_.Go.OpenSpec := { _root_.Go.OpenSpec.ofChange s with cond := some uptoSmall }

/-- 'ravellaw15.FairTurns', WHERE WHAT IT READS IS OF BULK AT MOST 1048576: true; the input reads as it did. -/
def fairTurnsUptoRow : OpenClaim := { program := "yteecmlhmddgkkaa", sum := "d26ed33820b2af9f5f18d4da4d939e2f038804554db1d7aff73284a0c1434043", func := "ravel/ravellaw15.FairTurns", spec := "fairTurns", unfollowed := true, recurses := true, apart := false, narrowed := true }
def FairTurnsUptoSaid : Prop := fairTurnsUptoRow.holds Try.pinned (OpenSpec.upto fairTurnsSpec)

/-- 'ravellaw15.FairAlone', WHERE WHAT IT READS IS OF BULK AT MOST 1048576: true; the input reads as it did. -/
def fairAloneUptoRow : OpenClaim := { program := "yteecmlhmddgkkaa", sum := "d26ed33820b2af9f5f18d4da4d939e2f038804554db1d7aff73284a0c1434043", func := "ravel/ravellaw15.FairAlone", spec := "fairAlone", unfollowed := true, recurses := true, apart := false, narrowed := true }
def FairAloneUptoSaid : Prop := fairAloneUptoRow.holds Try.pinned (OpenSpec.upto fairAloneSpec)

/-- 'ravellaw15.FairWakes', WHERE WHAT IT READS IS OF BULK AT MOST 1048576: true; the input reads as it did. -/
def fairWakesUptoRow : OpenClaim := { program := "yteecmlhmddgkkaa", sum := "d26ed33820b2af9f5f18d4da4d939e2f038804554db1d7aff73284a0c1434043", func := "ravel/ravellaw15.FairWakes", spec := "fairWakes", unfollowed := true, recurses := true, apart := false, narrowed := true }
def FairWakesUptoSaid : Prop := fairWakesUptoRow.holds Try.pinned (OpenSpec.upto fairWakesSpec)

/-- 'ravellaw15.FairBack', WHERE WHAT IT READS IS OF BULK AT MOST 1048576: true; the input reads as it did. -/
def fairBackUptoRow : OpenClaim := { program := "yteecmlhmddgkkaa", sum := "d26ed33820b2af9f5f18d4da4d939e2f038804554db1d7aff73284a0c1434043", func := "ravel/ravellaw15.FairBack", spec := "fairBack", unfollowed := true, recurses := true, apart := false, narrowed := true }
def FairBackUptoSaid : Prop := fairBackUptoRow.holds Try.pinned (OpenSpec.upto fairBackSpec)

/-- 'ravellaw15.FairDoes', WHERE WHAT IT READS IS OF BULK AT MOST 1048576: true; the input reads as it did. -/
def fairDoesUptoRow : OpenClaim := { program := "yteecmlhmddgkkaa", sum := "d26ed33820b2af9f5f18d4da4d939e2f038804554db1d7aff73284a0c1434043", func := "ravel/ravellaw15.FairDoes", spec := "fairDoes", unfollowed := true, recurses := true, apart := false, narrowed := true }
def FairDoesUptoSaid : Prop := fairDoesUptoRow.holds Try.pinned (OpenSpec.upto fairDoesSpec)

end Rows
end Go.Proofs.Yteecmlhmddgkkaa
