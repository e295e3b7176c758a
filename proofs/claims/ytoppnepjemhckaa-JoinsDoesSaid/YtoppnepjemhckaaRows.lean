/-
  No cell of these rows narrows 'for every input' (looked for: loops, veiled, ifaces, maps, wideKeys, modest, calm, conditions, laid).
  DERIVED. THE GIVEN ROWS OF THIS SEAT. 5 by the template 'for every input the law returns true; each argument reads behind the call as it read before'; 0 by the template 'total and deterministic' (their statements: YtoppnepjemhckaaTotals.lean).
  GIVEN WITH THE SEED: the statements are not yours to turn. If you find one false, say at which input.
  Laid BY PROGRAM, IN A SANDBOX (cutbox-rows.mjs): the forced cells as the released guide's own fill.sh prints them over the translation 349fbced4c2b1af8… (all of the seat's roots in one cut). By AI agents, Wed Nov 11 2026. No macro, syntax, notation, axiom, sorry.
-/
import Derived.Test.YtoppnepjemhckaaChecked
import GoSem.Claim
import GoSem.ClaimJoined
import GoSem.ClaimMapViews
import Derived.JoinedTies
import Derived.KernelRfl
namespace Go.Proofs.Ytoppnepjemhckaa
/- THE CELL 'sum', in the pinned program and in every row, IS THE sha256 OF THE DUMP (.gsa) THAT YtoppnepjemhckaaProg.lean LOADS. Nothing in Lean hashes anything: it is a label: what it is worth is what the hold of that sum in a sandbox is worth. -/
noncomputable def Try.pinned : Pinned := { name := "ytoppnepjemhckaa", sum := "349fbced4c2b1af80269eab6f668921d01af80e968db18a6fdf4b0563a70eda4", checked := Try.checked }
namespace Rows
def none {H : Type} : Left H := { results := [], args := [] }

/-- 'ravellaw11.JoinsRing': WHATEVER THE INPUT: true; the input reads as it did. -/
def joinsRingSpec : ChangeSpec := { name := "joinsRing", fn := fun _ => fun
  | [d1, d2, d3] => { results := [.lit (.bool true)], args := [d1, d2, d3] }
  | _ => none }
def joinsRingRow : OpenClaim := { program := "ytoppnepjemhckaa", sum := "349fbced4c2b1af80269eab6f668921d01af80e968db18a6fdf4b0563a70eda4", func := "ravel/ravellaw11.JoinsRing", spec := "joinsRing", unfollowed := true, recurses := true, apart := false }
def JoinsRingSaid : Prop := joinsRingRow.holds Try.pinned (OpenSpec.ofChange joinsRingSpec)

/-- ITS FALSE NEIGHBOUR: 'it returns false'. Refute it at one input. -/
def joinsRingWrong : ChangeSpec := { name := "joinsRing", fn := fun _ => fun
  | [d1, d2, d3] => { results := [.lit (.bool false)], args := [d1, d2, d3] }
  | _ => none }
def JoinsRingWrongFalsely : Prop := joinsRingRow.holds Try.pinned (OpenSpec.ofChange joinsRingWrong)

/-- 'ravellaw11.JoinsOnce': WHATEVER THE INPUT: true; the input reads as it did. -/
def joinsOnceSpec : ChangeSpec := { name := "joinsOnce", fn := fun _ => fun
  | [d1, d2] => { results := [.lit (.bool true)], args := [d1, d2] }
  | _ => none }
def joinsOnceRow : OpenClaim := { program := "ytoppnepjemhckaa", sum := "349fbced4c2b1af80269eab6f668921d01af80e968db18a6fdf4b0563a70eda4", func := "ravel/ravellaw11.JoinsOnce", spec := "joinsOnce", unfollowed := true, recurses := true, apart := false }
def JoinsOnceSaid : Prop := joinsOnceRow.holds Try.pinned (OpenSpec.ofChange joinsOnceSpec)

/-- ITS FALSE NEIGHBOUR: 'it returns false'. Refute it at one input. -/
def joinsOnceWrong : ChangeSpec := { name := "joinsOnce", fn := fun _ => fun
  | [d1, d2] => { results := [.lit (.bool false)], args := [d1, d2] }
  | _ => none }
def JoinsOnceWrongFalsely : Prop := joinsOnceRow.holds Try.pinned (OpenSpec.ofChange joinsOnceWrong)

/-- 'ravellaw11.JoinsBack': WHATEVER THE INPUT: true; the input reads as it did. -/
def joinsBackSpec : ChangeSpec := { name := "joinsBack", fn := fun _ => fun
  | [d1, d2, d3] => { results := [.lit (.bool true)], args := [d1, d2, d3] }
  | _ => none }
def joinsBackRow : OpenClaim := { program := "ytoppnepjemhckaa", sum := "349fbced4c2b1af80269eab6f668921d01af80e968db18a6fdf4b0563a70eda4", func := "ravel/ravellaw11.JoinsBack", spec := "joinsBack", unfollowed := true, recurses := true, apart := false }
def JoinsBackSaid : Prop := joinsBackRow.holds Try.pinned (OpenSpec.ofChange joinsBackSpec)

/-- ITS FALSE NEIGHBOUR: 'it returns false'. Refute it at one input. -/
def joinsBackWrong : ChangeSpec := { name := "joinsBack", fn := fun _ => fun
  | [d1, d2, d3] => { results := [.lit (.bool false)], args := [d1, d2, d3] }
  | _ => none }
def JoinsBackWrongFalsely : Prop := joinsBackRow.holds Try.pinned (OpenSpec.ofChange joinsBackWrong)

/-- 'ravellaw11.JoinsFree': WHATEVER THE INPUT: true; the input reads as it did. -/
def joinsFreeSpec : ChangeSpec := { name := "joinsFree", fn := fun _ => fun
  | [d] => { results := [.lit (.bool true)], args := [d] }
  | _ => none }
def joinsFreeRow : OpenClaim := { program := "ytoppnepjemhckaa", sum := "349fbced4c2b1af80269eab6f668921d01af80e968db18a6fdf4b0563a70eda4", func := "ravel/ravellaw11.JoinsFree", spec := "joinsFree", unfollowed := true, recurses := true, apart := false }
def JoinsFreeSaid : Prop := joinsFreeRow.holds Try.pinned (OpenSpec.ofChange joinsFreeSpec)

/-- ITS FALSE NEIGHBOUR: 'it returns false'. Refute it at one input. -/
def joinsFreeWrong : ChangeSpec := { name := "joinsFree", fn := fun _ => fun
  | [d] => { results := [.lit (.bool false)], args := [d] }
  | _ => none }
def JoinsFreeWrongFalsely : Prop := joinsFreeRow.holds Try.pinned (OpenSpec.ofChange joinsFreeWrong)

/-- 'ravellaw11.JoinsDoes': WHATEVER THE INPUT: true; the input reads as it did. -/
def joinsDoesSpec : ChangeSpec := { name := "joinsDoes", fn := fun _ => fun
  | [d1, d2, d3, d4] => { results := [.lit (.bool true)], args := [d1, d2, d3, d4] }
  | _ => none }
def joinsDoesRow : OpenClaim := { program := "ytoppnepjemhckaa", sum := "349fbced4c2b1af80269eab6f668921d01af80e968db18a6fdf4b0563a70eda4", func := "ravel/ravellaw11.JoinsDoes", spec := "joinsDoes", unfollowed := true, recurses := true, apart := false }
def JoinsDoesSaid : Prop := joinsDoesRow.holds Try.pinned (OpenSpec.ofChange joinsDoesSpec)

/-- ITS FALSE NEIGHBOUR: 'it returns false'. Refute it at one input. -/
def joinsDoesWrong : ChangeSpec := { name := "joinsDoes", fn := fun _ => fun
  | [d1, d2, d3, d4] => { results := [.lit (.bool false)], args := [d1, d2, d3, d4] }
  | _ => none }
def JoinsDoesWrongFalsely : Prop := joinsDoesRow.holds Try.pinned (OpenSpec.ofChange joinsDoesWrong)

/- THE SECOND FORM. 'bulk': how many values and letters a reading holds, each counted each time it is reached (what is shared counts as often as it is met; a slice's spare places count too). A statement '..UptoSaid' is the law's where the arguments, and the package variables that the reading takes, are together of bulk at most 1048576: NARROWER than '..Said'. Prove '..Said' where nothing that the law and all that it calls make is longer than what came in: it says more and counts as full. Else prove '..UptoSaid'. A law counts once. -/
mutual
def uptoBulk {H : Type} : DataW H → Nat
  | .lit (.string bytes) => bytes.length + 1
  | .lit _ => 1
  | .nil => 1
  | .ptr d => uptoBulk d + 1
  | .slice elems spare => uptoBulkAll elems + uptoBulkAll spare + 1
  | .agg parts => uptoBulkAll parts + 1
  | .iface _ d => uptoBulk d + 1
  | .map entries => uptoBulkEntries entries + 1
  | .held _ => 1
def uptoBulkAll {H : Type} : List (DataW H) → Nat
  | [] => 0
  | d :: r => uptoBulk d + uptoBulkAll r
def uptoBulkEntries {H : Type} : List (Lit × DataW H) → Nat
  | [] => 0
  | x :: r => uptoBulkEntry x + uptoBulkEntries r
def uptoBulkEntry {H : Type} : Lit × DataW H → Nat
  | (.string bytes, d) => bytes.length + uptoBulk d + 1
  | (_, d) => uptoBulk d + 1
 end
def uptoSmall : (H : Type) → List (DataW H) → Bool := fun _ ds => decide (uptoBulkAll ds ≤ 1048576)
def OpenSpec.upto (s : _root_.Go.ChangeSpec) : _root_.Go.OpenSpec := { _root_.Go.OpenSpec.ofChange s with cond := some uptoSmall }

/-- 'ravellaw11.JoinsRing', WHERE WHAT IT READS IS OF BULK AT MOST 1048576: true; the input reads as it did. -/
def joinsRingUptoRow : OpenClaim := { program := "ytoppnepjemhckaa", sum := "349fbced4c2b1af80269eab6f668921d01af80e968db18a6fdf4b0563a70eda4", func := "ravel/ravellaw11.JoinsRing", spec := "joinsRing", unfollowed := true, recurses := true, apart := false, narrowed := true }
def JoinsRingUptoSaid : Prop := joinsRingUptoRow.holds Try.pinned (OpenSpec.upto joinsRingSpec)

/-- 'ravellaw11.JoinsOnce', WHERE WHAT IT READS IS OF BULK AT MOST 1048576: true; the input reads as it did. -/
def joinsOnceUptoRow : OpenClaim := { program := "ytoppnepjemhckaa", sum := "349fbced4c2b1af80269eab6f668921d01af80e968db18a6fdf4b0563a70eda4", func := "ravel/ravellaw11.JoinsOnce", spec := "joinsOnce", unfollowed := true, recurses := true, apart := false, narrowed := true }
def JoinsOnceUptoSaid : Prop := joinsOnceUptoRow.holds Try.pinned (OpenSpec.upto joinsOnceSpec)

/-- 'ravellaw11.JoinsBack', WHERE WHAT IT READS IS OF BULK AT MOST 1048576: true; the input reads as it did. -/
def joinsBackUptoRow : OpenClaim := { program := "ytoppnepjemhckaa", sum := "349fbced4c2b1af80269eab6f668921d01af80e968db18a6fdf4b0563a70eda4", func := "ravel/ravellaw11.JoinsBack", spec := "joinsBack", unfollowed := true, recurses := true, apart := false, narrowed := true }
def JoinsBackUptoSaid : Prop := joinsBackUptoRow.holds Try.pinned (OpenSpec.upto joinsBackSpec)

/-- 'ravellaw11.JoinsFree', WHERE WHAT IT READS IS OF BULK AT MOST 1048576: true; the input reads as it did. -/
def joinsFreeUptoRow : OpenClaim := { program := "ytoppnepjemhckaa", sum := "349fbced4c2b1af80269eab6f668921d01af80e968db18a6fdf4b0563a70eda4", func := "ravel/ravellaw11.JoinsFree", spec := "joinsFree", unfollowed := true, recurses := true, apart := false, narrowed := true }
def JoinsFreeUptoSaid : Prop := joinsFreeUptoRow.holds Try.pinned (OpenSpec.upto joinsFreeSpec)

/-- 'ravellaw11.JoinsDoes', WHERE WHAT IT READS IS OF BULK AT MOST 1048576: true; the input reads as it did. -/
def joinsDoesUptoRow : OpenClaim := { program := "ytoppnepjemhckaa", sum := "349fbced4c2b1af80269eab6f668921d01af80e968db18a6fdf4b0563a70eda4", func := "ravel/ravellaw11.JoinsDoes", spec := "joinsDoes", unfollowed := true, recurses := true, apart := false, narrowed := true }
def JoinsDoesUptoSaid : Prop := joinsDoesUptoRow.holds Try.pinned (OpenSpec.upto joinsDoesSpec)

end Rows
end Go.Proofs.Ytoppnepjemhckaa
