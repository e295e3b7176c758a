/-
  No cell of these rows narrows 'for every input' (looked for: loops, veiled, ifaces, maps, wideKeys, modest, calm, conditions, laid).
  DERIVED. THE GIVEN ROWS OF THIS SEAT. 6 by the template 'for every input the law returns true; each argument reads behind the call as it read before'; 0 by the template 'total and deterministic' (their statements: YtgfkefekdmfcpaaTotals.lean).
  GIVEN WITH THE SEED: the statements are not yours to turn. If you find one false, say at which input.
  Laid BY PROGRAM, IN A SANDBOX (cutbox-rows.mjs): the forced cells as the released guide's own fill.sh prints them over the translation e6aa1c922e77192b… (all of the seat's roots in one cut). By AI agents, Wed Nov 11 2026. No macro, syntax, notation, axiom, sorry.
-/
import Derived.Test.YtgfkefekdmfcpaaChecked
import GoSem.Claim
import GoSem.ClaimJoined
import GoSem.ClaimMapViews
import Derived.JoinedTies
import Derived.KernelRfl
namespace Go.Proofs.Ytgfkefekdmfcpaa
/- THE CELL 'sum', in the pinned program and in every row, IS THE sha256 OF THE DUMP (.gsa) THAT YtgfkefekdmfcpaaProg.lean LOADS. Nothing in Lean hashes anything: it is a label: what it is worth is what the hold of that sum in a sandbox is worth. -/
noncomputable def Try.pinned : Pinned := { name := "ytgfkefekdmfcpaa", sum := "e6aa1c922e77192bf0b7501bb16834d05741ba870ce9c550d687754fdc29aab3", checked := Try.checked }
namespace Rows
def none {H : Type} : Left H := { results := [], args := [] }

/-- 'ravellaw09.PollApart': WHATEVER THE INPUT: true; the input reads as it did. -/
def pollApartSpec : ChangeSpec := { name := "pollApart", fn := fun _ => fun
  | [d1, d2, d3] => { results := [.lit (.bool true)], args := [d1, d2, d3] }
  | _ => none }
def pollApartRow : OpenClaim := { program := "ytgfkefekdmfcpaa", sum := "e6aa1c922e77192bf0b7501bb16834d05741ba870ce9c550d687754fdc29aab3", func := "ravel/ravellaw09.PollApart", spec := "pollApart", unfollowed := true, recurses := true, apart := false }
def PollApartSaid : Prop := pollApartRow.holds Try.pinned (OpenSpec.ofChange pollApartSpec)

/-- ITS FALSE NEIGHBOUR: 'it returns false'. Refute it at one input. -/
def pollApartWrong : ChangeSpec := { name := "pollApart", fn := fun _ => fun
  | [d1, d2, d3] => { results := [.lit (.bool false)], args := [d1, d2, d3] }
  | _ => none }
def PollApartWrongFalsely : Prop := pollApartRow.holds Try.pinned (OpenSpec.ofChange pollApartWrong)

/-- 'ravellaw09.PollEdges': WHATEVER THE INPUT: true; the input reads as it did. -/
def pollEdgesSpec : ChangeSpec := { name := "pollEdges", fn := fun _ => fun
  | [d1, d2] => { results := [.lit (.bool true)], args := [d1, d2] }
  | _ => none }
def pollEdgesRow : OpenClaim := { program := "ytgfkefekdmfcpaa", sum := "e6aa1c922e77192bf0b7501bb16834d05741ba870ce9c550d687754fdc29aab3", func := "ravel/ravellaw09.PollEdges", spec := "pollEdges", unfollowed := true, recurses := true, apart := false }
def PollEdgesSaid : Prop := pollEdgesRow.holds Try.pinned (OpenSpec.ofChange pollEdgesSpec)

/-- ITS FALSE NEIGHBOUR: 'it returns false'. Refute it at one input. -/
def pollEdgesWrong : ChangeSpec := { name := "pollEdges", fn := fun _ => fun
  | [d1, d2] => { results := [.lit (.bool false)], args := [d1, d2] }
  | _ => none }
def PollEdgesWrongFalsely : Prop := pollEdgesRow.holds Try.pinned (OpenSpec.ofChange pollEdgesWrong)

/-- 'ravellaw09.PollDoes': WHATEVER THE INPUT: true; the input reads as it did. -/
def pollDoesSpec : ChangeSpec := { name := "pollDoes", fn := fun _ => fun
  | [d1, d2, d3] => { results := [.lit (.bool true)], args := [d1, d2, d3] }
  | _ => none }
def pollDoesRow : OpenClaim := { program := "ytgfkefekdmfcpaa", sum := "e6aa1c922e77192bf0b7501bb16834d05741ba870ce9c550d687754fdc29aab3", func := "ravel/ravellaw09.PollDoes", spec := "pollDoes", unfollowed := true, recurses := true, apart := false }
def PollDoesSaid : Prop := pollDoesRow.holds Try.pinned (OpenSpec.ofChange pollDoesSpec)

/-- ITS FALSE NEIGHBOUR: 'it returns false'. Refute it at one input. -/
def pollDoesWrong : ChangeSpec := { name := "pollDoes", fn := fun _ => fun
  | [d1, d2, d3] => { results := [.lit (.bool false)], args := [d1, d2, d3] }
  | _ => none }
def PollDoesWrongFalsely : Prop := pollDoesRow.holds Try.pinned (OpenSpec.ofChange pollDoesWrong)

/-- 'ravellaw09.PollTells': WHATEVER THE INPUT: true; the input reads as it did. -/
def pollTellsSpec : ChangeSpec := { name := "pollTells", fn := fun _ => fun
  | [d1, d2, d3] => { results := [.lit (.bool true)], args := [d1, d2, d3] }
  | _ => none }
def pollTellsRow : OpenClaim := { program := "ytgfkefekdmfcpaa", sum := "e6aa1c922e77192bf0b7501bb16834d05741ba870ce9c550d687754fdc29aab3", func := "ravel/ravellaw09.PollTells", spec := "pollTells", unfollowed := true, recurses := true, apart := false }
def PollTellsSaid : Prop := pollTellsRow.holds Try.pinned (OpenSpec.ofChange pollTellsSpec)

/-- ITS FALSE NEIGHBOUR: 'it returns false'. Refute it at one input. -/
def pollTellsWrong : ChangeSpec := { name := "pollTells", fn := fun _ => fun
  | [d1, d2, d3] => { results := [.lit (.bool false)], args := [d1, d2, d3] }
  | _ => none }
def PollTellsWrongFalsely : Prop := pollTellsRow.holds Try.pinned (OpenSpec.ofChange pollTellsWrong)

/-- 'ravellaw09.PollWaits': WHATEVER THE INPUT: true; the input reads as it did. -/
def pollWaitsSpec : ChangeSpec := { name := "pollWaits", fn := fun _ => fun
  | [d] => { results := [.lit (.bool true)], args := [d] }
  | _ => none }
def pollWaitsRow : OpenClaim := { program := "ytgfkefekdmfcpaa", sum := "e6aa1c922e77192bf0b7501bb16834d05741ba870ce9c550d687754fdc29aab3", func := "ravel/ravellaw09.PollWaits", spec := "pollWaits", unfollowed := true, recurses := true, apart := false }
def PollWaitsSaid : Prop := pollWaitsRow.holds Try.pinned (OpenSpec.ofChange pollWaitsSpec)

/-- ITS FALSE NEIGHBOUR: 'it returns false'. Refute it at one input. -/
def pollWaitsWrong : ChangeSpec := { name := "pollWaits", fn := fun _ => fun
  | [d] => { results := [.lit (.bool false)], args := [d] }
  | _ => none }
def PollWaitsWrongFalsely : Prop := pollWaitsRow.holds Try.pinned (OpenSpec.ofChange pollWaitsWrong)

/-- 'ravellaw09.PollBack': WHATEVER THE INPUT: true; the input reads as it did. -/
def pollBackSpec : ChangeSpec := { name := "pollBack", fn := fun _ => fun
  | [d1, d2, d3] => { results := [.lit (.bool true)], args := [d1, d2, d3] }
  | _ => none }
def pollBackRow : OpenClaim := { program := "ytgfkefekdmfcpaa", sum := "e6aa1c922e77192bf0b7501bb16834d05741ba870ce9c550d687754fdc29aab3", func := "ravel/ravellaw09.PollBack", spec := "pollBack", unfollowed := true, recurses := true, apart := false }
def PollBackSaid : Prop := pollBackRow.holds Try.pinned (OpenSpec.ofChange pollBackSpec)

/-- ITS FALSE NEIGHBOUR: 'it returns false'. Refute it at one input. -/
def pollBackWrong : ChangeSpec := { name := "pollBack", fn := fun _ => fun
  | [d1, d2, d3] => { results := [.lit (.bool false)], args := [d1, d2, d3] }
  | _ => none }
def PollBackWrongFalsely : Prop := pollBackRow.holds Try.pinned (OpenSpec.ofChange pollBackWrong)

/- THE SECOND FORM. 'bulk': how many values and letters a reading holds, each counted each time it is reached (what is shared counts as often as it is met; a slice's spare places count too). A statement '..UptoSaid' is the law's where the arguments, and the package variables that the reading takes, are together of bulk at most 1048576: NARROWER than '..Said'. Prove '..Said' where nothing that the law and all that it calls make is longer than what came in: it says more and counts as full. Else prove '..UptoSaid'. A law counts once. -/
mutual
def uptoBulk {H : Type} : DataW H → Nat
  | .lit (.string bytes) => bytes.length + 1
  | .lit _ => 1
  | .nil => 1
  | .ptr d => uptoBulk d + 1
  | .slice elems spare => uptoBulkAll elems + uptoBulkAll spare + 1
  | .agg parts => uptoBulkAll parts + 1
  | .iface _ d => uptoBulk d + 1
  | .map entries => uptoBulkEntries entries + 1
  | .held _ => 1
def uptoBulkAll {H : Type} : List (DataW H) → Nat
  | [] => 0
  | d :: r => uptoBulk d + uptoBulkAll r
def uptoBulkEntries {H : Type} : List (Lit × DataW H) → Nat
  | [] => 0
  | x :: r => uptoBulkEntry x + uptoBulkEntries r
def uptoBulkEntry {H : Type} : Lit × DataW H → Nat
  | (.string bytes, d) => bytes.length + uptoBulk d + 1
  | (_, d) => uptoBulk d + 1
 end
def uptoSmall : (H : Type) → List (DataW H) → Bool := fun _ ds => decide (uptoBulkAll ds ≤ 1048576)
def OpenSpec.upto (s : _root_.Go.ChangeSpec) : _root_.Go.OpenSpec := { _root_.Go.OpenSpec.ofChange s with cond := some uptoSmall }

/-- 'ravellaw09.PollApart', WHERE WHAT IT READS IS OF BULK AT MOST 1048576: true; the input reads as it did. -/
def pollApartUptoRow : OpenClaim := { program := "ytgfkefekdmfcpaa", sum := "e6aa1c922e77192bf0b7501bb16834d05741ba870ce9c550d687754fdc29aab3", func := "ravel/ravellaw09.PollApart", spec := "pollApart", unfollowed := true, recurses := true, apart := false, narrowed := true }
def PollApartUptoSaid : Prop := pollApartUptoRow.holds Try.pinned (OpenSpec.upto pollApartSpec)

/-- 'ravellaw09.PollEdges', WHERE WHAT IT READS IS OF BULK AT MOST 1048576: true; the input reads as it did. -/
def pollEdgesUptoRow : OpenClaim := { program := "ytgfkefekdmfcpaa", sum := "e6aa1c922e77192bf0b7501bb16834d05741ba870ce9c550d687754fdc29aab3", func := "ravel/ravellaw09.PollEdges", spec := "pollEdges", unfollowed := true, recurses := true, apart := false, narrowed := true }
def PollEdgesUptoSaid : Prop := pollEdgesUptoRow.holds Try.pinned (OpenSpec.upto pollEdgesSpec)

/-- 'ravellaw09.PollDoes', WHERE WHAT IT READS IS OF BULK AT MOST 1048576: true; the input reads as it did. -/
def pollDoesUptoRow : OpenClaim := { program := "ytgfkefekdmfcpaa", sum := "e6aa1c922e77192bf0b7501bb16834d05741ba870ce9c550d687754fdc29aab3", func := "ravel/ravellaw09.PollDoes", spec := "pollDoes", unfollowed := true, recurses := true, apart := false, narrowed := true }
def PollDoesUptoSaid : Prop := pollDoesUptoRow.holds Try.pinned (OpenSpec.upto pollDoesSpec)

/-- 'ravellaw09.PollTells', WHERE WHAT IT READS IS OF BULK AT MOST 1048576: true; the input reads as it did. -/
def pollTellsUptoRow : OpenClaim := { program := "ytgfkefekdmfcpaa", sum := "e6aa1c922e77192bf0b7501bb16834d05741ba870ce9c550d687754fdc29aab3", func := "ravel/ravellaw09.PollTells", spec := "pollTells", unfollowed := true, recurses := true, apart := false, narrowed := true }
def PollTellsUptoSaid : Prop := pollTellsUptoRow.holds Try.pinned (OpenSpec.upto pollTellsSpec)

/-- 'ravellaw09.PollWaits', WHERE WHAT IT READS IS OF BULK AT MOST 1048576: true; the input reads as it did. -/
def pollWaitsUptoRow : OpenClaim := { program := "ytgfkefekdmfcpaa", sum := "e6aa1c922e77192bf0b7501bb16834d05741ba870ce9c550d687754fdc29aab3", func := "ravel/ravellaw09.PollWaits", spec := "pollWaits", unfollowed := true, recurses := true, apart := false, narrowed := true }
def PollWaitsUptoSaid : Prop := pollWaitsUptoRow.holds Try.pinned (OpenSpec.upto pollWaitsSpec)

/-- 'ravellaw09.PollBack', WHERE WHAT IT READS IS OF BULK AT MOST 1048576: true; the input reads as it did. -/
def pollBackUptoRow : OpenClaim := { program := "ytgfkefekdmfcpaa", sum := "e6aa1c922e77192bf0b7501bb16834d05741ba870ce9c550d687754fdc29aab3", func := "ravel/ravellaw09.PollBack", spec := "pollBack", unfollowed := true, recurses := true, apart := false, narrowed := true }
def PollBackUptoSaid : Prop := pollBackUptoRow.holds Try.pinned (OpenSpec.upto pollBackSpec)

end Rows
end Go.Proofs.Ytgfkefekdmfcpaa
