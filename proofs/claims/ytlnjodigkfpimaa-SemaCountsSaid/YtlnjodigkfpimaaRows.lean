/-
  No cell of these rows narrows 'for every input' (looked for: loops, veiled, ifaces, maps, wideKeys, modest, calm, conditions, laid).
  DERIVED. THE GIVEN ROWS OF THIS SEAT. 5 by the template 'for every input the law returns true; each argument reads behind the call as it read before'; 0 by the template 'total and deterministic' (their statements: YtlnjodigkfpimaaTotals.lean).
  GIVEN WITH THE SEED: the statements are not yours to turn. If you find one false, say at which input.
  Laid BY PROGRAM, IN A SANDBOX (cutbox-rows.mjs): the forced cells as the released guide's own fill.sh prints them over the translation 213b72c04a73b266… (all of the seat's roots in one cut). By AI agents, Wed Nov 11 2026. No macro, syntax, notation, axiom, sorry.
-/
import Derived.Test.YtlnjodigkfpimaaChecked
import GoSem.Claim
import GoSem.ClaimJoined
import GoSem.ClaimMapViews
import Derived.JoinedTies
import Derived.KernelRfl
namespace Go.Proofs.Ytlnjodigkfpimaa
/- THE CELL 'sum', in the pinned program and in every row, IS THE sha256 OF THE DUMP (.gsa) THAT YtlnjodigkfpimaaProg.lean LOADS. Nothing in Lean hashes anything: it is a label: what it is worth is what the hold of that sum in a sandbox is worth. -/
noncomputable def Try.pinned : Pinned := { name := "ytlnjodigkfpimaa", sum := "213b72c04a73b26697ab0910b8041fe4b1c26636a5a48e675a1014e81286adf8", checked := Try.checked }
namespace Rows
def none {H : Type} : Left H := { results := [], args := [] }

/-- 'ravellaw10.SemaOrder': WHATEVER THE INPUT: true; the input reads as it did. -/
def semaOrderSpec : ChangeSpec := { name := "semaOrder", fn := fun _ => fun
  | [d] => { results := [.lit (.bool true)], args := [d] }
  | _ => none }
def semaOrderRow : OpenClaim := { program := "ytlnjodigkfpimaa", sum := "213b72c04a73b26697ab0910b8041fe4b1c26636a5a48e675a1014e81286adf8", func := "ravel/ravellaw10.SemaOrder", spec := "semaOrder", apart := false }
def SemaOrderSaid : Prop := semaOrderRow.holds Try.pinned (OpenSpec.ofChange semaOrderSpec)

/-- ITS FALSE NEIGHBOUR: 'it returns false'. Refute it at one input. -/
def semaOrderWrong : ChangeSpec := { name := "semaOrder", fn := fun _ => fun
  | [d] => { results := [.lit (.bool false)], args := [d] }
  | _ => none }
def SemaOrderWrongFalsely : Prop := semaOrderRow.holds Try.pinned (OpenSpec.ofChange semaOrderWrong)

/-- 'ravellaw10.SemaFree': WHATEVER THE INPUT: true; the input reads as it did. -/
def semaFreeSpec : ChangeSpec := { name := "semaFree", fn := fun _ => fun
  | [d1, d2] => { results := [.lit (.bool true)], args := [d1, d2] }
  | _ => none }
def semaFreeRow : OpenClaim := { program := "ytlnjodigkfpimaa", sum := "213b72c04a73b26697ab0910b8041fe4b1c26636a5a48e675a1014e81286adf8", func := "ravel/ravellaw10.SemaFree", spec := "semaFree", apart := false }
def SemaFreeSaid : Prop := semaFreeRow.holds Try.pinned (OpenSpec.ofChange semaFreeSpec)

/-- ITS FALSE NEIGHBOUR: 'it returns false'. Refute it at one input. -/
def semaFreeWrong : ChangeSpec := { name := "semaFree", fn := fun _ => fun
  | [d1, d2] => { results := [.lit (.bool false)], args := [d1, d2] }
  | _ => none }
def SemaFreeWrongFalsely : Prop := semaFreeRow.holds Try.pinned (OpenSpec.ofChange semaFreeWrong)

/-- 'ravellaw10.SemaCounts': WHATEVER THE INPUT: true; the input reads as it did. -/
def semaCountsSpec : ChangeSpec := { name := "semaCounts", fn := fun _ => fun
  | [d1, d2] => { results := [.lit (.bool true)], args := [d1, d2] }
  | _ => none }
def semaCountsRow : OpenClaim := { program := "ytlnjodigkfpimaa", sum := "213b72c04a73b26697ab0910b8041fe4b1c26636a5a48e675a1014e81286adf8", func := "ravel/ravellaw10.SemaCounts", spec := "semaCounts", apart := false }
def SemaCountsSaid : Prop := semaCountsRow.holds Try.pinned (OpenSpec.ofChange semaCountsSpec)

/-- ITS FALSE NEIGHBOUR: 'it returns false'. Refute it at one input. -/
def semaCountsWrong : ChangeSpec := { name := "semaCounts", fn := fun _ => fun
  | [d1, d2] => { results := [.lit (.bool false)], args := [d1, d2] }
  | _ => none }
def SemaCountsWrongFalsely : Prop := semaCountsRow.holds Try.pinned (OpenSpec.ofChange semaCountsWrong)

/-- 'ravellaw10.SemaDoes': WHATEVER THE INPUT: true; the input reads as it did. -/
def semaDoesSpec : ChangeSpec := { name := "semaDoes", fn := fun _ => fun
  | [d1, d2, d3, d4] => { results := [.lit (.bool true)], args := [d1, d2, d3, d4] }
  | _ => none }
def semaDoesRow : OpenClaim := { program := "ytlnjodigkfpimaa", sum := "213b72c04a73b26697ab0910b8041fe4b1c26636a5a48e675a1014e81286adf8", func := "ravel/ravellaw10.SemaDoes", spec := "semaDoes", apart := false }
def SemaDoesSaid : Prop := semaDoesRow.holds Try.pinned (OpenSpec.ofChange semaDoesSpec)

/-- ITS FALSE NEIGHBOUR: 'it returns false'. Refute it at one input. -/
def semaDoesWrong : ChangeSpec := { name := "semaDoes", fn := fun _ => fun
  | [d1, d2, d3, d4] => { results := [.lit (.bool false)], args := [d1, d2, d3, d4] }
  | _ => none }
def SemaDoesWrongFalsely : Prop := semaDoesRow.holds Try.pinned (OpenSpec.ofChange semaDoesWrong)

/-- 'ravellaw10.SemaBack': WHATEVER THE INPUT: true; the input reads as it did. -/
def semaBackSpec : ChangeSpec := { name := "semaBack", fn := fun _ => fun
  | [d1, d2] => { results := [.lit (.bool true)], args := [d1, d2] }
  | _ => none }
def semaBackRow : OpenClaim := { program := "ytlnjodigkfpimaa", sum := "213b72c04a73b26697ab0910b8041fe4b1c26636a5a48e675a1014e81286adf8", func := "ravel/ravellaw10.SemaBack", spec := "semaBack", apart := false }
def SemaBackSaid : Prop := semaBackRow.holds Try.pinned (OpenSpec.ofChange semaBackSpec)

/-- ITS FALSE NEIGHBOUR: 'it returns false'. Refute it at one input. -/
def semaBackWrong : ChangeSpec := { name := "semaBack", fn := fun _ => fun
  | [d1, d2] => { results := [.lit (.bool false)], args := [d1, d2] }
  | _ => none }
def SemaBackWrongFalsely : Prop := semaBackRow.holds Try.pinned (OpenSpec.ofChange semaBackWrong)

/- THE SECOND FORM. 'bulk': how many values and letters a reading holds, each counted each time it is reached (what is shared counts as often as it is met; a slice's spare places count too). A statement '..UptoSaid' is the law's where the arguments, and the package variables that the reading takes, are together of bulk at most 1048576: NARROWER than '..Said'. Prove '..Said' where nothing that the law and all that it calls make is longer than what came in: it says more and counts as full. Else prove '..UptoSaid'. A law counts once. -/
mutual
def uptoBulk {H : Type} : DataW H → Nat
  | .lit (.string bytes) => bytes.length + 1
  | .lit _ => 1
  | .nil => 1
  | .ptr d => uptoBulk d + 1
  | .slice elems spare => uptoBulkAll elems + uptoBulkAll spare + 1
  | .agg parts => uptoBulkAll parts + 1
  | .iface _ d => uptoBulk d + 1
  | .map entries => uptoBulkEntries entries + 1
  | .held _ => 1
def uptoBulkAll {H : Type} : List (DataW H) → Nat
  | [] => 0
  | d :: r => uptoBulk d + uptoBulkAll r
def uptoBulkEntries {H : Type} : List (Lit × DataW H) → Nat
  | [] => 0
  | x :: r => uptoBulkEntry x + uptoBulkEntries r
def uptoBulkEntry {H : Type} : Lit × DataW H → Nat
  | (.string bytes, d) => bytes.length + uptoBulk d + 1
  | (_, d) => uptoBulk d + 1
 end
def uptoSmall : (H : Type) → List (DataW H) → Bool := fun _ ds => decide (uptoBulkAll ds ≤ 1048576)
def OpenSpec.upto (s : _root_.Go.ChangeSpec) : _root_.Go.OpenSpec := { _root_.Go.OpenSpec.ofChange s with cond := some uptoSmall }

/-- 'ravellaw10.SemaOrder', WHERE WHAT IT READS IS OF BULK AT MOST 1048576: true; the input reads as it did. -/
def semaOrderUptoRow : OpenClaim := { program := "ytlnjodigkfpimaa", sum := "213b72c04a73b26697ab0910b8041fe4b1c26636a5a48e675a1014e81286adf8", func := "ravel/ravellaw10.SemaOrder", spec := "semaOrder", apart := false, narrowed := true }
def SemaOrderUptoSaid : Prop := semaOrderUptoRow.holds Try.pinned (OpenSpec.upto semaOrderSpec)

/-- 'ravellaw10.SemaFree', WHERE WHAT IT READS IS OF BULK AT MOST 1048576: true; the input reads as it did. -/
def semaFreeUptoRow : OpenClaim := { program := "ytlnjodigkfpimaa", sum := "213b72c04a73b26697ab0910b8041fe4b1c26636a5a48e675a1014e81286adf8", func := "ravel/ravellaw10.SemaFree", spec := "semaFree", apart := false, narrowed := true }
def SemaFreeUptoSaid : Prop := semaFreeUptoRow.holds Try.pinned (OpenSpec.upto semaFreeSpec)

/-- 'ravellaw10.SemaCounts', WHERE WHAT IT READS IS OF BULK AT MOST 1048576: true; the input reads as it did. -/
def semaCountsUptoRow : OpenClaim := { program := "ytlnjodigkfpimaa", sum := "213b72c04a73b26697ab0910b8041fe4b1c26636a5a48e675a1014e81286adf8", func := "ravel/ravellaw10.SemaCounts", spec := "semaCounts", apart := false, narrowed := true }
def SemaCountsUptoSaid : Prop := semaCountsUptoRow.holds Try.pinned (OpenSpec.upto semaCountsSpec)

/-- 'ravellaw10.SemaDoes', WHERE WHAT IT READS IS OF BULK AT MOST 1048576: true; the input reads as it did. -/
def semaDoesUptoRow : OpenClaim := { program := "ytlnjodigkfpimaa", sum := "213b72c04a73b26697ab0910b8041fe4b1c26636a5a48e675a1014e81286adf8", func := "ravel/ravellaw10.SemaDoes", spec := "semaDoes", apart := false, narrowed := true }
def SemaDoesUptoSaid : Prop := semaDoesUptoRow.holds Try.pinned (OpenSpec.upto semaDoesSpec)

/-- 'ravellaw10.SemaBack', WHERE WHAT IT READS IS OF BULK AT MOST 1048576: true; the input reads as it did. -/
def semaBackUptoRow : OpenClaim := { program := "ytlnjodigkfpimaa", sum := "213b72c04a73b26697ab0910b8041fe4b1c26636a5a48e675a1014e81286adf8", func := "ravel/ravellaw10.SemaBack", spec := "semaBack", apart := false, narrowed := true }
def SemaBackUptoSaid : Prop := semaBackUptoRow.holds Try.pinned (OpenSpec.upto semaBackSpec)

end Rows
end Go.Proofs.Ytlnjodigkfpimaa
