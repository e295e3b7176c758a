/-
  No cell of these rows narrows 'for every input' (looked for: loops, veiled, ifaces, maps, wideKeys, modest, calm, conditions, laid).
  DERIVED. THE GIVEN ROWS OF THIS SEAT. 6 by the template 'for every input the law returns true; each argument reads behind the call as it read before'; 0 by the template 'total and deterministic' (their statements: YtbojeohifgmbgaaTotals.lean).
  GIVEN WITH THE SEED: the statements are not yours to turn. If you find one false, say at which input.
  Laid BY PROGRAM, IN A SANDBOX (cutbox-rows.mjs): the forced cells as the released guide's own fill.sh prints them over the translation 004b1019677c1978… (all of the seat's roots in one cut). By AI agents, Wed Nov 11 2026. No macro, syntax, notation, axiom, sorry.
-/
import Derived.Test.YtbojeohifgmbgaaChecked
import GoSem.Claim
import GoSem.ClaimJoined
import GoSem.ClaimMapViews
import Derived.JoinedTies
import Derived.KernelRfl
namespace Go.Proofs.Ytbojeohifgmbgaa
/- THE CELL 'sum', in the pinned program and in every row, IS THE sha256 OF THE DUMP (.gsa) THAT YtbojeohifgmbgaaProg.lean LOADS. Nothing in Lean hashes anything: it is a label: what it is worth is what the hold of that sum in a sandbox is worth. -/
noncomputable def Try.pinned : Pinned := { name := "ytbojeohifgmbgaa", sum := "004b1019677c1978e2c352740425bf1b7a271f7678d431bcf2cb03bfc126d25e", checked := Try.checked }
namespace Rows
def none {H : Type} : Left H := { results := [], args := [] }

/-- 'ravellaw03.DiceHeavy': WHATEVER THE INPUT: true; the input reads as it did. -/
def diceHeavySpec : ChangeSpec := { name := "diceHeavy", fn := fun _ => fun
  | [d] => { results := [.lit (.bool true)], args := [d] }
  | _ => none }
def diceHeavyRow : OpenClaim := { program := "ytbojeohifgmbgaa", sum := "004b1019677c1978e2c352740425bf1b7a271f7678d431bcf2cb03bfc126d25e", func := "ravel/ravellaw03.DiceHeavy", spec := "diceHeavy", unfollowed := true, recurses := true, apart := false }
def DiceHeavySaid : Prop := diceHeavyRow.holds Try.pinned (OpenSpec.ofChange diceHeavySpec)

/-- ITS FALSE NEIGHBOUR: 'it returns false'. Refute it at one input. -/
def diceHeavyWrong : ChangeSpec := { name := "diceHeavy", fn := fun _ => fun
  | [d] => { results := [.lit (.bool false)], args := [d] }
  | _ => none }
def DiceHeavyWrongFalsely : Prop := diceHeavyRow.holds Try.pinned (OpenSpec.ofChange diceHeavyWrong)

/-- 'ravellaw03.DiceOrder': WHATEVER THE INPUT: true; the input reads as it did. -/
def diceOrderSpec : ChangeSpec := { name := "diceOrder", fn := fun _ => fun
  | [d1, d2] => { results := [.lit (.bool true)], args := [d1, d2] }
  | _ => none }
def diceOrderRow : OpenClaim := { program := "ytbojeohifgmbgaa", sum := "004b1019677c1978e2c352740425bf1b7a271f7678d431bcf2cb03bfc126d25e", func := "ravel/ravellaw03.DiceOrder", spec := "diceOrder", unfollowed := true, recurses := true, apart := false }
def DiceOrderSaid : Prop := diceOrderRow.holds Try.pinned (OpenSpec.ofChange diceOrderSpec)

/-- ITS FALSE NEIGHBOUR: 'it returns false'. Refute it at one input. -/
def diceOrderWrong : ChangeSpec := { name := "diceOrder", fn := fun _ => fun
  | [d1, d2] => { results := [.lit (.bool false)], args := [d1, d2] }
  | _ => none }
def DiceOrderWrongFalsely : Prop := diceOrderRow.holds Try.pinned (OpenSpec.ofChange diceOrderWrong)

/-- 'ravellaw03.DiceAlone': WHATEVER THE INPUT: true; the input reads as it did. -/
def diceAloneSpec : ChangeSpec := { name := "diceAlone", fn := fun _ => fun
  | [d1, d2, d3, d4, d5] => { results := [.lit (.bool true)], args := [d1, d2, d3, d4, d5] }
  | _ => none }
def diceAloneRow : OpenClaim := { program := "ytbojeohifgmbgaa", sum := "004b1019677c1978e2c352740425bf1b7a271f7678d431bcf2cb03bfc126d25e", func := "ravel/ravellaw03.DiceAlone", spec := "diceAlone", unfollowed := true, recurses := true, apart := false }
def DiceAloneSaid : Prop := diceAloneRow.holds Try.pinned (OpenSpec.ofChange diceAloneSpec)

/-- ITS FALSE NEIGHBOUR: 'it returns false'. Refute it at one input. -/
def diceAloneWrong : ChangeSpec := { name := "diceAlone", fn := fun _ => fun
  | [d1, d2, d3, d4, d5] => { results := [.lit (.bool false)], args := [d1, d2, d3, d4, d5] }
  | _ => none }
def DiceAloneWrongFalsely : Prop := diceAloneRow.holds Try.pinned (OpenSpec.ofChange diceAloneWrong)

/-- 'ravellaw03.DiceDoes': WHATEVER THE INPUT: true; the input reads as it did. -/
def diceDoesSpec : ChangeSpec := { name := "diceDoes", fn := fun _ => fun
  | [d1, d2, d3, d4, d5] => { results := [.lit (.bool true)], args := [d1, d2, d3, d4, d5] }
  | _ => none }
def diceDoesRow : OpenClaim := { program := "ytbojeohifgmbgaa", sum := "004b1019677c1978e2c352740425bf1b7a271f7678d431bcf2cb03bfc126d25e", func := "ravel/ravellaw03.DiceDoes", spec := "diceDoes", unfollowed := true, recurses := true, apart := false }
def DiceDoesSaid : Prop := diceDoesRow.holds Try.pinned (OpenSpec.ofChange diceDoesSpec)

/-- ITS FALSE NEIGHBOUR: 'it returns false'. Refute it at one input. -/
def diceDoesWrong : ChangeSpec := { name := "diceDoes", fn := fun _ => fun
  | [d1, d2, d3, d4, d5] => { results := [.lit (.bool false)], args := [d1, d2, d3, d4, d5] }
  | _ => none }
def DiceDoesWrongFalsely : Prop := diceDoesRow.holds Try.pinned (OpenSpec.ofChange diceDoesWrong)

/-- 'ravellaw03.DiceEnds': WHATEVER THE INPUT: true; the input reads as it did. -/
def diceEndsSpec : ChangeSpec := { name := "diceEnds", fn := fun _ => fun
  | [d1, d2, d3, d4] => { results := [.lit (.bool true)], args := [d1, d2, d3, d4] }
  | _ => none }
def diceEndsRow : OpenClaim := { program := "ytbojeohifgmbgaa", sum := "004b1019677c1978e2c352740425bf1b7a271f7678d431bcf2cb03bfc126d25e", func := "ravel/ravellaw03.DiceEnds", spec := "diceEnds", unfollowed := true, recurses := true, apart := false }
def DiceEndsSaid : Prop := diceEndsRow.holds Try.pinned (OpenSpec.ofChange diceEndsSpec)

/-- ITS FALSE NEIGHBOUR: 'it returns false'. Refute it at one input. -/
def diceEndsWrong : ChangeSpec := { name := "diceEnds", fn := fun _ => fun
  | [d1, d2, d3, d4] => { results := [.lit (.bool false)], args := [d1, d2, d3, d4] }
  | _ => none }
def DiceEndsWrongFalsely : Prop := diceEndsRow.holds Try.pinned (OpenSpec.ofChange diceEndsWrong)

/-- 'ravellaw03.DiceTwo': WHATEVER THE INPUT: true; the input reads as it did. -/
def diceTwoSpec : ChangeSpec := { name := "diceTwo", fn := fun _ => fun
  | [d1, d2] => { results := [.lit (.bool true)], args := [d1, d2] }
  | _ => none }
def diceTwoRow : OpenClaim := { program := "ytbojeohifgmbgaa", sum := "004b1019677c1978e2c352740425bf1b7a271f7678d431bcf2cb03bfc126d25e", func := "ravel/ravellaw03.DiceTwo", spec := "diceTwo", unfollowed := true, recurses := true, apart := false }
def DiceTwoSaid : Prop := diceTwoRow.holds Try.pinned (OpenSpec.ofChange diceTwoSpec)

/-- ITS FALSE NEIGHBOUR: 'it returns false'. Refute it at one input. -/
def diceTwoWrong : ChangeSpec := { name := "diceTwo", fn := fun _ => fun
  | [d1, d2] => { results := [.lit (.bool false)], args := [d1, d2] }
  | _ => none }
def DiceTwoWrongFalsely : Prop := diceTwoRow.holds Try.pinned (OpenSpec.ofChange diceTwoWrong)

/- THE SECOND FORM. 'bulk': how many values and letters a reading holds, each counted each time it is reached (what is shared counts as often as it is met; a slice's spare places count too). A statement '..UptoSaid' is the law's where the arguments, and the package variables that the reading takes, are together of bulk at most 1048576: NARROWER than '..Said'. Prove '..Said' where nothing that the law and all that it calls make is longer than what came in: it says more and counts as full. Else prove '..UptoSaid'. A law counts once. -/
mutual
def uptoBulk {H : Type} : DataW H → Nat
  | .lit (.string bytes) => bytes.length + 1
  | .lit _ => 1
  | .nil => 1
  | .ptr d => uptoBulk d + 1
  | .slice elems spare => uptoBulkAll elems + uptoBulkAll spare + 1
  | .agg parts => uptoBulkAll parts + 1
  | .iface _ d => uptoBulk d + 1
  | .map entries => uptoBulkEntries entries + 1
  | .held _ => 1
def uptoBulkAll {H : Type} : List (DataW H) → Nat
  | [] => 0
  | d :: r => uptoBulk d + uptoBulkAll r
def uptoBulkEntries {H : Type} : List (Lit × DataW H) → Nat
  | [] => 0
  | x :: r => uptoBulkEntry x + uptoBulkEntries r
def uptoBulkEntry {H : Type} : Lit × DataW H → Nat
  | (.string bytes, d) => bytes.length + uptoBulk d + 1
  | (_, d) => uptoBulk d + 1
 end
def uptoSmall : (H : Type) → List (DataW H) → Bool := fun _ ds => decide (uptoBulkAll ds ≤ 1048576)
def OpenSpec.upto (s : _root_.Go.ChangeSpec) : _root_.Go.OpenSpec := { _root_.Go.OpenSpec.ofChange s with cond := some uptoSmall }

/-- 'ravellaw03.DiceHeavy', WHERE WHAT IT READS IS OF BULK AT MOST 1048576: true; the input reads as it did. -/
def diceHeavyUptoRow : OpenClaim := { program := "ytbojeohifgmbgaa", sum := "004b1019677c1978e2c352740425bf1b7a271f7678d431bcf2cb03bfc126d25e", func := "ravel/ravellaw03.DiceHeavy", spec := "diceHeavy", unfollowed := true, recurses := true, apart := false, narrowed := true }
def DiceHeavyUptoSaid : Prop := diceHeavyUptoRow.holds Try.pinned (OpenSpec.upto diceHeavySpec)

/-- 'ravellaw03.DiceOrder', WHERE WHAT IT READS IS OF BULK AT MOST 1048576: true; the input reads as it did. -/
def diceOrderUptoRow : OpenClaim := { program := "ytbojeohifgmbgaa", sum := "004b1019677c1978e2c352740425bf1b7a271f7678d431bcf2cb03bfc126d25e", func := "ravel/ravellaw03.DiceOrder", spec := "diceOrder", unfollowed := true, recurses := true, apart := false, narrowed := true }
def DiceOrderUptoSaid : Prop := diceOrderUptoRow.holds Try.pinned (OpenSpec.upto diceOrderSpec)

/-- 'ravellaw03.DiceAlone', WHERE WHAT IT READS IS OF BULK AT MOST 1048576: true; the input reads as it did. -/
def diceAloneUptoRow : OpenClaim := { program := "ytbojeohifgmbgaa", sum := "004b1019677c1978e2c352740425bf1b7a271f7678d431bcf2cb03bfc126d25e", func := "ravel/ravellaw03.DiceAlone", spec := "diceAlone", unfollowed := true, recurses := true, apart := false, narrowed := true }
def DiceAloneUptoSaid : Prop := diceAloneUptoRow.holds Try.pinned (OpenSpec.upto diceAloneSpec)

/-- 'ravellaw03.DiceDoes', WHERE WHAT IT READS IS OF BULK AT MOST 1048576: true; the input reads as it did. -/
def diceDoesUptoRow : OpenClaim := { program := "ytbojeohifgmbgaa", sum := "004b1019677c1978e2c352740425bf1b7a271f7678d431bcf2cb03bfc126d25e", func := "ravel/ravellaw03.DiceDoes", spec := "diceDoes", unfollowed := true, recurses := true, apart := false, narrowed := true }
def DiceDoesUptoSaid : Prop := diceDoesUptoRow.holds Try.pinned (OpenSpec.upto diceDoesSpec)

/-- 'ravellaw03.DiceEnds', WHERE WHAT IT READS IS OF BULK AT MOST 1048576: true; the input reads as it did. -/
def diceEndsUptoRow : OpenClaim := { program := "ytbojeohifgmbgaa", sum := "004b1019677c1978e2c352740425bf1b7a271f7678d431bcf2cb03bfc126d25e", func := "ravel/ravellaw03.DiceEnds", spec := "diceEnds", unfollowed := true, recurses := true, apart := false, narrowed := true }
def DiceEndsUptoSaid : Prop := diceEndsUptoRow.holds Try.pinned (OpenSpec.upto diceEndsSpec)

/-- 'ravellaw03.DiceTwo', WHERE WHAT IT READS IS OF BULK AT MOST 1048576: true; the input reads as it did. -/
def diceTwoUptoRow : OpenClaim := { program := "ytbojeohifgmbgaa", sum := "004b1019677c1978e2c352740425bf1b7a271f7678d431bcf2cb03bfc126d25e", func := "ravel/ravellaw03.DiceTwo", spec := "diceTwo", unfollowed := true, recurses := true, apart := false, narrowed := true }
def DiceTwoUptoSaid : Prop := diceTwoUptoRow.holds Try.pinned (OpenSpec.upto diceTwoSpec)

end Rows
end Go.Proofs.Ytbojeohifgmbgaa
