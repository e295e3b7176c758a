/-
  No cell of these rows narrows 'for every input' (looked for: loops, veiled, ifaces, maps, wideKeys, modest, calm, conditions, laid).
  DERIVED. THE GIVEN ROWS OF THIS SEAT. 8 by the template 'for every input the law returns true; each argument reads behind the call as it read before'; 0 by the template 'total and deterministic' (their statements: YtffchlfnnilbiaaTotals.lean).
  GIVEN WITH THE SEED: the statements are not yours to turn. If you find one false, say at which input.
  Laid BY PROGRAM, IN A SANDBOX (cutbox-rows.mjs): the forced cells as the released guide's own fill.sh prints them over the translation 443b8cff9752661d… (all of the seat's roots in one cut). By AI agents, Wed Nov 11 2026. No macro, syntax, notation, axiom, sorry.
-/
import Derived.Test.YtffchlfnnilbiaaChecked
import GoSem.Claim
import GoSem.ClaimJoined
import GoSem.ClaimMapViews
import Derived.JoinedTies
import Derived.KernelRfl
namespace Go.Proofs.Ytffchlfnnilbiaa
/- THE CELL 'sum', in the pinned program and in every row, IS THE sha256 OF THE DUMP (.gsa) THAT YtffchlfnnilbiaaProg.lean LOADS. Nothing in Lean hashes anything: it is a label: what it is worth is what the hold of that sum in a sandbox is worth. -/
noncomputable def Try.pinned : Pinned := { name := "ytffchlfnnilbiaa", sum := "443b8cff9752661d96064f810bfb92c167ae8e011f2cd56ae1965087f1e5ef20", checked := Try.checked }
namespace Rows
def none {H : Type} : Left H := { results := [], args := [] }

/-- 'ravellaw02.CalcOrder': WHATEVER THE INPUT: true; the input reads as it did. -/
def calcOrderSpec : ChangeSpec := { name := "calcOrder", fn := fun _ => fun
  | [d1, d2, d3, d4, d5, d6] => { results := [.lit (.bool true)], args := [d1, d2, d3, d4, d5, d6] }
  | _ => none }
def calcOrderRow : OpenClaim := { program := "ytffchlfnnilbiaa", sum := "443b8cff9752661d96064f810bfb92c167ae8e011f2cd56ae1965087f1e5ef20", func := "ravel/ravellaw02.CalcOrder", spec := "calcOrder", apart := false }
def CalcOrderSaid : Prop := calcOrderRow.holds Try.pinned (OpenSpec.ofChange calcOrderSpec)

/-- ITS FALSE NEIGHBOUR: 'it returns false'. Refute it at one input. -/
def calcOrderWrong : ChangeSpec := { name := "calcOrder", fn := fun _ => fun
  | [d1, d2, d3, d4, d5, d6] => { results := [.lit (.bool false)], args := [d1, d2, d3, d4, d5, d6] }
  | _ => none }
def CalcOrderWrongFalsely : Prop := calcOrderRow.holds Try.pinned (OpenSpec.ofChange calcOrderWrong)

/-- 'ravellaw02.CalcDoes': WHATEVER THE INPUT: true; the input reads as it did. -/
def calcDoesSpec : ChangeSpec := { name := "calcDoes", fn := fun _ => fun
  | [d1, d2] => { results := [.lit (.bool true)], args := [d1, d2] }
  | _ => none }
def calcDoesRow : OpenClaim := { program := "ytffchlfnnilbiaa", sum := "443b8cff9752661d96064f810bfb92c167ae8e011f2cd56ae1965087f1e5ef20", func := "ravel/ravellaw02.CalcDoes", spec := "calcDoes", apart := false }
def CalcDoesSaid : Prop := calcDoesRow.holds Try.pinned (OpenSpec.ofChange calcDoesSpec)

/-- ITS FALSE NEIGHBOUR: 'it returns false'. Refute it at one input. -/
def calcDoesWrong : ChangeSpec := { name := "calcDoes", fn := fun _ => fun
  | [d1, d2] => { results := [.lit (.bool false)], args := [d1, d2] }
  | _ => none }
def CalcDoesWrongFalsely : Prop := calcDoesRow.holds Try.pinned (OpenSpec.ofChange calcDoesWrong)

/-- 'ravellaw02.CalcBack': WHATEVER THE INPUT: true; the input reads as it did. -/
def calcBackSpec : ChangeSpec := { name := "calcBack", fn := fun _ => fun
  | [d1, d2] => { results := [.lit (.bool true)], args := [d1, d2] }
  | _ => none }
def calcBackRow : OpenClaim := { program := "ytffchlfnnilbiaa", sum := "443b8cff9752661d96064f810bfb92c167ae8e011f2cd56ae1965087f1e5ef20", func := "ravel/ravellaw02.CalcBack", spec := "calcBack", apart := false }
def CalcBackSaid : Prop := calcBackRow.holds Try.pinned (OpenSpec.ofChange calcBackSpec)

/-- ITS FALSE NEIGHBOUR: 'it returns false'. Refute it at one input. -/
def calcBackWrong : ChangeSpec := { name := "calcBack", fn := fun _ => fun
  | [d1, d2] => { results := [.lit (.bool false)], args := [d1, d2] }
  | _ => none }
def CalcBackWrongFalsely : Prop := calcBackRow.holds Try.pinned (OpenSpec.ofChange calcBackWrong)

/-- 'ravellaw02.CalcThree': WHATEVER THE INPUT: true; the input reads as it did. -/
def calcThreeSpec : ChangeSpec := { name := "calcThree", fn := fun _ => fun
  | [d1, d2, d3] => { results := [.lit (.bool true)], args := [d1, d2, d3] }
  | _ => none }
def calcThreeRow : OpenClaim := { program := "ytffchlfnnilbiaa", sum := "443b8cff9752661d96064f810bfb92c167ae8e011f2cd56ae1965087f1e5ef20", func := "ravel/ravellaw02.CalcThree", spec := "calcThree", apart := false }
def CalcThreeSaid : Prop := calcThreeRow.holds Try.pinned (OpenSpec.ofChange calcThreeSpec)

/-- ITS FALSE NEIGHBOUR: 'it returns false'. Refute it at one input. -/
def calcThreeWrong : ChangeSpec := { name := "calcThree", fn := fun _ => fun
  | [d1, d2, d3] => { results := [.lit (.bool false)], args := [d1, d2, d3] }
  | _ => none }
def CalcThreeWrongFalsely : Prop := calcThreeRow.holds Try.pinned (OpenSpec.ofChange calcThreeWrong)

/-- 'ravellaw02.CalcSigns': WHATEVER THE INPUT: true; the input reads as it did. -/
def calcSignsSpec : ChangeSpec := { name := "calcSigns", fn := fun _ => fun
  | [d1, d2] => { results := [.lit (.bool true)], args := [d1, d2] }
  | _ => none }
def calcSignsRow : OpenClaim := { program := "ytffchlfnnilbiaa", sum := "443b8cff9752661d96064f810bfb92c167ae8e011f2cd56ae1965087f1e5ef20", func := "ravel/ravellaw02.CalcSigns", spec := "calcSigns", apart := false }
def CalcSignsSaid : Prop := calcSignsRow.holds Try.pinned (OpenSpec.ofChange calcSignsSpec)

/-- ITS FALSE NEIGHBOUR: 'it returns false'. Refute it at one input. -/
def calcSignsWrong : ChangeSpec := { name := "calcSigns", fn := fun _ => fun
  | [d1, d2] => { results := [.lit (.bool false)], args := [d1, d2] }
  | _ => none }
def CalcSignsWrongFalsely : Prop := calcSignsRow.holds Try.pinned (OpenSpec.ofChange calcSignsWrong)

/-- 'ravellaw02.CalcParts': WHATEVER THE INPUT: true; the input reads as it did. -/
def calcPartsSpec : ChangeSpec := { name := "calcParts", fn := fun _ => fun
  | [d1, d2, d3, d4] => { results := [.lit (.bool true)], args := [d1, d2, d3, d4] }
  | _ => none }
def calcPartsRow : OpenClaim := { program := "ytffchlfnnilbiaa", sum := "443b8cff9752661d96064f810bfb92c167ae8e011f2cd56ae1965087f1e5ef20", func := "ravel/ravellaw02.CalcParts", spec := "calcParts", named := ["math/bits.divideError", "math/bits.overflowError"], apart := false }
def CalcPartsSaid : Prop := calcPartsRow.holds Try.pinned (OpenSpec.ofChange calcPartsSpec)

/-- ITS FALSE NEIGHBOUR: 'it returns false'. Refute it at one input. -/
def calcPartsWrong : ChangeSpec := { name := "calcParts", fn := fun _ => fun
  | [d1, d2, d3, d4] => { results := [.lit (.bool false)], args := [d1, d2, d3, d4] }
  | _ => none }
def CalcPartsWrongFalsely : Prop := calcPartsRow.holds Try.pinned (OpenSpec.ofChange calcPartsWrong)

/-- 'ravellaw02.CalcDown': WHATEVER THE INPUT: true; the input reads as it did. -/
def calcDownSpec : ChangeSpec := { name := "calcDown", fn := fun _ => fun
  | [d1, d2, d3] => { results := [.lit (.bool true)], args := [d1, d2, d3] }
  | _ => none }
def calcDownRow : OpenClaim := { program := "ytffchlfnnilbiaa", sum := "443b8cff9752661d96064f810bfb92c167ae8e011f2cd56ae1965087f1e5ef20", func := "ravel/ravellaw02.CalcDown", spec := "calcDown", named := ["math/bits.divideError", "math/bits.overflowError"], apart := false }
def CalcDownSaid : Prop := calcDownRow.holds Try.pinned (OpenSpec.ofChange calcDownSpec)

/-- ITS FALSE NEIGHBOUR: 'it returns false'. Refute it at one input. -/
def calcDownWrong : ChangeSpec := { name := "calcDown", fn := fun _ => fun
  | [d1, d2, d3] => { results := [.lit (.bool false)], args := [d1, d2, d3] }
  | _ => none }
def CalcDownWrongFalsely : Prop := calcDownRow.holds Try.pinned (OpenSpec.ofChange calcDownWrong)

/-- 'ravellaw02.CalcShare': WHATEVER THE INPUT: true; the input reads as it did. -/
def calcShareSpec : ChangeSpec := { name := "calcShare", fn := fun _ => fun
  | [d1, d2, d3, d4] => { results := [.lit (.bool true)], args := [d1, d2, d3, d4] }
  | _ => none }
def calcShareRow : OpenClaim := { program := "ytffchlfnnilbiaa", sum := "443b8cff9752661d96064f810bfb92c167ae8e011f2cd56ae1965087f1e5ef20", func := "ravel/ravellaw02.CalcShare", spec := "calcShare", named := ["math/bits.divideError", "math/bits.overflowError"], apart := false }
def CalcShareSaid : Prop := calcShareRow.holds Try.pinned (OpenSpec.ofChange calcShareSpec)

/-- ITS FALSE NEIGHBOUR: 'it returns false'. Refute it at one input. -/
def calcShareWrong : ChangeSpec := { name := "calcShare", fn := fun _ => fun
  | [d1, d2, d3, d4] => { results := [.lit (.bool false)], args := [d1, d2, d3, d4] }
  | _ => none }
def CalcShareWrongFalsely : Prop := calcShareRow.holds Try.pinned (OpenSpec.ofChange calcShareWrong)

/- THE SECOND FORM. 'bulk': how many values and letters a reading holds, each counted each time it is reached (what is shared counts as often as it is met; a slice's spare places count too). A statement '..UptoSaid' is the law's where the arguments, and the package variables that the reading takes, are together of bulk at most 1048576: NARROWER than '..Said'. Prove '..Said' where nothing that the law and all that it calls make is longer than what came in: it says more and counts as full. Else prove '..UptoSaid'. A law counts once. -/
mutual
def uptoBulk {H : Type} : DataW H → Nat
  | .lit (.string bytes) => bytes.length + 1
  | .lit _ => 1
  | .nil => 1
  | .ptr d => uptoBulk d + 1
  | .slice elems spare => uptoBulkAll elems + uptoBulkAll spare + 1
  | .agg parts => uptoBulkAll parts + 1
  | .iface _ d => uptoBulk d + 1
  | .map entries => uptoBulkEntries entries + 1
  | .held _ => 1
def uptoBulkAll {H : Type} : List (DataW H) → Nat
  | [] => 0
  | d :: r => uptoBulk d + uptoBulkAll r
def uptoBulkEntries {H : Type} : List (Lit × DataW H) → Nat
  | [] => 0
  | x :: r => uptoBulkEntry x + uptoBulkEntries r
def uptoBulkEntry {H : Type} : Lit × DataW H → Nat
  | (.string bytes, d) => bytes.length + uptoBulk d + 1
  | (_, d) => uptoBulk d + 1
 end
def uptoSmall : (H : Type) → List (DataW H) → Bool := fun _ ds => decide (uptoBulkAll ds ≤ 1048576)
def OpenSpec.upto (s : _root_.Go.ChangeSpec) : _root_.Go.OpenSpec := { _root_.Go.OpenSpec.ofChange s with cond := some uptoSmall }

/-- 'ravellaw02.CalcOrder', WHERE WHAT IT READS IS OF BULK AT MOST 1048576: true; the input reads as it did. -/
def calcOrderUptoRow : OpenClaim := { program := "ytffchlfnnilbiaa", sum := "443b8cff9752661d96064f810bfb92c167ae8e011f2cd56ae1965087f1e5ef20", func := "ravel/ravellaw02.CalcOrder", spec := "calcOrder", apart := false, narrowed := true }
def CalcOrderUptoSaid : Prop := calcOrderUptoRow.holds Try.pinned (OpenSpec.upto calcOrderSpec)

/-- 'ravellaw02.CalcDoes', WHERE WHAT IT READS IS OF BULK AT MOST 1048576: true; the input reads as it did. -/
def calcDoesUptoRow : OpenClaim := { program := "ytffchlfnnilbiaa", sum := "443b8cff9752661d96064f810bfb92c167ae8e011f2cd56ae1965087f1e5ef20", func := "ravel/ravellaw02.CalcDoes", spec := "calcDoes", apart := false, narrowed := true }
def CalcDoesUptoSaid : Prop := calcDoesUptoRow.holds Try.pinned (OpenSpec.upto calcDoesSpec)

/-- 'ravellaw02.CalcBack', WHERE WHAT IT READS IS OF BULK AT MOST 1048576: true; the input reads as it did. -/
def calcBackUptoRow : OpenClaim := { program := "ytffchlfnnilbiaa", sum := "443b8cff9752661d96064f810bfb92c167ae8e011f2cd56ae1965087f1e5ef20", func := "ravel/ravellaw02.CalcBack", spec := "calcBack", apart := false, narrowed := true }
def CalcBackUptoSaid : Prop := calcBackUptoRow.holds Try.pinned (OpenSpec.upto calcBackSpec)

/-- 'ravellaw02.CalcThree', WHERE WHAT IT READS IS OF BULK AT MOST 1048576: true; the input reads as it did. -/
def calcThreeUptoRow : OpenClaim := { program := "ytffchlfnnilbiaa", sum := "443b8cff9752661d96064f810bfb92c167ae8e011f2cd56ae1965087f1e5ef20", func := "ravel/ravellaw02.CalcThree", spec := "calcThree", apart := false, narrowed := true }
def CalcThreeUptoSaid : Prop := calcThreeUptoRow.holds Try.pinned (OpenSpec.upto calcThreeSpec)

/-- 'ravellaw02.CalcSigns', WHERE WHAT IT READS IS OF BULK AT MOST 1048576: true; the input reads as it did. -/
def calcSignsUptoRow : OpenClaim := { program := "ytffchlfnnilbiaa", sum := "443b8cff9752661d96064f810bfb92c167ae8e011f2cd56ae1965087f1e5ef20", func := "ravel/ravellaw02.CalcSigns", spec := "calcSigns", apart := false, narrowed := true }
def CalcSignsUptoSaid : Prop := calcSignsUptoRow.holds Try.pinned (OpenSpec.upto calcSignsSpec)

/-- 'ravellaw02.CalcParts', WHERE WHAT IT READS IS OF BULK AT MOST 1048576: true; the input reads as it did. -/
def calcPartsUptoRow : OpenClaim := { program := "ytffchlfnnilbiaa", sum := "443b8cff9752661d96064f810bfb92c167ae8e011f2cd56ae1965087f1e5ef20", func := "ravel/ravellaw02.CalcParts", spec := "calcParts", named := ["math/bits.divideError", "math/bits.overflowError"], apart := false, narrowed := true }
def CalcPartsUptoSaid : Prop := calcPartsUptoRow.holds Try.pinned (OpenSpec.upto calcPartsSpec)

/-- 'ravellaw02.CalcDown', WHERE WHAT IT READS IS OF BULK AT MOST 1048576: true; the input reads as it did. -/
def calcDownUptoRow : OpenClaim := { program := "ytffchlfnnilbiaa", sum := "443b8cff9752661d96064f810bfb92c167ae8e011f2cd56ae1965087f1e5ef20", func := "ravel/ravellaw02.CalcDown", spec := "calcDown", named := ["math/bits.divideError", "math/bits.overflowError"], apart := false, narrowed := true }
def CalcDownUptoSaid : Prop := calcDownUptoRow.holds Try.pinned (OpenSpec.upto calcDownSpec)

/-- 'ravellaw02.CalcShare', WHERE WHAT IT READS IS OF BULK AT MOST 1048576: true; the input reads as it did. -/
def calcShareUptoRow : OpenClaim := { program := "ytffchlfnnilbiaa", sum := "443b8cff9752661d96064f810bfb92c167ae8e011f2cd56ae1965087f1e5ef20", func := "ravel/ravellaw02.CalcShare", spec := "calcShare", named := ["math/bits.divideError", "math/bits.overflowError"], apart := false, narrowed := true }
def CalcShareUptoSaid : Prop := calcShareUptoRow.holds Try.pinned (OpenSpec.upto calcShareSpec)

end Rows
end Go.Proofs.Ytffchlfnnilbiaa
