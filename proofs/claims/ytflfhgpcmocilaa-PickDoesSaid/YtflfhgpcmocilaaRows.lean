/-
  No cell of these rows narrows 'for every input' (looked for: loops, veiled, ifaces, maps, wideKeys, modest, calm, conditions, laid).
  DERIVED. THE GIVEN ROWS OF THIS SEAT. 5 by the template 'for every input the law returns true; each argument reads behind the call as it read before'; 0 by the template 'total and deterministic' (their statements: YtflfhgpcmocilaaTotals.lean).
  GIVEN WITH THE SEED: the statements are not yours to turn. If you find one false, say at which input.
  Laid BY PROGRAM, IN A SANDBOX (cutbox-rows.mjs): the forced cells as the released guide's own fill.sh prints them over the translation 44944966d2fd8514… (all of the seat's roots in one cut). By AI agents, Wed Nov 11 2026. No macro, syntax, notation, axiom, sorry.
-/
import Derived.Test.YtflfhgpcmocilaaChecked
import GoSem.Claim
import GoSem.ClaimJoined
import GoSem.ClaimMapViews
import Derived.JoinedTies
import Derived.KernelRfl
namespace Go.Proofs.Ytflfhgpcmocilaa
/- THE CELL 'sum', in the pinned program and in every row, IS THE sha256 OF THE DUMP (.gsa) THAT YtflfhgpcmocilaaProg.lean LOADS. Nothing in Lean hashes anything: it is a label: what it is worth is what the hold of that sum in a sandbox is worth. -/
noncomputable def Try.pinned : Pinned := { name := "ytflfhgpcmocilaa", sum := "44944966d2fd851405ad0294dbc3c8b83653bac858242b7b358834ca2d17fd37", checked := Try.checked }
namespace Rows
def none {H : Type} : Left H := { results := [], args := [] }

/-- 'ravellaw16.PickHalves': WHATEVER THE INPUT: true; the input reads as it did. -/
def pickHalvesSpec : ChangeSpec := { name := "pickHalves", fn := fun _ => fun
  | [d] => { results := [.lit (.bool true)], args := [d] }
  | _ => none }
def pickHalvesRow : OpenClaim := { program := "ytflfhgpcmocilaa", sum := "44944966d2fd851405ad0294dbc3c8b83653bac858242b7b358834ca2d17fd37", func := "ravel/ravellaw16.PickHalves", spec := "pickHalves", unfollowed := true, recurses := true, apart := false }
def PickHalvesSaid : Prop := pickHalvesRow.holds Try.pinned (OpenSpec.ofChange pickHalvesSpec)

/-- ITS FALSE NEIGHBOUR: 'it returns false'. Refute it at one input. -/
def pickHalvesWrong : ChangeSpec := { name := "pickHalves", fn := fun _ => fun
  | [d] => { results := [.lit (.bool false)], args := [d] }
  | _ => none }
def PickHalvesWrongFalsely : Prop := pickHalvesRow.holds Try.pinned (OpenSpec.ofChange pickHalvesWrong)

/-- 'ravellaw16.PickOnce': WHATEVER THE INPUT: true; the input reads as it did. -/
def pickOnceSpec : ChangeSpec := { name := "pickOnce", fn := fun _ => fun
  | [d1, d2, d3] => { results := [.lit (.bool true)], args := [d1, d2, d3] }
  | _ => none }
def pickOnceRow : OpenClaim := { program := "ytflfhgpcmocilaa", sum := "44944966d2fd851405ad0294dbc3c8b83653bac858242b7b358834ca2d17fd37", func := "ravel/ravellaw16.PickOnce", spec := "pickOnce", unfollowed := true, recurses := true, apart := false }
def PickOnceSaid : Prop := pickOnceRow.holds Try.pinned (OpenSpec.ofChange pickOnceSpec)

/-- ITS FALSE NEIGHBOUR: 'it returns false'. Refute it at one input. -/
def pickOnceWrong : ChangeSpec := { name := "pickOnce", fn := fun _ => fun
  | [d1, d2, d3] => { results := [.lit (.bool false)], args := [d1, d2, d3] }
  | _ => none }
def PickOnceWrongFalsely : Prop := pickOnceRow.holds Try.pinned (OpenSpec.ofChange pickOnceWrong)

/-- 'ravellaw16.PickAlone': WHATEVER THE INPUT: true; the input reads as it did. -/
def pickAloneSpec : ChangeSpec := { name := "pickAlone", fn := fun _ => fun
  | [d1, d2, d3, d4] => { results := [.lit (.bool true)], args := [d1, d2, d3, d4] }
  | _ => none }
def pickAloneRow : OpenClaim := { program := "ytflfhgpcmocilaa", sum := "44944966d2fd851405ad0294dbc3c8b83653bac858242b7b358834ca2d17fd37", func := "ravel/ravellaw16.PickAlone", spec := "pickAlone", unfollowed := true, recurses := true, apart := false }
def PickAloneSaid : Prop := pickAloneRow.holds Try.pinned (OpenSpec.ofChange pickAloneSpec)

/-- ITS FALSE NEIGHBOUR: 'it returns false'. Refute it at one input. -/
def pickAloneWrong : ChangeSpec := { name := "pickAlone", fn := fun _ => fun
  | [d1, d2, d3, d4] => { results := [.lit (.bool false)], args := [d1, d2, d3, d4] }
  | _ => none }
def PickAloneWrongFalsely : Prop := pickAloneRow.holds Try.pinned (OpenSpec.ofChange pickAloneWrong)

/-- 'ravellaw16.PickLucky': WHATEVER THE INPUT: true; the input reads as it did. -/
def pickLuckySpec : ChangeSpec := { name := "pickLucky", fn := fun _ => fun
  | [d1, d2] => { results := [.lit (.bool true)], args := [d1, d2] }
  | _ => none }
def pickLuckyRow : OpenClaim := { program := "ytflfhgpcmocilaa", sum := "44944966d2fd851405ad0294dbc3c8b83653bac858242b7b358834ca2d17fd37", func := "ravel/ravellaw16.PickLucky", spec := "pickLucky", unfollowed := true, recurses := true, apart := false }
def PickLuckySaid : Prop := pickLuckyRow.holds Try.pinned (OpenSpec.ofChange pickLuckySpec)

/-- ITS FALSE NEIGHBOUR: 'it returns false'. Refute it at one input. -/
def pickLuckyWrong : ChangeSpec := { name := "pickLucky", fn := fun _ => fun
  | [d1, d2] => { results := [.lit (.bool false)], args := [d1, d2] }
  | _ => none }
def PickLuckyWrongFalsely : Prop := pickLuckyRow.holds Try.pinned (OpenSpec.ofChange pickLuckyWrong)

/-- 'ravellaw16.PickDoes': WHATEVER THE INPUT: true; the input reads as it did. -/
def pickDoesSpec : ChangeSpec := { name := "pickDoes", fn := fun _ => fun
  | [d1, d2, d3, d4, d5, d6] => { results := [.lit (.bool true)], args := [d1, d2, d3, d4, d5, d6] }
  | _ => none }
def pickDoesRow : OpenClaim := { program := "ytflfhgpcmocilaa", sum := "44944966d2fd851405ad0294dbc3c8b83653bac858242b7b358834ca2d17fd37", func := "ravel/ravellaw16.PickDoes", spec := "pickDoes", unfollowed := true, recurses := true, apart := false }
def PickDoesSaid : Prop := pickDoesRow.holds Try.pinned (OpenSpec.ofChange pickDoesSpec)

/-- ITS FALSE NEIGHBOUR: 'it returns false'. Refute it at one input. -/
def pickDoesWrong : ChangeSpec := { name := "pickDoes", fn := fun _ => fun
  | [d1, d2, d3, d4, d5, d6] => { results := [.lit (.bool false)], args := [d1, d2, d3, d4, d5, d6] }
  | _ => none }
def PickDoesWrongFalsely : Prop := pickDoesRow.holds Try.pinned (OpenSpec.ofChange pickDoesWrong)

/- THE SECOND FORM. 'bulk': how many values and letters a reading holds, each counted each time it is reached (what is shared counts as often as it is met; a slice's spare places count too). A statement '..UptoSaid' is the law's where the arguments, and the package variables that the reading takes, are together of bulk at most 1048576: NARROWER than '..Said'. Prove '..Said' where nothing that the law and all that it calls make is longer than what came in: it says more and counts as full. Else prove '..UptoSaid'. A law counts once. -/
mutual
def uptoBulk {H : Type} : DataW H → Nat
  | .lit (.string bytes) => bytes.length + 1
  | .lit _ => 1
  | .nil => 1
  | .ptr d => uptoBulk d + 1
  | .slice elems spare => uptoBulkAll elems + uptoBulkAll spare + 1
  | .agg parts => uptoBulkAll parts + 1
  | .iface _ d => uptoBulk d + 1
  | .map entries => uptoBulkEntries entries + 1
  | .held _ => 1
def uptoBulkAll {H : Type} : List (DataW H) → Nat
  | [] => 0
  | d :: r => uptoBulk d + uptoBulkAll r
def uptoBulkEntries {H : Type} : List (Lit × DataW H) → Nat
  | [] => 0
  | x :: r => uptoBulkEntry x + uptoBulkEntries r
def uptoBulkEntry {H : Type} : Lit × DataW H → Nat
  | (.string bytes, d) => bytes.length + uptoBulk d + 1
  | (_, d) => uptoBulk d + 1
 end
def uptoSmall : (H : Type) → List (DataW H) → Bool := fun _ ds => decide (uptoBulkAll ds ≤ 1048576)
def OpenSpec.upto (s : _root_.Go.ChangeSpec) : _root_.Go.OpenSpec := { _root_.Go.OpenSpec.ofChange s with cond := some uptoSmall }

/-- 'ravellaw16.PickHalves', WHERE WHAT IT READS IS OF BULK AT MOST 1048576: true; the input reads as it did. -/
def pickHalvesUptoRow : OpenClaim := { program := "ytflfhgpcmocilaa", sum := "44944966d2fd851405ad0294dbc3c8b83653bac858242b7b358834ca2d17fd37", func := "ravel/ravellaw16.PickHalves", spec := "pickHalves", unfollowed := true, recurses := true, apart := false, narrowed := true }
def PickHalvesUptoSaid : Prop := pickHalvesUptoRow.holds Try.pinned (OpenSpec.upto pickHalvesSpec)

/-- 'ravellaw16.PickOnce', WHERE WHAT IT READS IS OF BULK AT MOST 1048576: true; the input reads as it did. -/
def pickOnceUptoRow : OpenClaim := { program := "ytflfhgpcmocilaa", sum := "44944966d2fd851405ad0294dbc3c8b83653bac858242b7b358834ca2d17fd37", func := "ravel/ravellaw16.PickOnce", spec := "pickOnce", unfollowed := true, recurses := true, apart := false, narrowed := true }
def PickOnceUptoSaid : Prop := pickOnceUptoRow.holds Try.pinned (OpenSpec.upto pickOnceSpec)

/-- 'ravellaw16.PickAlone', WHERE WHAT IT READS IS OF BULK AT MOST 1048576: true; the input reads as it did. -/
def pickAloneUptoRow : OpenClaim := { program := "ytflfhgpcmocilaa", sum := "44944966d2fd851405ad0294dbc3c8b83653bac858242b7b358834ca2d17fd37", func := "ravel/ravellaw16.PickAlone", spec := "pickAlone", unfollowed := true, recurses := true, apart := false, narrowed := true }
def PickAloneUptoSaid : Prop := pickAloneUptoRow.holds Try.pinned (OpenSpec.upto pickAloneSpec)

/-- 'ravellaw16.PickLucky', WHERE WHAT IT READS IS OF BULK AT MOST 1048576: true; the input reads as it did. -/
def pickLuckyUptoRow : OpenClaim := { program := "ytflfhgpcmocilaa", sum := "44944966d2fd851405ad0294dbc3c8b83653bac858242b7b358834ca2d17fd37", func := "ravel/ravellaw16.PickLucky", spec := "pickLucky", unfollowed := true, recurses := true, apart := false, narrowed := true }
def PickLuckyUptoSaid : Prop := pickLuckyUptoRow.holds Try.pinned (OpenSpec.upto pickLuckySpec)

/-- 'ravellaw16.PickDoes', WHERE WHAT IT READS IS OF BULK AT MOST 1048576: true; the input reads as it did. -/
def pickDoesUptoRow : OpenClaim := { program := "ytflfhgpcmocilaa", sum := "44944966d2fd851405ad0294dbc3c8b83653bac858242b7b358834ca2d17fd37", func := "ravel/ravellaw16.PickDoes", spec := "pickDoes", unfollowed := true, recurses := true, apart := false, narrowed := true }
def PickDoesUptoSaid : Prop := pickDoesUptoRow.holds Try.pinned (OpenSpec.upto pickDoesSpec)

end Rows
end Go.Proofs.Ytflfhgpcmocilaa
