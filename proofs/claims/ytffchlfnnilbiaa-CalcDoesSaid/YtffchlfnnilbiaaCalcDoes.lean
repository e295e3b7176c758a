/- ravellaw02.CalcDoes hands back true for every input, and each argument reads as it did; no condition beyond the row's own. -/
import Derived.Test.YtffchlfnnilbiaaB4
import Derived.Test.YtffchlfnnilbiaaB20
import Derived.Test.YtffchlfnnilbiaaB21
import Derived.Test.YtffchlfnnilbiaaB22
import Derived.Test.YtffchlfnnilbiaaB23
import Derived.Test.YtffchlfnnilbiaaB8
import Derived.Test.YtffchlfnnilbiaaB9
import Derived.Test.YtffchlfnnilbiaaB11
import Derived.Test.YtffchlfnnilbiaaB12
import Derived.Test.YtffchlfnnilbiaaB19
import Derived.Test.YtffchlfnnilbiaaB24
import Derived.Test.YtffchlfnnilbiaaC1
import Derived.Test.YtffchlfnnilbiaaC2
import Derived.Test.YtffchlfnnilbiaaC3
import Derived.Test.YtffchlfnnilbiaaC4
import Derived.Test.YtffchlfnnilbiaaC5
import Derived.Test.YtffchlfnnilbiaaC6
import Derived.Test.YtffchlfnnilbiaaC7
import Derived.Test.YtffchlfnnilbiaaC8
import Derived.Test.YtffchlfnnilbiaaC9
import Derived.Test.YtffchlfnnilbiaaC10
import Derived.Test.YtffchlfnnilbiaaC11
import Derived.Test.YtffchlfnnilbiaaRows
import Derived.WalkKit
import Derived.ProofKit
import Derived.OpenShut
import Derived.Below
import Derived.ChangeSlices
import Derived.KernelRfl
namespace Go.Proofs.Ytffchlfnnilbiaa.calcDoes
open Go.ChangeShapes Go.WideShapes Go.RowKit
set_option linter.unusedVariables false
set_option linter.unusedSimpArgs false

theorem own : ownKnob Try.prog.godebug = none := by kernel_rfl

set_option maxRecDepth 100000 in
theorem lifted (os : Os) (started : os.Started) (H : Type) (enc : TypeId × Value → H) :
    ReturnsInHanded {} Try.checked os 4 .any (Rows.calcDoesSpec.pre6 enc Try.prog Try.f4 Rows.calcDoesRow.domain false) (Rows.calcDoesSpec.post enc Try.prog Try.f4 false true false false) := by
  refine returnsInHanded_of_change (C := Try.checked) own started (by kernel_rfl) Try.func4
    (ChangeSpec.witness6 (enc := enc) (C := Try.checked) false ⟨#[], #[.int .i64 0, .int .i64 0], []⟩ 8 (by kernel_rfl) (by kernel_rfl) (by kernel_rfl) (by kernel_rfl)) ?_
  intro W base args ds gs before hval0 hW hcnd _
  have hval : ∀ (j : Nat) t v, Try.f4.params[j]? = some t → args[j]? = some v → Value.okWide Try.prog W .any base t v := hval0
  have hW' := hW
  obtain ⟨p, q, hA0, hV, rfl, hfz, hnd⟩ := hW
  have hA : DataW.TrodAll enc Try.prog W 0 (fun _ => true) true Try.f4.params.toList args.toList ds p := hA0
  rw [Try.params4] at hA hval
  obtain ⟨v0, vs0, d0, ds0, p0, q0, hargs, rfl, rfl, h0, r0⟩ := trodAll_cons hA
  obtain ⟨v1, vs1, d1, ds1, p1, q1, rfl, rfl, rfl, h1, r1⟩ := trodAll_cons r0
  obtain ⟨rfl, rfl, rfl⟩ := trodAll_nil r1
  obtain rfl : args = #[v0, v1] := by cases args; simp_all
  obtain ⟨rfl, rfl⟩ := trodVars_none hV
  obtain ⟨a1, wf_a1, R0⟩ := Go.Lw.arg_int 6 (by kernel_rfl) Try.underlying2 (hval 0 2 v0 rfl rfl) h0
  obtain ⟨a2, wf_a2, R1⟩ := Go.Lw.arg_int 6 (by kernel_rfl) Try.underlying2 (hval 1 2 v1 rfl rfl) h1
  clear hA0 hval0
  refine (Go.Lw.LCalls.row (does_fun a1 a2 (by have := wf_a1; simp [Lit.wf, IntKind.min, IntKind.max, IntKind.bits, IntKind.signed] at this; first | exact this | omega) (by have := wf_a2; simp [Lit.wf, IntKind.min, IntKind.max, IntKind.bits, IntKind.signed] at this; first | exact this | omega)) W (Go.Lw.ArgsR.cons R0 (Go.Lw.ArgsR.cons R1 Go.Lw.ArgsR.nil))).mono fun e W' ⟨he, hg⟩ => ?_
  subst he
  exact ⟨_, rfl, Go.Lw.post_law (tb := 4) hW' hg (by kernel_rfl) (by kernel_rfl) rfl rfl rfl Try.underlying4⟩

theorem over : Rows.calcDoesRow.holds Try.pinned (OpenSpec.ofChange Rows.calcDoesSpec) :=
  OpenClaim.holds_of_wide 4 Try.f4 rfl rfl rfl rfl rfl rfl rfl ⟨rfl, rfl, rfl, rfl, rfl⟩ rfl rfl rfl rfl rfl (by kernel_rfl) Try.func4 (by kernel_rfl)
    (of_decide_eq_true (by kernel_rfl)) (by unfold Func.isWrapper; first | (rw [if_pos (by decide +kernel)]; kernel_rfl) | (rw [if_neg (by decide +kernel)]; exact ⟨rfl, rfl⟩))
    (fun os started H enc _ => lifted os started H enc)

theorem proved : Rows.CalcDoesSaid := over
end Go.Proofs.Ytffchlfnnilbiaa.calcDoes
