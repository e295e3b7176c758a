/- ravellaw16.PickHalves hands back true for every input, and each argument reads as it did; no condition beyond the row's own. -/
import Derived.Test.YtflfhgpcmocilaaKD1
import Derived.Test.YtflfhgpcmocilaaKD2k
import Derived.Test.YtflfhgpcmocilaaKD4k
import Derived.Test.YtflfhgpcmocilaaKD5k
import Derived.Test.YtflfhgpcmocilaaKD6k
import Derived.Test.YtflfhgpcmocilaaK7
import Derived.Test.YtflfhgpcmocilaaK8
import Derived.Test.YtflfhgpcmocilaaK9
import Derived.Test.YtflfhgpcmocilaaK10
import Derived.Test.YtflfhgpcmocilaaK11
import Derived.Test.YtflfhgpcmocilaaRows
import Derived.WalkKit
import Derived.ProofKit
import Derived.OpenShut
import Derived.Below
import Derived.ChangeSlices
import Derived.KernelRfl
namespace Go.Proofs.Ytflfhgpcmocilaa.pickHalves
open Go.ChangeShapes Go.WideShapes Go.RowKit
set_option linter.unusedVariables false
set_option linter.unusedSimpArgs false

theorem own : ownKnob Try.prog.godebug = none := by kernel_rfl

set_option maxRecDepth 100000 in
theorem lifted (os : Os) (started : os.Started) (H : Type) (enc : TypeId × Value → H) :
    ReturnsInHanded {} Try.checked os 3 .any (Rows.pickHalvesSpec.pre6 enc Try.prog Try.f3 Rows.pickHalvesRow.domain false) (Rows.pickHalvesSpec.post enc Try.prog Try.f3 false true false false) := by
  refine returnsInHanded_of_change (C := Try.checked) own started (by kernel_rfl) Try.func3
    (ChangeSpec.witness6 (enc := enc) (C := Try.checked) false ⟨#[], #[.int .i64 0], []⟩ 8 (by kernel_rfl) (by kernel_rfl) (by kernel_rfl) (by kernel_rfl)) ?_
  intro W base args ds gs before hval0 hW hcnd _
  have hval : ∀ (j : Nat) t v, Try.f3.params[j]? = some t → args[j]? = some v → Value.okWide Try.prog W .any base t v := hval0
  have hW' := hW
  obtain ⟨p, q, hA0, hV, rfl, hfz, hnd⟩ := hW
  have hA : DataW.TrodAll enc Try.prog W 0 (fun _ => true) true Try.f3.params.toList args.toList ds p := hA0
  rw [Try.params3] at hA hval
  obtain ⟨v0, vs0, d0, ds0, p0, q0, hargs, rfl, rfl, h0, r0⟩ := trodAll_cons hA
  obtain ⟨rfl, rfl, rfl⟩ := trodAll_nil r0
  obtain rfl : args = #[v0] := by cases args; simp_all
  obtain ⟨rfl, rfl⟩ := trodVars_none hV
  obtain ⟨a1, wf_a1, R0⟩ := Go.Lw.arg_int 6 (by kernel_rfl) Try.underlying3 (hval 0 3 v0 rfl rfl) h0
  clear hA0 hval0
  refine (Go.Lw.LCalls.row (halves_fun a1 wf_a1) W (Go.Lw.ArgsR.cons R0 Go.Lw.ArgsR.nil)).mono fun e W' ⟨he, hg⟩ => ?_
  subst he
  exact ⟨_, rfl, Go.Lw.post_law (tb := 4) hW' hg (by kernel_rfl) (by kernel_rfl) rfl rfl rfl Try.underlying4⟩

theorem over : Rows.pickHalvesRow.holds Try.pinned (OpenSpec.ofChange Rows.pickHalvesSpec) :=
  OpenClaim.holds_of_wide 3 Try.f3 rfl rfl rfl rfl rfl rfl rfl ⟨rfl, rfl, rfl, rfl, rfl⟩ rfl rfl rfl rfl rfl (by kernel_rfl) Try.func3 (by kernel_rfl)
    (of_decide_eq_true (by kernel_rfl)) (by unfold Func.isWrapper; first | (rw [if_pos (by decide +kernel)]; kernel_rfl) | (rw [if_neg (by decide +kernel)]; exact ⟨rfl, rfl⟩))
    (fun os started H enc _ => lifted os started H enc)

theorem proved : Rows.PickHalvesSaid := over
end Go.Proofs.Ytflfhgpcmocilaa.pickHalves
