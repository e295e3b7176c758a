/- ravellaw06.ChainQueues hands back true for every input, and each argument reads as it did; no condition beyond the row's own. -/
import Derived.Test.YtlikcejcdnkncaaQ1
import Derived.Test.YtlikcejcdnkncaaQ2
import Derived.Test.YtlikcejcdnkncaaQ3
import Derived.Test.YtlikcejcdnkncaaQ4
import Derived.Test.YtlikcejcdnkncaaQ5
import Derived.Test.YtlikcejcdnkncaaQ6
import Derived.Test.YtlikcejcdnkncaaQ7
import Derived.Test.YtlikcejcdnkncaaQ8
import Derived.Test.YtlikcejcdnkncaaQ9
import Derived.Test.YtlikcejcdnkncaaQ10
import Derived.Test.YtlikcejcdnkncaaQ11
import Derived.Test.YtlikcejcdnkncaaQ12
import Derived.Test.YtlikcejcdnkncaaQ13
import Derived.Test.YtlikcejcdnkncaaQ33
import Derived.Test.YtlikcejcdnkncaaQ34
import Derived.Test.YtlikcejcdnkncaaQ35
import Derived.Test.YtlikcejcdnkncaaQT
import Derived.Test.YtlikcejcdnkncaaRows
import Derived.WalkKit
import Derived.ProofKit
import Derived.OpenShut
import Derived.Below
import Derived.ChangeSlices
import Derived.KernelRfl
namespace Go.Proofs.Ytlikcejcdnkncaa.chainQueues
open Go.ChangeShapes Go.WideShapes Go.RowKit
set_option linter.unusedVariables false
set_option linter.unusedSimpArgs false

theorem own : ownKnob Try.prog.godebug = none := by kernel_rfl

set_option maxRecDepth 100000 in
theorem lifted (os : Os) (started : os.Started) (H : Type) (enc : TypeId × Value → H) :
    ReturnsInHanded {} Try.checked os 7 .any (Rows.chainQueuesSpec.pre6 enc Try.prog Try.f7 Rows.chainQueuesRow.domain false) (Rows.chainQueuesSpec.post enc Try.prog Try.f7 false true false false) := by
  refine returnsInHanded_of_change (C := Try.checked) own started (by kernel_rfl) Try.func7
    (ChangeSpec.witness6 (enc := enc) (C := Try.checked) false ⟨#[], #[.int .i64 0, .int .i64 0, .slice none 0 0], []⟩ 8 (by kernel_rfl) (by kernel_rfl) (by kernel_rfl) (by kernel_rfl)) ?_
  intro W base args ds gs before hval0 hW hcnd _
  have hval : ∀ (j : Nat) t v, Try.f7.params[j]? = some t → args[j]? = some v → Value.okWide Try.prog W .any base t v := hval0
  have hW' := hW
  obtain ⟨p, q, hA0, hV, rfl, hfz, hnd⟩ := hW
  have hA : DataW.TrodAll enc Try.prog W 0 (fun _ => true) true Try.f7.params.toList args.toList ds p := hA0
  rw [Try.params7] at hA hval
  obtain ⟨v0, vs0, d0, ds0, p0, q0, hargs, rfl, rfl, h0, r0⟩ := trodAll_cons hA
  obtain ⟨v1, vs1, d1, ds1, p1, q1, rfl, rfl, rfl, h1, r1⟩ := trodAll_cons r0
  obtain ⟨v2, vs2, d2, ds2, p2, q2, rfl, rfl, rfl, h2, r2⟩ := trodAll_cons r1
  obtain ⟨rfl, rfl, rfl⟩ := trodAll_nil r2
  obtain rfl : args = #[v0, v1, v2] := by cases args; simp_all
  obtain ⟨rfl, rfl⟩ := trodVars_none hV
  obtain ⟨a1, wf_a1, R0⟩ := Go.Lw.arg_int 6 (by kernel_rfl) Try.underlying3 (hval 0 3 v0 rfl rfl) h0
  obtain ⟨a2, wf_a2, R1⟩ := Go.Lw.arg_int 6 (by kernel_rfl) Try.underlying3 (hval 1 3 v1 rfl rfl) h1
  obtain ⟨r3, h_r3, R2⟩ := Go.Lw.arg_slice (s := .st [.int .i64, .int .i64, .int .i64, .int .i64]) 6 (by kernel_rfl) Try.underlying48 (hval 2 48 v2 rfl rfl) h2
  obtain ⟨g_r3, rfl, wf_r3⟩ := typed_struct50 h_r3
  clear hA0 hval0
  refine (Go.Lw.LCalls.row (queues_fun a1 a2 g_r3) W (Go.Lw.ArgsR.cons R0 (Go.Lw.ArgsR.cons R1 (Go.Lw.ArgsR.cons R2 Go.Lw.ArgsR.nil)))).mono fun e W' ⟨he, hg⟩ => ?_
  subst he
  exact ⟨_, rfl, Go.Lw.post_law (tb := 4) hW' hg (by kernel_rfl) (by kernel_rfl) rfl rfl rfl Try.underlying4⟩

theorem over : Rows.chainQueuesRow.holds Try.pinned (OpenSpec.ofChange Rows.chainQueuesSpec) :=
  OpenClaim.holds_of_wide 7 Try.f7 rfl rfl rfl rfl rfl rfl rfl ⟨rfl, rfl, rfl, rfl, rfl⟩ rfl rfl rfl rfl rfl (by kernel_rfl) Try.func7 (by kernel_rfl)
    (of_decide_eq_true (by kernel_rfl)) (by unfold Func.isWrapper; first | (rw [if_pos (by decide +kernel)]; kernel_rfl) | (rw [if_neg (by decide +kernel)]; exact ⟨rfl, rfl⟩))
    (fun os started H enc _ => lifted os started H enc)

theorem proved : Rows.ChainQueuesSaid := over
end Go.Proofs.Ytlikcejcdnkncaa.chainQueues
