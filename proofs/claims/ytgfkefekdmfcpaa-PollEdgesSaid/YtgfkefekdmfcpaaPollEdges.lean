/- ravellaw09.PollEdges hands back true for every input, and each argument reads as it did; no condition beyond the row's own. -/
import Derived.Test.YtgfkefekdmfcpaaP1
import Derived.Test.YtgfkefekdmfcpaaP2
import Derived.Test.YtgfkefekdmfcpaaP3
import Derived.Test.YtgfkefekdmfcpaaP4
import Derived.Test.YtgfkefekdmfcpaaP5
import Derived.Test.YtgfkefekdmfcpaaP6
import Derived.Test.YtgfkefekdmfcpaaP7
import Derived.Test.YtgfkefekdmfcpaaP16
import Derived.Test.YtgfkefekdmfcpaaP17
import Derived.Test.YtgfkefekdmfcpaaRows
import Derived.WalkKit
import Derived.ProofKit
import Derived.OpenShut
import Derived.Below
import Derived.ChangeSlices
import Derived.KernelRfl
namespace Go.Proofs.Ytgfkefekdmfcpaa.pollEdges
open Go.ChangeShapes Go.WideShapes Go.RowKit
set_option linter.unusedVariables false
set_option linter.unusedSimpArgs false

theorem own : ownKnob Try.prog.godebug = none := by kernel_rfl

set_option maxRecDepth 100000 in
theorem lifted (os : Os) (started : os.Started) (H : Type) (enc : TypeId × Value → H) :
    ReturnsInHanded {} Try.checked os 4 .any (Rows.pollEdgesSpec.pre6 enc Try.prog Try.f4 Rows.pollEdgesRow.domain false) (Rows.pollEdgesSpec.post enc Try.prog Try.f4 false true false false) := by
  refine returnsInHanded_of_change (C := Try.checked) own started (by kernel_rfl) Try.func4
    (ChangeSpec.witness6 (enc := enc) (C := Try.checked) false ⟨#[], #[.int .i64 0, .slice none 0 0], []⟩ 8 (by kernel_rfl) (by kernel_rfl) (by kernel_rfl) (by kernel_rfl)) ?_
  intro W base args ds gs before hval0 hW hcnd _
  have hval : ∀ (j : Nat) t v, Try.f4.params[j]? = some t → args[j]? = some v → Value.okWide Try.prog W .any base t v := hval0
  have hW' := hW
  obtain ⟨p, q, hA0, hV, rfl, hfz, hnd⟩ := hW
  have hA : DataW.TrodAll enc Try.prog W 0 (fun _ => true) true Try.f4.params.toList args.toList ds p := hA0
  rw [Try.params4] at hA hval
  obtain ⟨v0, vs0, d0, ds0, p0, q0, hargs, rfl, rfl, h0, r0⟩ := trodAll_cons hA
  obtain ⟨v1, vs1, d1, ds1, p1, q1, rfl, rfl, rfl, h1, r1⟩ := trodAll_cons r0
  obtain ⟨rfl, rfl, rfl⟩ := trodAll_nil r1
  obtain rfl : args = #[v0, v1] := by cases args; simp_all
  obtain ⟨rfl, rfl⟩ := trodVars_none hV
  obtain ⟨a1, wf_a1, R0⟩ := Go.Lw.arg_int 6 (by kernel_rfl) Try.underlying3 (hval 0 3 v0 rfl rfl) h0
  obtain ⟨r2, h_r2, R1⟩ := Go.Lw.arg_slice (s := .st [.int .i64, .int .i64, .int .i64]) 6 (by kernel_rfl) Try.underlying37 (hval 1 37 v1 rfl rfl) h1
  obtain ⟨g_r2, rfl, wf_r2⟩ := typed_struct42 h_r2
  clear hA0 hval0
  refine (Go.Lw.LCalls.row (edges_fun a1 g_r2) W (Go.Lw.ArgsR.cons R0 (Go.Lw.ArgsR.cons R1 Go.Lw.ArgsR.nil))).mono fun e W' ⟨he, hg⟩ => ?_
  subst he
  exact ⟨_, rfl, Go.Lw.post_law (tb := 4) hW' hg (by kernel_rfl) (by kernel_rfl) rfl rfl rfl Try.underlying4⟩

theorem over : Rows.pollEdgesRow.holds Try.pinned (OpenSpec.ofChange Rows.pollEdgesSpec) :=
  OpenClaim.holds_of_wide 4 Try.f4 rfl rfl rfl rfl rfl rfl rfl ⟨rfl, rfl, rfl, rfl, rfl⟩ rfl rfl rfl rfl rfl (by kernel_rfl) Try.func4 (by kernel_rfl)
    (of_decide_eq_true (by kernel_rfl)) (by unfold Func.isWrapper; first | (rw [if_pos (by decide +kernel)]; kernel_rfl) | (rw [if_neg (by decide +kernel)]; exact ⟨rfl, rfl⟩))
    (fun os started H enc _ => lifted os started H enc)

theorem proved : Rows.PollEdgesSaid := over
end Go.Proofs.Ytgfkefekdmfcpaa.pollEdges
