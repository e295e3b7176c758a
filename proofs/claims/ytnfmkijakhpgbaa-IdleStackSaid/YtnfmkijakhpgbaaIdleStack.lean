/- ravellaw17.IdleStack hands back true for every input, and each argument reads as it did; no condition beyond the row's own. -/
import Derived.Test.YtnfmkijakhpgbaaI0
import Derived.Test.YtnfmkijakhpgbaaI1
import Derived.Test.YtnfmkijakhpgbaaI2
import Derived.Test.YtnfmkijakhpgbaaI3
import Derived.Test.YtnfmkijakhpgbaaI4
import Derived.Test.YtnfmkijakhpgbaaI5
import Derived.Test.YtnfmkijakhpgbaaI6
import Derived.Test.YtnfmkijakhpgbaaI7
import Derived.Test.YtnfmkijakhpgbaaI8
import Derived.Test.YtnfmkijakhpgbaaI14
import Derived.Test.YtnfmkijakhpgbaaI15
import Derived.Test.YtnfmkijakhpgbaaRows
import Derived.WalkKit
import Derived.ProofKit
import Derived.OpenShut
import Derived.Below
import Derived.ChangeSlices
import Derived.KernelRfl
namespace Go.Proofs.Ytnfmkijakhpgbaa.idleStack
open Go.ChangeShapes Go.WideShapes Go.RowKit
set_option linter.unusedVariables false
set_option linter.unusedSimpArgs false

theorem own : ownKnob Try.prog.godebug = none := by kernel_rfl

set_option maxRecDepth 100000 in
theorem lifted (os : Os) (started : os.Started) (H : Type) (enc : TypeId × Value → H) :
    ReturnsInHanded {} Try.checked os 4 .any (Rows.idleStackSpec.pre6 enc Try.prog Try.f4 Rows.idleStackRow.domain false) (Rows.idleStackSpec.post enc Try.prog Try.f4 false true false false) := by
  refine returnsInHanded_of_change (C := Try.checked) own started (by kernel_rfl) Try.func4
    (ChangeSpec.witness6 (enc := enc) (C := Try.checked) false ⟨#[], #[.int .i64 0, .slice none 0 0, .slice none 0 0], []⟩ 8 (by kernel_rfl) (by kernel_rfl) (by kernel_rfl) (by kernel_rfl)) ?_
  intro W base args ds gs before hval0 hW hcnd _
  have hval : ∀ (j : Nat) t v, Try.f4.params[j]? = some t → args[j]? = some v → Value.okWide Try.prog W .any base t v := hval0
  have hW' := hW
  obtain ⟨p, q, hA0, hV, rfl, hfz, hnd⟩ := hW
  have hA : DataW.TrodAll enc Try.prog W 0 (fun _ => true) true Try.f4.params.toList args.toList ds p := hA0
  rw [Try.params4] at hA hval
  obtain ⟨v0, vs0, d0, ds0, p0, q0, hargs, rfl, rfl, h0, r0⟩ := trodAll_cons hA
  obtain ⟨v1, vs1, d1, ds1, p1, q1, rfl, rfl, rfl, h1, r1⟩ := trodAll_cons r0
  obtain ⟨v2, vs2, d2, ds2, p2, q2, rfl, rfl, rfl, h2, r2⟩ := trodAll_cons r1
  obtain ⟨rfl, rfl, rfl⟩ := trodAll_nil r2
  obtain rfl : args = #[v0, v1, v2] := by cases args; simp_all
  obtain ⟨rfl, rfl⟩ := trodVars_none hV
  obtain ⟨a1, wf_a1, R0⟩ := Go.Lw.arg_int 6 (by kernel_rfl) Try.underlying3 (hval 0 3 v0 rfl rfl) h0
  obtain ⟨r2, h_r2, R1⟩ := Go.Lw.arg_slice (s := .int .u8) 6 (by kernel_rfl) Try.underlying32 (hval 1 32 v1 rfl rfl) h1
  obtain ⟨g_r2, rfl, wf_r2⟩ := Go.Lw.typed_ints (k := .u8) (rows := r2) (by simpa only [Go.Lw.Typed] using h_r2)
  obtain ⟨r3, h_r3, R2⟩ := Go.Lw.arg_slice (s := .int .u8) 6 (by kernel_rfl) Try.underlying32 (hval 2 32 v2 rfl rfl) h2
  obtain ⟨g_r3, rfl, wf_r3⟩ := Go.Lw.typed_ints (k := .u8) (rows := r3) (by simpa only [Go.Lw.Typed] using h_r3)
  clear hA0 hval0
  refine (Go.Lw.LCalls.row (stack_fun a1 g_r2 g_r3 (oct_of wf_r2) (oct_of wf_r3)) W (Go.Lw.ArgsR.cons R0 (Go.Lw.ArgsR.cons R1 (Go.Lw.ArgsR.cons R2 Go.Lw.ArgsR.nil)))).mono fun e W' ⟨he, hg⟩ => ?_
  subst he
  exact ⟨_, rfl, Go.Lw.post_law (tb := 4) hW' hg (by kernel_rfl) (by kernel_rfl) rfl rfl rfl Try.underlying4⟩

theorem over : Rows.idleStackRow.holds Try.pinned (OpenSpec.ofChange Rows.idleStackSpec) :=
  OpenClaim.holds_of_wide 4 Try.f4 rfl rfl rfl rfl rfl rfl rfl ⟨rfl, rfl, rfl, rfl, rfl⟩ rfl rfl rfl rfl rfl (by kernel_rfl) Try.func4 (by kernel_rfl)
    (of_decide_eq_true (by kernel_rfl)) (by unfold Func.isWrapper; first | (rw [if_pos (by decide +kernel)]; kernel_rfl) | (rw [if_neg (by decide +kernel)]; exact ⟨rfl, rfl⟩))
    (fun os started H enc _ => lifted os started H enc)

theorem proved : Rows.IdleStackSaid := over
end Go.Proofs.Ytnfmkijakhpgbaa.idleStack
