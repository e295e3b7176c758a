/- ravellaw16.PickLucky hands back true for every input, and each argument reads as it did; no condition beyond the row's own. -/
import Derived.Test.YtflfhgpcmocilaaKD1
import Derived.Test.YtflfhgpcmocilaaKD2k
import Derived.Test.YtflfhgpcmocilaaKD4k
import Derived.Test.YtflfhgpcmocilaaKD5k
import Derived.Test.YtflfhgpcmocilaaKD6k
import Derived.Test.YtflfhgpcmocilaaK7
import Derived.Test.YtflfhgpcmocilaaK8
import Derived.Test.YtflfhgpcmocilaaK9
import Derived.Test.YtflfhgpcmocilaaK10
import Derived.Test.YtflfhgpcmocilaaK11
import Derived.Test.YtflfhgpcmocilaaK12
import Derived.Test.YtflfhgpcmocilaaK13
import Derived.Test.YtflfhgpcmocilaaK14
import Derived.Test.YtflfhgpcmocilaaK15
import Derived.Test.YtflfhgpcmocilaaKD7k
import Derived.Test.YtflfhgpcmocilaaKL1
import Derived.Test.YtflfhgpcmocilaaK17
import Derived.Test.YtflfhgpcmocilaaK18
import Derived.Test.YtflfhgpcmocilaaK19
import Derived.Test.YtflfhgpcmocilaaRows
import Derived.WalkKit
import Derived.ProofKit
import Derived.OpenShut
import Derived.Below
import Derived.ChangeSlices
import Derived.KernelRfl
namespace Go.Proofs.Ytflfhgpcmocilaa.pickLucky
open Go.ChangeShapes Go.WideShapes Go.RowKit
set_option linter.unusedVariables false
set_option linter.unusedSimpArgs false

theorem own : ownKnob Try.prog.godebug = none := by kernel_rfl

set_option maxRecDepth 100000 in
theorem lifted (os : Os) (started : os.Started) (H : Type) (enc : TypeId × Value → H) :
    ReturnsInHanded {} Try.checked os 6 .any (Rows.pickLuckySpec.pre6 enc Try.prog Try.f6 Rows.pickLuckyRow.domain false) (Rows.pickLuckySpec.post enc Try.prog Try.f6 false true false false) := by
  refine returnsInHanded_of_change (C := Try.checked) own started (by kernel_rfl) Try.func6
    (ChangeSpec.witness6 (enc := enc) (C := Try.checked) false ⟨#[], #[.slice none 0 0, .slice none 0 0], []⟩ 8 (by kernel_rfl) (by kernel_rfl) (by kernel_rfl) (by kernel_rfl)) ?_
  intro W base args ds gs before hval0 hW hcnd _
  have hval : ∀ (j : Nat) t v, Try.f6.params[j]? = some t → args[j]? = some v → Value.okWide Try.prog W .any base t v := hval0
  have hW' := hW
  obtain ⟨p, q, hA0, hV, rfl, hfz, hnd⟩ := hW
  have hA : DataW.TrodAll enc Try.prog W 0 (fun _ => true) true Try.f6.params.toList args.toList ds p := hA0
  rw [Try.params6] at hA hval
  obtain ⟨v0, vs0, d0, ds0, p0, q0, hargs, rfl, rfl, h0, r0⟩ := trodAll_cons hA
  obtain ⟨v1, vs1, d1, ds1, p1, q1, rfl, rfl, rfl, h1, r1⟩ := trodAll_cons r0
  obtain ⟨rfl, rfl, rfl⟩ := trodAll_nil r1
  obtain rfl : args = #[v0, v1] := by cases args; simp_all
  obtain ⟨rfl, rfl⟩ := trodVars_none hV
  obtain ⟨r1, h_r1, R0⟩ := Go.Lw.arg_slice (s := .int .i64) 6 (by kernel_rfl) Try.underlying30 (hval 0 30 v0 rfl rfl) h0
  obtain ⟨g_r1, rfl, wf_r1⟩ := Go.Lw.typed_ints (k := .i64) (rows := r1) (by simpa only [Go.Lw.Typed] using h_r1)
  obtain ⟨r2, h_r2, R1⟩ := Go.Lw.arg_slice (s := .bool) 6 (by kernel_rfl) Try.underlying35 (hval 1 35 v1 rfl rfl) h1
  obtain ⟨g_r2, rfl⟩ := Go.Lw.typed_bools (rows := r2) (by simpa only [Go.Lw.Typed] using h_r2)
  clear hA0 hval0
  refine (Go.Lw.LCalls.row (lucky_fun g_r1 g_r2) W (Go.Lw.ArgsR.cons R0 (Go.Lw.ArgsR.cons R1 Go.Lw.ArgsR.nil))).mono fun e W' ⟨he, hg⟩ => ?_
  subst he
  exact ⟨_, rfl, Go.Lw.post_law (tb := 4) hW' hg (by kernel_rfl) (by kernel_rfl) rfl rfl rfl Try.underlying4⟩

theorem over : Rows.pickLuckyRow.holds Try.pinned (OpenSpec.ofChange Rows.pickLuckySpec) :=
  OpenClaim.holds_of_wide 6 Try.f6 rfl rfl rfl rfl rfl rfl rfl ⟨rfl, rfl, rfl, rfl, rfl⟩ rfl rfl rfl rfl rfl (by kernel_rfl) Try.func6 (by kernel_rfl)
    (of_decide_eq_true (by kernel_rfl)) (by unfold Func.isWrapper; first | (rw [if_pos (by decide +kernel)]; kernel_rfl) | (rw [if_neg (by decide +kernel)]; exact ⟨rfl, rfl⟩))
    (fun os started H enc _ => lifted os started H enc)

theorem proved : Rows.PickLuckySaid := over
end Go.Proofs.Ytflfhgpcmocilaa.pickLucky
