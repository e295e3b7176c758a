/- ravellaw16.PickDoes hands back true for every input, and each argument reads as it did; no condition beyond the row's own. -/
import Derived.Test.YtflfhgpcmocilaaKD1
import Derived.Test.YtflfhgpcmocilaaKD2k
import Derived.Test.YtflfhgpcmocilaaKD4k
import Derived.Test.YtflfhgpcmocilaaKD5k
import Derived.Test.YtflfhgpcmocilaaKD6k
import Derived.Test.YtflfhgpcmocilaaK7
import Derived.Test.YtflfhgpcmocilaaK8
import Derived.Test.YtflfhgpcmocilaaK9
import Derived.Test.YtflfhgpcmocilaaK10
import Derived.Test.YtflfhgpcmocilaaK11
import Derived.Test.YtflfhgpcmocilaaK12
import Derived.Test.YtflfhgpcmocilaaK13
import Derived.Test.YtflfhgpcmocilaaK14
import Derived.Test.YtflfhgpcmocilaaK15
import Derived.Test.YtflfhgpcmocilaaKD7k
import Derived.Test.YtflfhgpcmocilaaKL1
import Derived.Test.YtflfhgpcmocilaaK17
import Derived.Test.YtflfhgpcmocilaaK18
import Derived.Test.YtflfhgpcmocilaaKR1
import Derived.Test.YtflfhgpcmocilaaKR2
import Derived.Test.YtflfhgpcmocilaaKR3
import Derived.Test.YtflfhgpcmocilaaKR4
import Derived.Test.YtflfhgpcmocilaaKR5
import Derived.Test.YtflfhgpcmocilaaKR6
import Derived.Test.YtflfhgpcmocilaaKR7
import Derived.Test.YtflfhgpcmocilaaRows
import Derived.WalkKit
import Derived.ProofKit
import Derived.OpenShut
import Derived.Below
import Derived.ChangeSlices
import Derived.KernelRfl
namespace Go.Proofs.Ytflfhgpcmocilaa.pickDoes
open Go.ChangeShapes Go.WideShapes Go.RowKit
set_option linter.unusedVariables false
set_option linter.unusedSimpArgs false

theorem own : ownKnob Try.prog.godebug = none := by kernel_rfl

set_option maxRecDepth 100000 in
theorem lifted (os : Os) (started : os.Started) (H : Type) (enc : TypeId × Value → H) :
    ReturnsInHanded {} Try.checked os 7 .any (Rows.pickDoesSpec.pre6 enc Try.prog Try.f7 Rows.pickDoesRow.domain false) (Rows.pickDoesSpec.post enc Try.prog Try.f7 false true false false) := by
  refine returnsInHanded_of_change (C := Try.checked) own started (by kernel_rfl) Try.func7
    (ChangeSpec.witness6 (enc := enc) (C := Try.checked) false ⟨#[], #[.agg #[.slice none 0 0, .int .i64 0], .int .i64 0, .int .i64 0, .slice none 0 0, .slice none 0 0, .slice none 0 0], []⟩ 8 (by kernel_rfl) (by kernel_rfl) (by kernel_rfl) (by kernel_rfl)) ?_
  intro W base args ds gs before hval0 hW hcnd _
  have hval : ∀ (j : Nat) t v, Try.f7.params[j]? = some t → args[j]? = some v → Value.okWide Try.prog W .any base t v := hval0
  have hW' := hW
  obtain ⟨p, q, hA0, hV, rfl, hfz, hnd⟩ := hW
  have hA : DataW.TrodAll enc Try.prog W 0 (fun _ => true) true Try.f7.params.toList args.toList ds p := hA0
  rw [Try.params7] at hA hval
  obtain ⟨v0, vs0, d0, ds0, p0, q0, hargs, rfl, rfl, h0, r0⟩ := trodAll_cons hA
  obtain ⟨v1, vs1, d1, ds1, p1, q1, rfl, rfl, rfl, h1, r1⟩ := trodAll_cons r0
  obtain ⟨v2, vs2, d2, ds2, p2, q2, rfl, rfl, rfl, h2, r2⟩ := trodAll_cons r1
  obtain ⟨v3, vs3, d3, ds3, p3, q3, rfl, rfl, rfl, h3, r3⟩ := trodAll_cons r2
  obtain ⟨v4, vs4, d4, ds4, p4, q4, rfl, rfl, rfl, h4, r4⟩ := trodAll_cons r3
  obtain ⟨v5, vs5, d5, ds5, p5, q5, rfl, rfl, rfl, h5, r5⟩ := trodAll_cons r4
  obtain ⟨rfl, rfl, rfl⟩ := trodAll_nil r5
  obtain rfl : args = #[v0, v1, v2, v3, v4, v5] := by cases args; simp_all
  obtain ⟨rfl, rfl⟩ := trodVars_none hV
  obtain ⟨l0, t0, R0⟩ := Go.Lw.arg_struct (ss := [.sl (.int .u8), .int .i64]) 6 (by kernel_rfl) Try.underlying29 (hval 0 29 v0 rfl rfl) h0
  simp only [Go.Lw.Typed, Go.Lw.TypedL] at t0
  obtain ⟨_, _, rfl, ⟨r1, rfl, h_r1⟩, ⟨_, _, rfl, ⟨a2, rfl, wf_a2⟩, rfl⟩⟩ := t0
  obtain ⟨g_r1, rfl, wf_r1⟩ := Go.Lw.typed_ints (k := .u8) (rows := r1) (by simpa only [Go.Lw.Typed] using h_r1)
  obtain ⟨a3, wf_a3, R1⟩ := Go.Lw.arg_int 6 (by kernel_rfl) Try.underlying3 (hval 1 3 v1 rfl rfl) h1
  obtain ⟨a4, wf_a4, R2⟩ := Go.Lw.arg_int 6 (by kernel_rfl) Try.underlying3 (hval 2 3 v2 rfl rfl) h2
  obtain ⟨r5, h_r5, R3⟩ := Go.Lw.arg_slice (s := .int .i64) 6 (by kernel_rfl) Try.underlying30 (hval 3 30 v3 rfl rfl) h3
  obtain ⟨g_r5, rfl, wf_r5⟩ := Go.Lw.typed_ints (k := .i64) (rows := r5) (by simpa only [Go.Lw.Typed] using h_r5)
  obtain ⟨r6, h_r6, R4⟩ := Go.Lw.arg_slice (s := .st [.int .i64, .int .i64, .int .i64, .int .i64, .int .i64]) 6 (by kernel_rfl) Try.underlying39 (hval 4 39 v4 rfl rfl) h4
  obtain ⟨g_r6, rfl, wf_r6⟩ := typed_struct41 h_r6
  obtain ⟨r7, h_r7, R5⟩ := Go.Lw.arg_slice (s := .bool) 6 (by kernel_rfl) Try.underlying35 (hval 5 35 v5 rfl rfl) h5
  obtain ⟨g_r7, rfl⟩ := Go.Lw.typed_bools (rows := r7) (by simpa only [Go.Lw.Typed] using h_r7)
  clear hA0 hval0
  refine (Go.Lw.LCalls.row (does_fun g_r1 a2 a3 a4 g_r5 g_r6 g_r7 (octets_of wf_r1) wf_a3) W (Go.Lw.ArgsR.cons R0 (Go.Lw.ArgsR.cons R1 (Go.Lw.ArgsR.cons R2 (Go.Lw.ArgsR.cons R3 (Go.Lw.ArgsR.cons R4 (Go.Lw.ArgsR.cons R5 Go.Lw.ArgsR.nil))))))).mono fun e W' ⟨he, hg⟩ => ?_
  subst he
  exact ⟨_, rfl, Go.Lw.post_law (tb := 4) hW' hg (by kernel_rfl) (by kernel_rfl) rfl rfl rfl Try.underlying4⟩

theorem over : Rows.pickDoesRow.holds Try.pinned (OpenSpec.ofChange Rows.pickDoesSpec) :=
  OpenClaim.holds_of_wide 7 Try.f7 rfl rfl rfl rfl rfl rfl rfl ⟨rfl, rfl, rfl, rfl, rfl⟩ rfl rfl rfl rfl rfl (by kernel_rfl) Try.func7 (by kernel_rfl)
    (of_decide_eq_true (by kernel_rfl)) (by unfold Func.isWrapper; first | (rw [if_pos (by decide +kernel)]; kernel_rfl) | (rw [if_neg (by decide +kernel)]; exact ⟨rfl, rfl⟩))
    (fun os started H enc _ => lifted os started H enc)

theorem proved : Rows.PickDoesSaid := over
end Go.Proofs.Ytflfhgpcmocilaa.pickDoes
