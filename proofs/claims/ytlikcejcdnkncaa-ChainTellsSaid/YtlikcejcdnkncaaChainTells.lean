/- ravellaw06.ChainTells hands back true for every input, and each argument reads as it did; no condition beyond the row's own. -/
import Derived.Test.YtlikcejcdnkncaaQ1
import Derived.Test.YtlikcejcdnkncaaQ2
import Derived.Test.YtlikcejcdnkncaaQ3
import Derived.Test.YtlikcejcdnkncaaQ4
import Derived.Test.YtlikcejcdnkncaaQ5
import Derived.Test.YtlikcejcdnkncaaQ6
import Derived.Test.YtlikcejcdnkncaaQ7
import Derived.Test.YtlikcejcdnkncaaQ8
import Derived.Test.YtlikcejcdnkncaaQ9
import Derived.Test.YtlikcejcdnkncaaQ10
import Derived.Test.YtlikcejcdnkncaaQ11
import Derived.Test.YtlikcejcdnkncaaQ12
import Derived.Test.YtlikcejcdnkncaaQ13
import Derived.Test.YtlikcejcdnkncaaQ14
import Derived.Test.YtlikcejcdnkncaaQ15
import Derived.Test.YtlikcejcdnkncaaQ16
import Derived.Test.YtlikcejcdnkncaaQ17
import Derived.Test.YtlikcejcdnkncaaQ18
import Derived.Test.YtlikcejcdnkncaaQ19
import Derived.Test.YtlikcejcdnkncaaRows
import Derived.WalkKit
import Derived.ProofKit
import Derived.OpenShut
import Derived.Below
import Derived.ChangeSlices
import Derived.KernelRfl
namespace Go.Proofs.Ytlikcejcdnkncaa.chainTells
open Go.ChangeShapes Go.WideShapes Go.RowKit
set_option linter.unusedVariables false
set_option linter.unusedSimpArgs false

theorem own : ownKnob Try.prog.godebug = none := by kernel_rfl

set_option maxRecDepth 100000 in
theorem lifted (os : Os) (started : os.Started) (H : Type) (enc : TypeId × Value → H) :
    ReturnsInHanded {} Try.checked os 6 .any (Rows.chainTellsSpec.pre6 enc Try.prog Try.f6 Rows.chainTellsRow.domain false) (Rows.chainTellsSpec.post enc Try.prog Try.f6 false true false false) := by
  refine returnsInHanded_of_change (C := Try.checked) own started (by kernel_rfl) Try.func6
    (ChangeSpec.witness6 (enc := enc) (C := Try.checked) false ⟨#[], #[.int .i64 0, .int .i64 0, .agg #[.slice none 0 0, .slice none 0 0, .slice none 0 0], .agg #[.slice none 0 0, .slice none 0 0, .slice none 0 0], .int .i64 0, .int .i64 0], []⟩ 8 (by kernel_rfl) (by kernel_rfl) (by kernel_rfl) (by kernel_rfl)) ?_
  intro W base args ds gs before hval0 hW hcnd _
  have hval : ∀ (j : Nat) t v, Try.f6.params[j]? = some t → args[j]? = some v → Value.okWide Try.prog W .any base t v := hval0
  have hW' := hW
  obtain ⟨p, q, hA0, hV, rfl, hfz, hnd⟩ := hW
  have hA : DataW.TrodAll enc Try.prog W 0 (fun _ => true) true Try.f6.params.toList args.toList ds p := hA0
  rw [Try.params6] at hA hval
  obtain ⟨v0, vs0, d0, ds0, p0, q0, hargs, rfl, rfl, h0, r0⟩ := trodAll_cons hA
  obtain ⟨v1, vs1, d1, ds1, p1, q1, rfl, rfl, rfl, h1, r1⟩ := trodAll_cons r0
  obtain ⟨v2, vs2, d2, ds2, p2, q2, rfl, rfl, rfl, h2, r2⟩ := trodAll_cons r1
  obtain ⟨v3, vs3, d3, ds3, p3, q3, rfl, rfl, rfl, h3, r3⟩ := trodAll_cons r2
  obtain ⟨v4, vs4, d4, ds4, p4, q4, rfl, rfl, rfl, h4, r4⟩ := trodAll_cons r3
  obtain ⟨v5, vs5, d5, ds5, p5, q5, rfl, rfl, rfl, h5, r5⟩ := trodAll_cons r4
  obtain ⟨rfl, rfl, rfl⟩ := trodAll_nil r5
  obtain rfl : args = #[v0, v1, v2, v3, v4, v5] := by cases args; simp_all
  obtain ⟨rfl, rfl⟩ := trodVars_none hV
  obtain ⟨a1, wf_a1, R0⟩ := Go.Lw.arg_int 6 (by kernel_rfl) Try.underlying3 (hval 0 3 v0 rfl rfl) h0
  obtain ⟨a2, wf_a2, R1⟩ := Go.Lw.arg_int 6 (by kernel_rfl) Try.underlying3 (hval 1 3 v1 rfl rfl) h1
  obtain ⟨l2, t2, R2⟩ := Go.Lw.arg_struct (ss := [.sl (.int .i64), .sl (.int .i64), .sl (.int .i64)]) 6 (by kernel_rfl) Try.underlying24 (hval 2 24 v2 rfl rfl) h2
  simp only [Go.Lw.Typed, Go.Lw.TypedL] at t2
  obtain ⟨_, _, rfl, ⟨r3, rfl, h_r3⟩, ⟨_, _, rfl, ⟨r4, rfl, h_r4⟩, ⟨_, _, rfl, ⟨r5, rfl, h_r5⟩, rfl⟩⟩⟩ := t2
  obtain ⟨g_r3, rfl, wf_r3⟩ := Go.Lw.typed_ints (k := .i64) (rows := r3) (by simpa only [Go.Lw.Typed] using h_r3)
  obtain ⟨g_r4, rfl, wf_r4⟩ := Go.Lw.typed_ints (k := .i64) (rows := r4) (by simpa only [Go.Lw.Typed] using h_r4)
  obtain ⟨g_r5, rfl, wf_r5⟩ := Go.Lw.typed_ints (k := .i64) (rows := r5) (by simpa only [Go.Lw.Typed] using h_r5)
  obtain ⟨l3, t3, R3⟩ := Go.Lw.arg_struct (ss := [.sl (.int .i64), .sl (.int .i64), .sl (.int .i64)]) 6 (by kernel_rfl) Try.underlying24 (hval 3 24 v3 rfl rfl) h3
  simp only [Go.Lw.Typed, Go.Lw.TypedL] at t3
  obtain ⟨_, _, rfl, ⟨r6, rfl, h_r6⟩, ⟨_, _, rfl, ⟨r7, rfl, h_r7⟩, ⟨_, _, rfl, ⟨r8, rfl, h_r8⟩, rfl⟩⟩⟩ := t3
  obtain ⟨g_r6, rfl, wf_r6⟩ := Go.Lw.typed_ints (k := .i64) (rows := r6) (by simpa only [Go.Lw.Typed] using h_r6)
  obtain ⟨g_r7, rfl, wf_r7⟩ := Go.Lw.typed_ints (k := .i64) (rows := r7) (by simpa only [Go.Lw.Typed] using h_r7)
  obtain ⟨g_r8, rfl, wf_r8⟩ := Go.Lw.typed_ints (k := .i64) (rows := r8) (by simpa only [Go.Lw.Typed] using h_r8)
  obtain ⟨a9, wf_a9, R4⟩ := Go.Lw.arg_int 6 (by kernel_rfl) Try.underlying3 (hval 4 3 v4 rfl rfl) h4
  obtain ⟨a10, wf_a10, R5⟩ := Go.Lw.arg_int 6 (by kernel_rfl) Try.underlying3 (hval 5 3 v5 rfl rfl) h5
  clear hA0 hval0
  refine (Go.Lw.LCalls.row (tells_fun a1 a2 g_r3 g_r4 g_r5 g_r6 g_r7 g_r8 a9 a10) W (Go.Lw.ArgsR.cons R0 (Go.Lw.ArgsR.cons R1 (Go.Lw.ArgsR.cons R2 (Go.Lw.ArgsR.cons R3 (Go.Lw.ArgsR.cons R4 (Go.Lw.ArgsR.cons R5 Go.Lw.ArgsR.nil))))))).mono fun e W' ⟨he, hg⟩ => ?_
  subst he
  exact ⟨_, rfl, Go.Lw.post_law (tb := 4) hW' hg (by kernel_rfl) (by kernel_rfl) rfl rfl rfl Try.underlying4⟩

theorem over : Rows.chainTellsRow.holds Try.pinned (OpenSpec.ofChange Rows.chainTellsSpec) :=
  OpenClaim.holds_of_wide 6 Try.f6 rfl rfl rfl rfl rfl rfl rfl ⟨rfl, rfl, rfl, rfl, rfl⟩ rfl rfl rfl rfl rfl (by kernel_rfl) Try.func6 (by kernel_rfl)
    (of_decide_eq_true (by kernel_rfl)) (by unfold Func.isWrapper; first | (rw [if_pos (by decide +kernel)]; kernel_rfl) | (rw [if_neg (by decide +kernel)]; exact ⟨rfl, rfl⟩))
    (fun os started H enc _ => lifted os started H enc)

theorem proved : Rows.ChainTellsSaid := over
end Go.Proofs.Ytlikcejcdnkncaa.chainTells
