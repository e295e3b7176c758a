/- ravellaw06.ChainMoves hands back true for every input, and each argument reads as it did; no condition beyond the row's own. -/
import Derived.Test.YtlikcejcdnkncaaQ1
import Derived.Test.YtlikcejcdnkncaaQ2
import Derived.Test.YtlikcejcdnkncaaQ3
import Derived.Test.YtlikcejcdnkncaaQ4
import Derived.Test.YtlikcejcdnkncaaQ5
import Derived.Test.YtlikcejcdnkncaaQ6
import Derived.Test.YtlikcejcdnkncaaQ7
import Derived.Test.YtlikcejcdnkncaaQ8
import Derived.Test.YtlikcejcdnkncaaQ9
import Derived.Test.YtlikcejcdnkncaaQ10
import Derived.Test.YtlikcejcdnkncaaQ11
import Derived.Test.YtlikcejcdnkncaaQ12
import Derived.Test.YtlikcejcdnkncaaQ13
import Derived.Test.YtlikcejcdnkncaaQ14
import Derived.Test.YtlikcejcdnkncaaQ15
import Derived.Test.YtlikcejcdnkncaaQ16
import Derived.Test.YtlikcejcdnkncaaQ17
import Derived.Test.YtlikcejcdnkncaaQ18
import Derived.Test.YtlikcejcdnkncaaQ20
import Derived.Test.YtlikcejcdnkncaaQ21
import Derived.Test.YtlikcejcdnkncaaQ22
import Derived.Test.YtlikcejcdnkncaaQ23
import Derived.Test.YtlikcejcdnkncaaQ24
import Derived.Test.YtlikcejcdnkncaaQ25
import Derived.Test.YtlikcejcdnkncaaQ26
import Derived.Test.YtlikcejcdnkncaaQ27
import Derived.Test.YtlikcejcdnkncaaQ28
import Derived.Test.YtlikcejcdnkncaaQ29
import Derived.Test.YtlikcejcdnkncaaQ30
import Derived.Test.YtlikcejcdnkncaaQ31
import Derived.Test.YtlikcejcdnkncaaQ32
import Derived.Test.YtlikcejcdnkncaaRows
import Derived.WalkKit
import Derived.ProofKit
import Derived.OpenShut
import Derived.Below
import Derived.ChangeSlices
import Derived.KernelRfl
namespace Go.Proofs.Ytlikcejcdnkncaa.chainMoves
open Go.ChangeShapes Go.WideShapes Go.RowKit
set_option linter.unusedVariables false
set_option linter.unusedSimpArgs false

theorem own : ownKnob Try.prog.godebug = none := by kernel_rfl

set_option maxRecDepth 100000 in
theorem lifted (os : Os) (started : os.Started) (H : Type) (enc : TypeId × Value → H) :
    ReturnsInHanded {} Try.checked os 5 .any (Rows.chainMovesSpec.pre6 enc Try.prog Try.f5 Rows.chainMovesRow.domain false) (Rows.chainMovesSpec.post enc Try.prog Try.f5 false true false false) := by
  refine returnsInHanded_of_change (C := Try.checked) own started (by kernel_rfl) Try.func5
    (ChangeSpec.witness6 (enc := enc) (C := Try.checked) false ⟨#[], #[.agg #[.slice none 0 0, .slice none 0 0, .slice none 0 0], .int .i64 0, .int .i64 0, .int .i64 0], []⟩ 8 (by kernel_rfl) (by kernel_rfl) (by kernel_rfl) (by kernel_rfl)) ?_
  intro W base args ds gs before hval0 hW hcnd _
  have hval : ∀ (j : Nat) t v, Try.f5.params[j]? = some t → args[j]? = some v → Value.okWide Try.prog W .any base t v := hval0
  have hW' := hW
  obtain ⟨p, q, hA0, hV, rfl, hfz, hnd⟩ := hW
  have hA : DataW.TrodAll enc Try.prog W 0 (fun _ => true) true Try.f5.params.toList args.toList ds p := hA0
  rw [Try.params5] at hA hval
  obtain ⟨v0, vs0, d0, ds0, p0, q0, hargs, rfl, rfl, h0, r0⟩ := trodAll_cons hA
  obtain ⟨v1, vs1, d1, ds1, p1, q1, rfl, rfl, rfl, h1, r1⟩ := trodAll_cons r0
  obtain ⟨v2, vs2, d2, ds2, p2, q2, rfl, rfl, rfl, h2, r2⟩ := trodAll_cons r1
  obtain ⟨v3, vs3, d3, ds3, p3, q3, rfl, rfl, rfl, h3, r3⟩ := trodAll_cons r2
  obtain ⟨rfl, rfl, rfl⟩ := trodAll_nil r3
  obtain rfl : args = #[v0, v1, v2, v3] := by cases args; simp_all
  obtain ⟨rfl, rfl⟩ := trodVars_none hV
  obtain ⟨l0, t0, R0⟩ := Go.Lw.arg_struct (ss := [.sl (.int .i64), .sl (.int .i64), .sl (.int .i64)]) 6 (by kernel_rfl) Try.underlying24 (hval 0 24 v0 rfl rfl) h0
  simp only [Go.Lw.Typed, Go.Lw.TypedL] at t0
  obtain ⟨_, _, rfl, ⟨r1, rfl, h_r1⟩, ⟨_, _, rfl, ⟨r2, rfl, h_r2⟩, ⟨_, _, rfl, ⟨r3, rfl, h_r3⟩, rfl⟩⟩⟩ := t0
  obtain ⟨g_r1, rfl, wf_r1⟩ := Go.Lw.typed_ints (k := .i64) (rows := r1) (by simpa only [Go.Lw.Typed] using h_r1)
  obtain ⟨g_r2, rfl, wf_r2⟩ := Go.Lw.typed_ints (k := .i64) (rows := r2) (by simpa only [Go.Lw.Typed] using h_r2)
  obtain ⟨g_r3, rfl, wf_r3⟩ := Go.Lw.typed_ints (k := .i64) (rows := r3) (by simpa only [Go.Lw.Typed] using h_r3)
  obtain ⟨a4, wf_a4, R1⟩ := Go.Lw.arg_int 6 (by kernel_rfl) Try.underlying3 (hval 1 3 v1 rfl rfl) h1
  obtain ⟨a5, wf_a5, R2⟩ := Go.Lw.arg_int 6 (by kernel_rfl) Try.underlying3 (hval 2 3 v2 rfl rfl) h2
  obtain ⟨a6, wf_a6, R3⟩ := Go.Lw.arg_int 6 (by kernel_rfl) Try.underlying3 (hval 3 3 v3 rfl rfl) h3
  clear hA0 hval0
  refine (Go.Lw.LCalls.row (moves_fun g_r1 g_r2 g_r3 a4 a5 a6) W (Go.Lw.ArgsR.cons R0 (Go.Lw.ArgsR.cons R1 (Go.Lw.ArgsR.cons R2 (Go.Lw.ArgsR.cons R3 Go.Lw.ArgsR.nil))))).mono fun e W' ⟨he, hg⟩ => ?_
  subst he
  exact ⟨_, rfl, Go.Lw.post_law (tb := 4) hW' hg (by kernel_rfl) (by kernel_rfl) rfl rfl rfl Try.underlying4⟩

theorem over : Rows.chainMovesRow.holds Try.pinned (OpenSpec.ofChange Rows.chainMovesSpec) :=
  OpenClaim.holds_of_wide 5 Try.f5 rfl rfl rfl rfl rfl rfl rfl ⟨rfl, rfl, rfl, rfl, rfl⟩ rfl rfl rfl rfl rfl (by kernel_rfl) Try.func5 (by kernel_rfl)
    (of_decide_eq_true (by kernel_rfl)) (by unfold Func.isWrapper; first | (rw [if_pos (by decide +kernel)]; kernel_rfl) | (rw [if_neg (by decide +kernel)]; exact ⟨rfl, rfl⟩))
    (fun os started H enc _ => lifted os started H enc)

theorem proved : Rows.ChainMovesSaid := over
end Go.Proofs.Ytlikcejcdnkncaa.chainMoves
