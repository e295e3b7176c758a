/- Chapter 02: Div64, MulDiv. -/
import Derived.Test.YtffchlfnnilbiaaB23
import Derived.Test.YtffchlfnnilbiaaB19
set_option linter.unusedSimpArgs false
set_option linter.unusedVariables false
namespace Go.Proofs.Ytffchlfnnilbiaa
open Go.Lw
attribute [local irreducible] LK LOps LW
set_option maxHeartbeats 4000000 in
set_option maxRecDepth 20000 in
theorem div_small (lo y : Int) (h0 : 0 < y) (h1 : 0 ≤ lo) (h2 : lo < 18446744073709551616) : Fun Try.prog 31 [vu 0, vu lo, vu y] (.tup [vu (lo / y), vu (lo % y)]) := by
  have b1 : (y == 0) = false := by rw [beq_eq_false_iff_ne]; omega
  have b2 : ¬ (y ≤ 0) := by omega
  have n2 : ¬ y = 0 := by omega
  have q0 : 0 ≤ lo / y := Int.ediv_nonneg h1 (by omega)
  have q1 : lo / y ≤ lo := Int.ediv_le_self y h1
  have m0 := Int.emod_nonneg lo (show y ≠ 0 by omega)
  have m2 := Int.mul_ediv_add_emod lo y
  have m3 : 0 ≤ y * (lo / y) := Int.mul_nonneg (by omega) q0
  have m1 : lo % y ≤ lo := by omega
  have e1 : IntKind.u64.wrap (lo.tdiv y) = lo / y := by rw [Int.tdiv_eq_ediv_of_nonneg h1, IntKind.wrap_u64]; omega
  have e2 : IntKind.u64.wrap (lo.tmod y) = lo % y := by rw [Int.tmod_eq_emod_of_nonneg h1, IntKind.wrap_u64]; omega
  (refine LCalls.enter Try.func31 rfl (by simp [Try.ntmps31]) (LK.start ?_); simp only [Try.ntmps31, enterA, Nat.zero_add])
  (repeat' first | refine LOps.done ?_ | (apply LOps.mv; (focus (first | exact Goes.free | exact Goes.on rfl rfl (by with_reducible rfl) true (by decide))); (focus (exact rfl)); (focus (exact rfl))) | (apply LOps.loc; (focus (first | exact Goes.free | exact Goes.on rfl rfl (by with_reducible rfl) true (by decide))); (focus (exact rfl)); (focus (exact rfl)); (focus (simp only [go_sem, ↓reduceIte, Nat.reduceEqDiff, b1, b2]; with_reducible rfl))) | refine LK.seq ?_ | refine LK.skip ?_ | refine LK.ret' ?_ | (apply LK.condT2; (focus (exact rfl)); (focus (with_reducible rfl)); (focus (first | with_reducible rfl | decide | (with_reducible exact Bool.true_or _) | (with_reducible exact congrArg (fun b => b || _) (Bool.true_or _))))) | (apply LK.condF2; (focus (exact rfl)); (focus (with_reducible rfl)); (focus (first | with_reducible rfl | decide | (with_reducible exact Bool.false_and _) | (with_reducible exact congrArg (fun b => b && _) (Bool.false_and _))))) | refine LK.regc ?_ | (apply retQ; (focus (first | exact lres_one rfl | exact lres_more rfl | (simp only [lres, lresv, Try.results31, go_sem, ↓reduceIte, Nat.reduceEqDiff, reduceCtorEq, Nat.reduceLT, Nat.reduceAdd, Int.reduceBEq, Int.reduceBNe, Int.reduceEq, Int.reduceLE, Int.reduceLT, Int.reduceToNat, Nat.reduceLeDiff, Nat.reduceMul, Nat.reduceSub, b1, b2, n2, e1, e2]; exact rfl)))) | (apply LK.drawn3; (focus (exact Ty.mixed)); (focus ((repeat' first | exact DRun.nil _ _ _ | (apply DRun.aopS; (focus (exact rfl)); (focus (first | exact rfl | (simp only [oF_idss, oF_ids, idss_MB, idss_MI, objsOf, idsOf, LV.ids, LV.idss, LO.ids, idss_pv, lookB_eq, List.any_nil, List.any_cons, cond_true, cond_false, List.flatten_cons, List.flatten_nil, Nat.reduceBEq, Bool.or_false, Bool.false_or, Bool.or_true, go_sem, ↓reduceIte, Nat.reduceEqDiff, reduceCtorEq, Nat.reduceLT, Nat.reduceAdd, Int.reduceBEq, Int.reduceBNe, Int.reduceEq, Int.reduceLE, Int.reduceLT, Int.reduceToNat, Nat.reduceLeDiff, Nat.reduceMul, Nat.reduceSub, b1, b2, n2, e1, e2]; exact rfl))); (focus (first | exact Goes.free | exact Goes.on rfl rfl (by with_reducible rfl) true (by decide))); (focus (simp only [go_sem, ↓reduceIte, Nat.reduceEqDiff, n2, e1]; exact rfl)); (focus (exact rfl)); (focus (first | decide +kernel | (simp only [evOk, ovOk, nvOk, keepOf, vis, LV.under, LV.idp, LO.under, LO.idp, List.all_cons, List.all_nil, List.any_nil, Bool.and_true, Bool.false_or, Bool.and_self]; done) | (simp [evOk, ovOk, nvOk, keepOf, vis, LV.under, LV.idp, LO.under, LO.idp]; done) | exact rfl))) | fail); done)); (focus kernel_rfl); (focus (first | exact puOk_none rfl | (simp [puOk, evShape, nvShape, look, oF_len, go_sem, ↓reduceIte, Nat.reduceEqDiff, reduceCtorEq, Nat.reduceLT, Nat.reduceAdd, Int.reduceBEq, Int.reduceBNe, Int.reduceEq, Int.reduceLE, Int.reduceLT, Int.reduceToNat, Nat.reduceLeDiff, Nat.reduceMul, Nat.reduceSub, b1, b2, n2, e1, e2]; done))); (focus (first | (simp only [go_sem, Nat.reduceAdd]; exact rfl) | exact rfl)); (focus (first | (simp only [go_sem, ↓reduceIte, Nat.reduceEqDiff, reduceCtorEq, Nat.reduceLT, Nat.reduceAdd, Int.reduceBEq, Int.reduceBNe, Int.reduceEq, Int.reduceLE, Int.reduceLT, Int.reduceToNat, Nat.reduceLeDiff, Nat.reduceMul, Nat.reduceSub, b1, b2, n2, e1, e2]; exact rfl) | exact rfl)); (focus (first | (simp only [go_sem, ↓reduceIte, Nat.reduceEqDiff, reduceCtorEq, Nat.reduceLT, Nat.reduceAdd, Int.reduceBEq, Int.reduceBNe, Int.reduceEq, Int.reduceLE, Int.reduceLT, Int.reduceToNat, Nat.reduceLeDiff, Nat.reduceMul, Nat.reduceSub, b1, b2, n2, e1, e2]; exact rfl) | exact rfl))) | fail)
  rw [Int.tmod_eq_emod_of_nonneg h1]
theorem shlU {a : Int} {k : Nat} (h0 : 0 ≤ a * 2 ^ k) (h : a * 2 ^ k < 18446744073709551616) (hk : k ≤ 63) : shlI .u64 a k = a * 2 ^ k := by
  show IntKind.u64.wrap (a * 2 ^ (min (k : Int).toNat 64)) = _
  rw [Int.toNat_natCast, show min k 64 = k by omega, IntKind.wrap_u64]; omega
theorem div_big (hi lo y : Int) (h1 : 0 < hi) (h2 : hi < y) (h3 : y < 9223372036854775808) (l0 : 0 ≤ lo) (l1 : lo < 18446744073709551616) : ∃ X, Fun Try.prog 31 [vu hi, vu lo, vu y] (.tup [vu ((hi * 18446744073709551616 + lo) / y), vu X]) := by
  obtain ⟨l, hl⟩ := len_fun y (by omega) (by omega)
  have hz := lz_fun y l hl
  obtain ⟨g1, g2, g3, g4, _⟩ := hl
  have hl63 : l ≤ 63 := by
    rcases Nat.lt_or_ge l 64 with h | h
    · omega
    · have e : l = 64 := by omega
      subst e
      have : (2 : Int) ^ (64 - 1) = 9223372036854775808 := rfl
      rw [this] at g3; omega
  have hPR : (2 : Int) ^ (64 - l) * 2 ^ l = 18446744073709551616 := by rw [← Int.pow_add, show 64 - l + l = 64 by omega]; rfl
  have hPR' : (2 : Int) ^ (64 - l) * 2 ^ (l - 1) = 9223372036854775808 := by rw [← Int.pow_add, show 64 - l + (l - 1) = 63 by omega]; rfl
  have hP : (0 : Int) < 2 ^ (64 - l) := Int.pow_pos (by omega)
  have hR : (0 : Int) < 2 ^ l := Int.pow_pos (by omega)
  have hY1 : y * 2 ^ (64 - l) < 18446744073709551616 := by
    have := Int.mul_lt_mul_of_pos_right g4 hP
    rw [Int.mul_comm (2 ^ l), hPR] at this; exact this
  have hY2 : 9223372036854775808 ≤ y * 2 ^ (64 - l) := by
    have := Int.mul_le_mul_of_nonneg_right g3 (Int.le_of_lt hP)
    rw [Int.mul_comm (2 ^ (l - 1)), hPR'] at this; exact this
  obtain ⟨v1, v2, v3, v4, v5⟩ := moved hP hR hPR (by omega) h2 hY1 l0 l1
  have eL : lo.fdiv (2 ^ min (IntKind.u64.wrap (64 - ((64 - l : Nat) : Int))).toNat 64) = lo / 2 ^ l := by
    have e : (IntKind.u64.wrap (64 - ((64 - l : Nat) : Int))).toNat = l := by rw [IntKind.wrap_u64]; omega
    rw [e, show min l 64 = l by omega]
    exact Int.fdiv_eq_ediv_of_nonneg _ (Int.le_of_lt hR)
  have hHlt : hi * 2 ^ (64 - l) + lo / 2 ^ l < 18446744073709551616 := by omega
  have eu : borI .u64 (hi * 2 ^ (64 - l)) (lo / 2 ^ l) = hi * 2 ^ (64 - l) + lo / 2 ^ l := by
    obtain ⟨a, rfl⟩ := Int.eq_ofNat_of_zero_le (show 0 ≤ hi by omega)
    obtain ⟨b, hb⟩ := Int.eq_ofNat_of_zero_le v2
    rw [hb] at v3 hHlt ⊢
    have hb2 : b < 2 ^ (64 - l) := by
      have : (b : Int) < ((2 ^ (64 - l) : Nat) : Int) := by rw [Int.natCast_pow]; exact v3
      exact_mod_cast this
    have e1 : (a : Int) * 2 ^ (64 - l) = ((a * 2 ^ (64 - l) : Nat) : Int) := by rw [Int.natCast_mul, Int.natCast_pow]; rfl
    rw [e1] at hHlt ⊢
    rw [borU hb2 (by omega)]; omega
  have eM : shlI .u64 lo ((64 - l : Nat) : Int) = lo * 2 ^ (64 - l) % 18446744073709551616 := by
    show IntKind.u64.wrap (lo * 2 ^ (min ((64 - l : Nat) : Int).toNat 64)) = _
    rw [Int.toNat_natCast, show min (64 - l) 64 = 64 - l by omega, IntKind.wrap_u64]
  have q32 : ∀ x : Int, x.fdiv (2 ^ min 32 64) = x / 4294967296 := fun x => Int.fdiv_eq_ediv_of_nonneg _ (by decide)
  have hN : ∀ q : Int, (hi * 18446744073709551616 + lo) * 2 ^ (64 - l) / (y * 2 ^ (64 - l)) = (hi * 18446744073709551616 + lo) / y := fun _ => Int.mul_ediv_mul_of_pos_left _ _ hP
  have hN := hN 0
  rw [← v1] at hN
  have eY := shlU (a := y) (k := 64 - l) (by omega) hY1 (by omega)
  have eH := shlU (a := hi) (k := 64 - l) (by omega) (by omega) (by omega)
  have u0 : 0 ≤ hi * 2 ^ (64 - l) + lo / 2 ^ l := by omega
  generalize y * 2 ^ (64 - l) = Y at *
  generalize hi * 2 ^ (64 - l) = H at *
  generalize lo / 2 ^ l = L at *
  have M0 : 0 ≤ lo * 2 ^ (64 - l) % 18446744073709551616 := Int.emod_nonneg _ (by decide)
  have M1 : lo * 2 ^ (64 - l) % 18446744073709551616 < 18446744073709551616 := Int.emod_lt_of_pos _ (by decide)
  generalize lo * 2 ^ (64 - l) % 18446744073709551616 = M at *
  generalize H + L = u at *
  have aY : Y = Y / 4294967296 * 4294967296 + Y % 4294967296 := by omega
  have aM : M = M / 4294967296 * 4294967296 + M % 4294967296 := by omega
  have td := two_digits (u := u) (v := Y) (u1 := M / 4294967296) (u0 := M % 4294967296) (by omega) (by omega) (by omega) (by omega) (by omega)
  have e9 : u * 18446744073709551616 + M / 4294967296 * 4294967296 + M % 4294967296 = u * 18446744073709551616 + M := by omega
  rw [e9, hN] at td
  have D := div_walk hi lo y (64 - l) Y H L u M (M / 4294967296) (M % 4294967296) (Y / 4294967296) (Y % 4294967296) h1 h2 h3 hz (by omega) (by omega) eY (q32 Y) (bandU Y) eH eL eu eM (q32 M) (bandU M) (by omega) (by omega) (by omega) (by omega) aY (by omega) (by omega) (by omega) (by omega) (by omega) (by omega)
    _ _ _ _ rfl rfl rfl rfl
  rw [← aY, td.1] at D
  exact ⟨_, D⟩
theorem div_any (hi lo y : Int) (h1 : 0 ≤ hi) (h2 : hi < y) (h3 : y < 9223372036854775808) (l0 : 0 ≤ lo) (l1 : lo < 18446744073709551616) : ∃ X, Fun Try.prog 31 [vu hi, vu lo, vu y] (.tup [vu ((hi * 18446744073709551616 + lo) / y), vu X]) := by
  by_cases h : hi = 0
  · subst h
    rw [show (0 * 18446744073709551616 + lo : Int) = lo by omega]
    exact ⟨_, div_small lo y h2 l0 l1⟩
  · exact div_big hi lo y (by omega) h2 h3 l0 l1
/-- What a product by a number comes to, down. -/
def mdR (a b c : Int) : Int × Int := if a < 0 ∨ b < 0 ∨ c < 1 then (0, 1) else if a * b / c > 9223372036854775807 then (0, 4) else (a * b / c, 0)
set_option maxHeartbeats 4000000 in
set_option maxRecDepth 20000 in
theorem md_fun (a b c : Int) (ia : I64 a) (ib : I64 b) (ic : I64 c) : Fun Try.prog 20 [vi a, vi b, vi c] (.tup [vi (mdR a b c).1, vi (mdR a b c).2]) := by
  by_cases g : a < 0 ∨ b < 0 ∨ c < 1
  · have hcc : (decide (a < 0) || decide (b < 0) || decide (c < 1)) = true := by simp only [Bool.or_eq_true, decide_eq_true_eq]; omega
    rw [show mdR a b c = (0, 1) from if_pos g]
    (refine LCalls.enter Try.func20 rfl (by simp [Try.ntmps20]) (LK.start ?_); simp only [Try.ntmps20, enterA, Nat.zero_add])
    (repeat' first | refine LOps.done ?_ | (apply LOps.mv; (focus (first | exact Goes.free | exact Goes.on rfl rfl (by with_reducible rfl) true (by decide))); (focus (exact rfl)); (focus (exact rfl))) | (apply LOps.loc; (focus (first | exact Goes.free | exact Goes.on rfl rfl (by with_reducible rfl) true (by decide))); (focus (exact rfl)); (focus (exact rfl)); (focus (simp only [go_sem, ↓reduceIte, Nat.reduceEqDiff]; with_reducible rfl))) | (apply LOps.pass; (focus (first | exact Goes.on rfl rfl (by with_reducible rfl) false (by decide) | exact Goes.undef rfl rfl (by with_reducible rfl))); (focus (exact rfl))) | (apply LOps.scEnd; (focus (exact rfl)); (focus (with_reducible rfl))) | refine LK.seq ?_ | refine LK.regc ?_ | (apply LOps.or2; exact rfl; exact rfl; exact rfl; exact rfl; exact rfl; (focus (with_reducible rfl)); (focus (first | kernel_rfl | rfl))) | refine Under.mk (fun hg => ?_) | fail)
    refine LK.condT2 rfl (by first | with_reducible rfl | rfl) (hcc) ?_
    (repeat' first | refine LOps.done ?_ | (apply LOps.loc; (focus (first | exact Goes.free | exact Goes.on rfl rfl (by with_reducible rfl) true (by decide))); (focus (exact rfl)); (focus (exact rfl)); (focus (simp only [go_sem]; with_reducible rfl))) | refine LK.seq ?_ | refine LK.ret' ?_ | refine LK.regc ?_ | (apply retQ; (focus (first | exact lres_one rfl | exact lres_more rfl | (simp only [lres, lresv, Try.results20, go_sem, ↓reduceIte, Nat.reduceEqDiff, reduceCtorEq, Nat.reduceLT, Nat.reduceAdd, Int.reduceBEq, Int.reduceBNe, Int.reduceEq, Int.reduceLE, Int.reduceLT, Int.reduceToNat, Nat.reduceLeDiff, Nat.reduceMul, Nat.reduceSub]; exact rfl)))) | fail)
    all_goals rfl
  have hcc : (decide (a < 0) || decide (b < 0) || decide (c < 1)) = false := by simp only [Bool.or_eq_false_iff, decide_eq_false_iff_not]; omega
  have ht := times_fun a b ia ib
  have hA : 0 ≤ a * b := Int.mul_nonneg (by omega) (by omega)
  have sa : sizeV a = a := if_neg (by omega)
  have sb : sizeV b = b := if_neg (by omega)
  have hh : hiV a b = a * b / 18446744073709551616 := by unfold hiV; rw [sa, sb]
  have hl : loV a b = a * b % 18446744073709551616 := by unfold loV; rw [sa, sb]
  rw [hh, hl] at ht
  have wc : IntKind.u64.wrap c = c := by rw [IntKind.wrap_u64]; omega
  by_cases g2 : a * b / 18446744073709551616 ≥ c
  · have hbig : a * b / c > 9223372036854775807 := by
      have : 18446744073709551616 ≤ a * b / c := by
        refine Int.le_ediv_of_mul_le (by omega) ?_
        omega
      omega
    rw [show mdR a b c = (0, 4) by unfold mdR; rw [if_neg g, if_pos hbig]]
    (refine LCalls.enter Try.func20 rfl (by simp [Try.ntmps20]) (LK.start ?_); simp only [Try.ntmps20, enterA, Nat.zero_add])
    (repeat' first | refine LOps.done ?_ | (apply LOps.mv; (focus (first | exact Goes.free | exact Goes.on rfl rfl (by with_reducible rfl) true (by decide))); (focus (exact rfl)); (focus (exact rfl))) | (apply LOps.loc; (focus (first | exact Goes.free | exact Goes.on rfl rfl (by with_reducible rfl) true (by decide))); (focus (exact rfl)); (focus (exact rfl)); (focus (simp only [go_sem, ↓reduceIte, Nat.reduceEqDiff]; with_reducible rfl))) | (apply LOps.pass; (focus (first | exact Goes.on rfl rfl (by with_reducible rfl) false (by decide) | exact Goes.undef rfl rfl (by with_reducible rfl))); (focus (exact rfl))) | (apply LOps.scEnd; (focus (exact rfl)); (focus (with_reducible rfl))) | refine LK.seq ?_ | refine LK.regc ?_ | (apply LOps.or2; exact rfl; exact rfl; exact rfl; exact rfl; exact rfl; (focus (with_reducible rfl)); (focus (first | kernel_rfl | rfl))) | refine Under.mk (fun hg => ?_) | fail)
    refine LK.condF2 rfl (by first | with_reducible rfl | rfl) (hcc) ?_
    (repeat' first | refine LOps.done ?_ | (apply LOps.mv; (focus (first | exact Goes.free | exact Goes.on rfl rfl (by with_reducible rfl) true (by decide))); (focus (exact rfl)); (focus (exact rfl))) | (apply LOps.loc; (focus (first | exact Goes.free | exact Goes.on rfl rfl (by with_reducible rfl) true (by decide))); (focus (exact rfl)); (focus (exact rfl)); (focus (simp only [go_sem, ↓reduceIte, Nat.reduceEqDiff, reduceCtorEq, Nat.reduceLT, Nat.reduceAdd, wc, g2]; with_reducible rfl))) | (apply LOps.loc0; (focus (first | exact Goes.free | exact Goes.on rfl rfl (by with_reducible rfl) true (by decide))); (focus (exact rfl)); (focus (simp only [go_sem, ↓reduceIte, Nat.reduceEqDiff, Nat.reduceLT, Nat.reduceAdd]; with_reducible rfl))) | refine LK.seq ?_ | refine LK.skip ?_ | refine LK.ret' ?_ | (apply LK.condT2; (focus (exact rfl)); (focus (with_reducible rfl)); (focus (first | with_reducible rfl | decide | (with_reducible exact Bool.true_or _) | (with_reducible exact congrArg (fun b => b || _) (Bool.true_or _))))) | refine LK.regc ?_ | (apply retQ; (focus (first | exact lres_one rfl | exact lres_more rfl | (simp only [lres, lresv, Try.results20, go_sem, ↓reduceIte, Nat.reduceEqDiff, reduceCtorEq, Nat.reduceLT, Nat.reduceAdd, Int.reduceBEq, Int.reduceBNe, Int.reduceEq, Int.reduceLE, Int.reduceLT, Int.reduceToNat, Nat.reduceLeDiff, Nat.reduceMul, Nat.reduceSub, wc, g2]; exact rfl)))) | (apply LOps.locFn; (focus (first | exact Goes.free | exact Goes.on rfl rfl (by with_reducible rfl) true (by decide))); (focus (exact rfl)); (focus (exact rfl)); (focus (simp only [go_sem, ↓reduceIte, Nat.reduceEqDiff]; exact rfl)); (focus (simp only [go_sem])); (focus (exact ht)); (focus (first | rfl | simp [go_sem])); (focus (first | rfl | simp [go_sem]))) | fail)
    all_goals rfl
  · obtain ⟨X, hd⟩ := div_any (a * b / 18446744073709551616) (a * b % 18446744073709551616) c (by omega) (by omega) (by omega) (by omega) (by omega)
    rw [show a * b / 18446744073709551616 * 18446744073709551616 + a * b % 18446744073709551616 = a * b by omega] at hd
    have q0 : 0 ≤ a * b / c := Int.ediv_nonneg hA (by omega)
    by_cases g3 : a * b / c > 9223372036854775807
    · rw [show mdR a b c = (0, 4) by unfold mdR; rw [if_neg g, if_pos g3]]
      (refine LCalls.enter Try.func20 rfl (by simp [Try.ntmps20]) (LK.start ?_); simp only [Try.ntmps20, enterA, Nat.zero_add])
      (repeat' first | refine LOps.done ?_ | (apply LOps.mv; (focus (first | exact Goes.free | exact Goes.on rfl rfl (by with_reducible rfl) true (by decide))); (focus (exact rfl)); (focus (exact rfl))) | (apply LOps.loc; (focus (first | exact Goes.free | exact Goes.on rfl rfl (by with_reducible rfl) true (by decide))); (focus (exact rfl)); (focus (exact rfl)); (focus (simp only [go_sem, ↓reduceIte, Nat.reduceEqDiff]; with_reducible rfl))) | (apply LOps.pass; (focus (first | exact Goes.on rfl rfl (by with_reducible rfl) false (by decide) | exact Goes.undef rfl rfl (by with_reducible rfl))); (focus (exact rfl))) | (apply LOps.scEnd; (focus (exact rfl)); (focus (with_reducible rfl))) | refine LK.seq ?_ | refine LK.regc ?_ | (apply LOps.or2; exact rfl; exact rfl; exact rfl; exact rfl; exact rfl; (focus (with_reducible rfl)); (focus (first | kernel_rfl | rfl))) | refine Under.mk (fun hg => ?_) | fail)
      refine LK.condF2 rfl (by first | with_reducible rfl | rfl) (hcc) ?_
      (repeat' first | refine LOps.done ?_ | (apply LOps.mv; (focus (first | exact Goes.free | exact Goes.on rfl rfl (by with_reducible rfl) true (by decide))); (focus (exact rfl)); (focus (exact rfl))) | (apply LOps.asg; (focus (first | exact Goes.free | exact Goes.on rfl rfl (by with_reducible rfl) true (by decide))); (focus (exact rfl)); (focus (exact rfl))) | (apply LOps.ext; (focus (first | exact Goes.free | exact Goes.on rfl rfl (by with_reducible rfl) true (by decide))); (focus (exact rfl)); (focus (exact rfl)); (focus (exact rfl))) | (apply LOps.loc; (focus (first | exact Goes.free | exact Goes.on rfl rfl (by with_reducible rfl) true (by decide))); (focus (exact rfl)); (focus (exact rfl)); (focus (simp only [go_sem, ↓reduceIte, Nat.reduceEqDiff, reduceCtorEq, Nat.reduceLT, Nat.reduceAdd, wc, g2, g3]; with_reducible rfl))) | (apply LOps.loc0; (focus (first | exact Goes.free | exact Goes.on rfl rfl (by with_reducible rfl) true (by decide))); (focus (exact rfl)); (focus (simp only [go_sem, ↓reduceIte, Nat.reduceEqDiff, Nat.reduceLT, Nat.reduceAdd]; with_reducible rfl))) | refine LK.seq ?_ | refine LK.skip ?_ | refine LK.ret' ?_ | (apply LK.condT2; (focus (exact rfl)); (focus (with_reducible rfl)); (focus (first | with_reducible rfl | decide | (with_reducible exact Bool.true_or _) | (with_reducible exact congrArg (fun b => b || _) (Bool.true_or _))))) | (apply LK.condF2; (focus (exact rfl)); (focus (with_reducible rfl)); (focus (first | with_reducible rfl | decide | (with_reducible exact Bool.false_and _) | (with_reducible exact congrArg (fun b => b && _) (Bool.false_and _))))) | refine LK.regc ?_ | (apply retQ; (focus (first | exact lres_one rfl | exact lres_more rfl | (simp only [lres, lresv, Try.results20, go_sem, ↓reduceIte, Nat.reduceEqDiff, reduceCtorEq, Nat.reduceLT, Nat.reduceAdd, Int.reduceBEq, Int.reduceBNe, Int.reduceEq, Int.reduceLE, Int.reduceLT, Int.reduceToNat, Nat.reduceLeDiff, Nat.reduceMul, Nat.reduceSub, wc, g2, g3]; exact rfl)))) | (apply LOps.locFn; (focus (first | exact Goes.free | exact Goes.on rfl rfl (by with_reducible rfl) true (by decide))); (focus (exact rfl)); (focus (exact rfl)); (focus (simp only [go_sem, ↓reduceIte, Nat.reduceEqDiff]; exact rfl)); (focus (simp only [go_sem])); (focus (first | exact ht | exact hd)); (focus (first | rfl | simp [go_sem])); (focus (first | rfl | simp [go_sem]))) | fail)
      all_goals rfl
    · have wq : IntKind.i64.wrap (a * b / c) = a * b / c := by rw [IntKind.wrap_i64]; omega
      rw [show mdR a b c = (a * b / c, 0) by unfold mdR; rw [if_neg g, if_neg g3]]
      (refine LCalls.enter Try.func20 rfl (by simp [Try.ntmps20]) (LK.start ?_); simp only [Try.ntmps20, enterA, Nat.zero_add])
      (repeat' first | refine LOps.done ?_ | (apply LOps.mv; (focus (first | exact Goes.free | exact Goes.on rfl rfl (by with_reducible rfl) true (by decide))); (focus (exact rfl)); (focus (exact rfl))) | (apply LOps.loc; (focus (first | exact Goes.free | exact Goes.on rfl rfl (by with_reducible rfl) true (by decide))); (focus (exact rfl)); (focus (exact rfl)); (focus (simp only [go_sem, ↓reduceIte, Nat.reduceEqDiff]; with_reducible rfl))) | (apply LOps.pass; (focus (first | exact Goes.on rfl rfl (by with_reducible rfl) false (by decide) | exact Goes.undef rfl rfl (by with_reducible rfl))); (focus (exact rfl))) | (apply LOps.scEnd; (focus (exact rfl)); (focus (with_reducible rfl))) | refine LK.seq ?_ | refine LK.regc ?_ | (apply LOps.or2; exact rfl; exact rfl; exact rfl; exact rfl; exact rfl; (focus (with_reducible rfl)); (focus (first | kernel_rfl | rfl))) | refine Under.mk (fun hg => ?_) | fail)
      refine LK.condF2 rfl (by first | with_reducible rfl | rfl) (hcc) ?_
      (repeat' first | refine LOps.done ?_ | (apply LOps.mv; (focus (first | exact Goes.free | exact Goes.on rfl rfl (by with_reducible rfl) true (by decide))); (focus (exact rfl)); (focus (exact rfl))) | (apply LOps.asg; (focus (first | exact Goes.free | exact Goes.on rfl rfl (by with_reducible rfl) true (by decide))); (focus (exact rfl)); (focus (exact rfl))) | (apply LOps.ext; (focus (first | exact Goes.free | exact Goes.on rfl rfl (by with_reducible rfl) true (by decide))); (focus (exact rfl)); (focus (exact rfl)); (focus (exact rfl))) | (apply LOps.loc; (focus (first | exact Goes.free | exact Goes.on rfl rfl (by with_reducible rfl) true (by decide))); (focus (exact rfl)); (focus (exact rfl)); (focus (simp only [go_sem, ↓reduceIte, Nat.reduceEqDiff, reduceCtorEq, Nat.reduceLT, Nat.reduceAdd, wc, g2, g3, wq]; with_reducible rfl))) | (apply LOps.loc0; (focus (first | exact Goes.free | exact Goes.on rfl rfl (by with_reducible rfl) true (by decide))); (focus (exact rfl)); (focus (simp only [go_sem, ↓reduceIte, Nat.reduceEqDiff, Nat.reduceLT, Nat.reduceAdd]; with_reducible rfl))) | refine LK.seq ?_ | refine LK.skip ?_ | refine LK.ret' ?_ | (apply LK.condF2; (focus (exact rfl)); (focus (with_reducible rfl)); (focus (first | with_reducible rfl | decide | (with_reducible exact Bool.false_and _) | (with_reducible exact congrArg (fun b => b && _) (Bool.false_and _))))) | refine LK.regc ?_ | (apply retQ; (focus (first | exact lres_one rfl | exact lres_more rfl | (simp only [lres, lresv, Try.results20, go_sem, ↓reduceIte, Nat.reduceEqDiff, reduceCtorEq, Nat.reduceLT, Nat.reduceAdd, Int.reduceBEq, Int.reduceBNe, Int.reduceEq, Int.reduceLE, Int.reduceLT, Int.reduceToNat, Nat.reduceLeDiff, Nat.reduceMul, Nat.reduceSub, wc, g2, g3, wq]; exact rfl)))) | (apply LOps.locFn; (focus (first | exact Goes.free | exact Goes.on rfl rfl (by with_reducible rfl) true (by decide))); (focus (exact rfl)); (focus (exact rfl)); (focus (simp only [go_sem, ↓reduceIte, Nat.reduceEqDiff]; exact rfl)); (focus (simp only [go_sem])); (focus (first | exact ht | exact hd)); (focus (first | rfl | simp [go_sem])); (focus (first | rfl | simp [go_sem]))) | fail)
      all_goals (first | rfl | simp only [wq])
theorem mdR_in (a b c : Int) : I64 (mdR a b c).1 := by
  unfold mdR; split
  · simp only; omega
  · rename_i g
    split
    · simp only; omega
    · have : 0 ≤ a * b / c := Int.ediv_nonneg (Int.mul_nonneg (by omega) (by omega)) (by omega)
      simp only; omega
end Go.Proofs.Ytffchlfnnilbiaa
