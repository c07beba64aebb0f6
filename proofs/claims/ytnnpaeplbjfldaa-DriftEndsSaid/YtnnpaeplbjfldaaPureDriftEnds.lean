/- The law DriftEnds as the print has it: Least and Most may be, and nothing beyond them. -/
import Derived.Test.YtnnpaeplbjfldaaPDriftEndsx1
namespace Go.Proofs.Ytnnpaeplbjfldaa.Pure
open Go.RowKit Go.Proofs.Ytnnpaeplbjfldaa.PDriftEnds Go.Proofs.YtnnpaeplbjfldaaW.PrintWords Go.Proofs.YtnnpaeplbjfldaaW.PrintLast
namespace DriftEndsAid

theorem wf64 {a : Int} (h : (Lit.int .i64 a).wf = true) : -9223372036854775808 ≤ a ∧ a ≤ 9223372036854775807 := by
  simp only [Lit.wf, IntKind.min, IntKind.max, IntKind.signed, IntKind.bits, Bool.and_eq_true, decide_eq_true_eq, if_true] at h
  omega
theorem span64 {a : Int} (h : -9223372036854775808 ≤ a ∧ a ≤ 9223372036854775807) : (IntKind.u64.wrap a ≤ 1099511627776) ↔ (0 ≤ a ∧ a ≤ 1099511627776) := by
  simp only [IntKind.wrap, IntKind.signed, IntKind.bits, Bool.false_and]
  simp only [Bool.false_eq_true, if_false]
  omega
theorem w64 {x : Int} (h : -9223372036854775808 ≤ x) (h' : x ≤ 9223372036854775807) : wrap64 x = x := by
  unfold wrap64; omega
theorem mul_in {s x m : Int} (hs : 0 ≤ s) (hm : s ≤ m) (h : 0 ≤ x) (h' : x ≤ 1099511627776) : 0 ≤ s * x ∧ s * x ≤ m * 1099511627776 :=
  ⟨Int.mul_nonneg hs h, Int.mul_le_mul hm h' h (by omega)⟩
theorem rates_in {a : Int} (h : 0 ≤ a) (h' : a ≤ 500) : drift_rates.f a = some (1000 - a, 1000 + a, true) := by
  unfold drift_rates.f
  rw [if_neg (by omega), if_neg (by omega), w64 (by omega) (by omega), w64 (by omega) (by omega)]
theorem rates_out {a : Int} (h : ¬ (0 ≤ a ∧ a ≤ 500)) : drift_rates.f a = some (0, 0, false) := by
  unfold drift_rates.f
  by_cases c : a < 0
  · rw [if_pos c]
  · rw [if_neg c, if_pos (by omega)]

theorem span_is {a : Int} (h : -9223372036854775808 ≤ a ∧ a ≤ 9223372036854775807) : drift_span.f a = some (decide (0 ≤ a ∧ a ≤ 1099511627776)) := by
  unfold drift_span.f; congr 1; exact decide_eq_decide.2 (span64 h)

theorem may_is {r a c : Int} (ha : -9223372036854775808 ≤ a ∧ a ≤ 9223372036854775807) (hc : -9223372036854775808 ≤ c ∧ c ≤ 9223372036854775807) :
    drift_May.f r a c = some (decide (0 ≤ r ∧ r ≤ 500 ∧ 0 ≤ a ∧ a ≤ 1099511627776 ∧ 0 ≤ c ∧ c ≤ 1099511627776 ∧ (1000 - r) * a ≤ 1000 * c ∧ 1000 * c ≤ (1000 + r) * a)) := by
  unfold drift_May.f
  by_cases hr : 0 ≤ r ∧ r ≤ 500
  · rw [rates_in hr.1 hr.2, span_is ha, span_is hc]
    simp only [Option.bind_some, if_true]
    by_cases h1 : 0 ≤ a ∧ a ≤ 1099511627776
    · rw [decide_eq_true h1, if_pos rfl]
      by_cases h2 : 0 ≤ c ∧ c ≤ 1099511627776
      · have m1 := mul_in (s := 1000 - r) (m := 1000) (by omega) (by omega) h1.1 h1.2
        have m2 := mul_in (s := 1000 + r) (m := 1500) (by omega) (by omega) h1.1 h1.2
        rw [decide_eq_true h2, if_pos rfl, w64 (x := (1000 - r) * a) (by omega) (by omega), w64 (x := (1000 + r) * a) (by omega) (by omega), w64 (x := 1000 * c) (by omega) (by omega)]
        by_cases h3 : (1000 - r) * a ≤ 1000 * c
        · rw [if_pos h3]; congr 1; apply decide_eq_decide.2; omega
        · rw [if_neg h3]; congr 1; symm; apply decide_eq_false; omega
      · rw [decide_eq_false h2]; simp only [Bool.false_eq_true, if_false]; congr 1; symm; apply decide_eq_false; omega
    · rw [decide_eq_false h1]; simp only [Bool.false_eq_true, if_false]; congr 1; symm; apply decide_eq_false; omega
  · rw [rates_out hr]; simp only [Option.bind_some, Bool.false_eq_true, if_false]; congr 1; symm; apply decide_eq_false; omega

theorem least_is {r a : Int} (ha : -9223372036854775808 ≤ a ∧ a ≤ 9223372036854775807) : drift_Least.f r a = some (if 0 ≤ r ∧ r ≤ 500 ∧ 0 ≤ a ∧ a ≤ 1099511627776 then (((1000 - r) * a + 1000 - 1) / 1000, 0) else (0, 1)) := by
  unfold drift_Least.f
  by_cases hr : 0 ≤ r ∧ r ≤ 500
  · rw [rates_in hr.1 hr.2, span_is ha]
    simp only [Option.bind_some, if_true]
    by_cases h1 : 0 ≤ a ∧ a ≤ 1099511627776
    · have m := mul_in (s := 1000 - r) (m := 1000) (by omega) (by omega) h1.1 h1.2
      rw [decide_eq_true h1, if_pos rfl, if_pos (by omega), w64 (x := (1000 - r) * a) (by omega) (by omega), w64 (x := (1000 - r) * a + 999) (by omega) (by omega), Int.tdiv_eq_ediv_of_nonneg (by omega), w64 (by omega) (by omega), show (1000 - r) * a + 999 = (1000 - r) * a + 1000 - 1 by omega]
    · rw [decide_eq_false h1, if_neg (by decide), if_neg (by omega)]
  · rw [rates_out hr, if_neg (by omega)]; rfl

theorem most_is {r a : Int} (ha : -9223372036854775808 ≤ a ∧ a ≤ 9223372036854775807) : drift_Most.f r a = some (if 0 ≤ r ∧ r ≤ 500 ∧ 0 ≤ a ∧ a ≤ 1099511627776 then ((1000 + r) * a / 1000, 0) else (0, 1)) := by
  unfold drift_Most.f
  by_cases hr : 0 ≤ r ∧ r ≤ 500
  · rw [rates_in hr.1 hr.2, span_is ha]
    simp only [Option.bind_some, if_true]
    by_cases h1 : 0 ≤ a ∧ a ≤ 1099511627776
    · have m := mul_in (s := 1000 + r) (m := 1500) (by omega) (by omega) h1.1 h1.2
      rw [decide_eq_true h1, if_pos rfl, if_pos (by omega), w64 (x := (1000 + r) * a) (by omega) (by omega), Int.tdiv_eq_ediv_of_nonneg (by omega), w64 (by omega) (by omega)]
    · rw [decide_eq_false h1, if_neg (by decide), if_neg (by omega)]
  · rw [rates_out hr, if_neg (by omega)]; rfl

end DriftEndsAid
open DriftEndsAid in
theorem DriftEnds : stopcocklaw02_DriftEnds.Pure := by
  intro a0 a1 h0 h1
  have hl : stopcocklaw02_live.f = some true := by decide +kernel
  have h1 := wf64 h1
  unfold stopcocklaw02_DriftEnds.f
  rw [hl, least_is h1, most_is h1]
  simp only [Option.bind_some, if_true]
  by_cases c : 0 ≤ a0 ∧ a0 ≤ 500 ∧ 0 ≤ a1 ∧ a1 ≤ 1099511627776
  · have m1 := mul_in (s := 1000 - a0) (m := 1000) (by omega) (by omega) c.2.2.1 c.2.2.2
    have m2 := mul_in (s := 1000 + a0) (m := 1500) (by omega) (by omega) c.2.2.1 c.2.2.2
    have d1 : (1000 - a0) * a1 = 1000 * a1 - a0 * a1 := Int.sub_mul _ _ _
    have d2 : (1000 + a0) * a1 = 1000 * a1 + a0 * a1 := Int.add_mul _ _ _
    have d3 : 0 ≤ a0 * a1 := Int.mul_nonneg (by omega) (by omega)
    rw [if_pos c, if_pos c]
    simp only [if_true]
    generalize hx : (1000 - a0) * a1 = x at *
    generalize hy : (1000 + a0) * a1 = y at *
    have b0 : drift_May.f a0 a1 (wrap64 ((x + 1000 - 1) / 1000 - 1)) = some false := by
      rw [w64 (by omega) (by omega), may_is h1 (by omega), hx, hy]; congr 1; apply decide_eq_false; omega
    have b1 : drift_May.f a0 a1 (wrap64 (y / 1000 + 1)) = some false := by
      rw [w64 (by omega) (by omega), may_is h1 (by omega), hx, hy]; congr 1; apply decide_eq_false; omega
    rw [b0, b1]
    simp only [Option.bind_some, Bool.false_eq_true, if_false, Bool.not_false]
    by_cases c1 : y / 1000 > 1099511627776
    · rw [if_pos c1]
    · rw [if_neg c1]
      by_cases c2 : (x + 1000 - 1) / 1000 > y / 1000
      · rw [if_pos c2]
      · rw [if_neg c2]
        have b2 : drift_May.f a0 a1 ((x + 1000 - 1) / 1000) = some true := by
          rw [may_is h1 (by omega), hx, hy]; congr 1; apply decide_eq_true; omega
        have b3 : drift_May.f a0 a1 (y / 1000) = some true := by
          rw [may_is h1 (by omega), hx, hy]; congr 1; apply decide_eq_true; omega
        rw [b2, b3]; rfl
  · rw [if_neg c, if_neg c]
    simp only [show ((1 : Int) = 0) = False by simp, if_false, if_true]
    rw [may_is h1 (by omega), decide_eq_false (by omega)]; rfl
end Go.Proofs.Ytnnpaeplbjfldaa.Pure
