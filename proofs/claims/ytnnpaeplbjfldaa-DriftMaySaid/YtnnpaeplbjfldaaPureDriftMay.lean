/- The law DriftMay as the print has it: drift.May tells what the document's May tells, for every rho, real time and clock time. -/
import Derived.Test.YtnnpaeplbjfldaaPDriftMayx1
namespace Go.Proofs.Ytnnpaeplbjfldaa.Pure
open Go.RowKit Go.Proofs.Ytnnpaeplbjfldaa.PDriftMay Go.Proofs.YtnnpaeplbjfldaaW.PrintWords Go.Proofs.YtnnpaeplbjfldaaW.PrintLast
namespace DriftMayAid

theorem wf64 {a : Int} (h : (Lit.int .i64 a).wf = true) : -9223372036854775808 ≤ a ∧ a ≤ 9223372036854775807 := by
  simp only [Lit.wf, IntKind.min, IntKind.max, IntKind.signed, IntKind.bits, Bool.and_eq_true, decide_eq_true_eq, if_true] at h
  omega
theorem span64 {a : Int} (h : -9223372036854775808 ≤ a ∧ a ≤ 9223372036854775807) : (IntKind.u64.wrap a ≤ 1099511627776) ↔ (0 ≤ a ∧ a ≤ 1099511627776) := by
  simp only [IntKind.wrap, IntKind.signed, IntKind.bits, Bool.false_and]
  simp only [Bool.false_eq_true, if_false]
  omega
theorem w64 {x : Int} (h : -9223372036854775808 ≤ x) (h' : x ≤ 9223372036854775807) : wrap64 x = x := by
  unfold wrap64; omega
theorem mul_in {s x m : Int} (hs : 0 ≤ s) (hm : s ≤ m) (h : 0 ≤ x) (h' : x ≤ 1099511627776) : 0 ≤ s * x ∧ s * x ≤ m * 1099511627776 :=
  ⟨Int.mul_nonneg hs h, Int.mul_le_mul hm h' h (by omega)⟩
theorem rates_in {a : Int} (h : 0 ≤ a) (h' : a ≤ 500) : drift_rates.f a = some (1000 - a, 1000 + a, true) := by
  unfold drift_rates.f
  rw [if_neg (by omega), if_neg (by omega), w64 (by omega) (by omega), w64 (by omega) (by omega)]
theorem rates_out {a : Int} (h : ¬ (0 ≤ a ∧ a ≤ 500)) : drift_rates.f a = some (0, 0, false) := by
  unfold drift_rates.f
  by_cases c : a < 0
  · rw [if_pos c]
  · rw [if_neg c, if_pos (by omega)]

theorem span_is {a : Int} (h : -9223372036854775808 ≤ a ∧ a ≤ 9223372036854775807) : drift_span.f a = some (decide (0 ≤ a ∧ a ≤ 1099511627776)) := by
  unfold drift_span.f; congr 1; exact decide_eq_decide.2 (span64 h)

theorem may_is {r a c : Int} (ha : -9223372036854775808 ≤ a ∧ a ≤ 9223372036854775807) (hc : -9223372036854775808 ≤ c ∧ c ≤ 9223372036854775807) :
    drift_May.f r a c = some (decide (0 ≤ r ∧ r ≤ 500 ∧ 0 ≤ a ∧ a ≤ 1099511627776 ∧ 0 ≤ c ∧ c ≤ 1099511627776 ∧ (1000 - r) * a ≤ 1000 * c ∧ 1000 * c ≤ (1000 + r) * a)) := by
  unfold drift_May.f
  by_cases hr : 0 ≤ r ∧ r ≤ 500
  · rw [rates_in hr.1 hr.2, span_is ha, span_is hc]
    simp only [Option.bind_some, if_true]
    by_cases h1 : 0 ≤ a ∧ a ≤ 1099511627776
    · rw [decide_eq_true h1, if_pos rfl]
      by_cases h2 : 0 ≤ c ∧ c ≤ 1099511627776
      · have m1 := mul_in (s := 1000 - r) (m := 1000) (by omega) (by omega) h1.1 h1.2
        have m2 := mul_in (s := 1000 + r) (m := 1500) (by omega) (by omega) h1.1 h1.2
        rw [decide_eq_true h2, if_pos rfl, w64 (x := (1000 - r) * a) (by omega) (by omega), w64 (x := (1000 + r) * a) (by omega) (by omega), w64 (x := 1000 * c) (by omega) (by omega)]
        by_cases h3 : (1000 - r) * a ≤ 1000 * c
        · rw [if_pos h3]; congr 1; apply decide_eq_decide.2; omega
        · rw [if_neg h3]; congr 1; symm; apply decide_eq_false; omega
      · rw [decide_eq_false h2]; simp only [Bool.false_eq_true, if_false]; congr 1; symm; apply decide_eq_false; omega
    · rw [decide_eq_false h1]; simp only [Bool.false_eq_true, if_false]; congr 1; symm; apply decide_eq_false; omega
  · rw [rates_out hr]; simp only [Option.bind_some, Bool.false_eq_true, if_false]; congr 1; symm; apply decide_eq_false; omega

theorem good_is (a : Int) : stopcockref02_good.f a = some (decide (0 ≤ a ∧ a ≤ 500)) := by
  unfold stopcockref02_good.f
  by_cases c : a ≥ 0
  · rw [if_pos c]; congr 1; apply decide_eq_decide.2; omega
  · rw [if_neg c]; congr 1; symm; apply decide_eq_false; omega

theorem rspan_is (a : Int) : stopcockref02_span.f a = some (decide (0 ≤ a ∧ a ≤ 1099511627776)) := by
  unfold stopcockref02_span.f
  by_cases c : a ≥ 0
  · rw [if_pos c]; congr 1; apply decide_eq_decide.2; omega
  · rw [if_neg c]; congr 1; symm; apply decide_eq_false; omega

theorem rmay_is {r a c : Int} :
    stopcockref02_May.f r a c = some (decide (0 ≤ r ∧ r ≤ 500 ∧ 0 ≤ a ∧ a ≤ 1099511627776 ∧ 0 ≤ c ∧ c ≤ 1099511627776 ∧ (1000 - r) * a ≤ 1000 * c ∧ 1000 * c ≤ (1000 + r) * a)) := by
  unfold stopcockref02_May.f
  rw [good_is, rspan_is, rspan_is]
  simp only [Option.bind_some]
  by_cases hr : 0 ≤ r ∧ r ≤ 500
  · rw [decide_eq_true hr, if_pos rfl]
    by_cases h1 : 0 ≤ a ∧ a ≤ 1099511627776
    · rw [decide_eq_true h1, if_pos rfl]
      by_cases h2 : 0 ≤ c ∧ c ≤ 1099511627776
      · have m1 := mul_in (s := 1000 - r) (m := 1000) (by omega) (by omega) h1.1 h1.2
        have m2 := mul_in (s := 1000 + r) (m := 1500) (by omega) (by omega) h1.1 h1.2
        rw [decide_eq_true h2, if_pos rfl, w64 (x := 1000 - r) (by omega) (by omega), w64 (x := 1000 + r) (by omega) (by omega), w64 (x := (1000 - r) * a) (by omega) (by omega), w64 (x := (1000 + r) * a) (by omega) (by omega), w64 (x := 1000 * c) (by omega) (by omega)]
        by_cases h3 : (1000 - r) * a ≤ 1000 * c
        · rw [if_pos h3]; congr 1; apply decide_eq_decide.2; omega
        · rw [if_neg h3]; congr 1; symm; apply decide_eq_false; omega
      · rw [decide_eq_false h2]; simp only [Bool.false_eq_true, if_false]; congr 1; symm; apply decide_eq_false; omega
    · rw [decide_eq_false h1]; simp only [Bool.false_eq_true, if_false]; congr 1; symm; apply decide_eq_false; omega
  · rw [decide_eq_false hr]; simp only [Bool.false_eq_true, if_false]; congr 1; symm; apply decide_eq_false; omega

end DriftMayAid
open DriftMayAid in
theorem DriftMay : stopcocklaw02_DriftMay.Pure := by
  intro a0 a1 a2 h0 h1 h2
  have hl : stopcocklaw02_live.f = some true := by decide +kernel
  unfold stopcocklaw02_DriftMay.f
  rw [hl, may_is (wf64 h1) (wf64 h2), rmay_is]; simp
end Go.Proofs.Ytnnpaeplbjfldaa.Pure
