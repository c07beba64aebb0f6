/- The law DriftLeast as the print has it: drift.Least tells what the document's Least tells. -/
import Derived.Test.YtnnpaeplbjfldaaPDriftLeastx1
namespace Go.Proofs.Ytnnpaeplbjfldaa.Pure
open Go.RowKit Go.Proofs.Ytnnpaeplbjfldaa.PDriftLeast Go.Proofs.YtnnpaeplbjfldaaW.PrintWords Go.Proofs.YtnnpaeplbjfldaaW.PrintLast
namespace DriftLeastAid

theorem wf64 {a : Int} (h : (Lit.int .i64 a).wf = true) : -9223372036854775808 ≤ a ∧ a ≤ 9223372036854775807 := by
  simp only [Lit.wf, IntKind.min, IntKind.max, IntKind.signed, IntKind.bits, Bool.and_eq_true, decide_eq_true_eq, if_true] at h
  omega
theorem span64 {a : Int} (h : -9223372036854775808 ≤ a ∧ a ≤ 9223372036854775807) : (IntKind.u64.wrap a ≤ 1099511627776) ↔ (0 ≤ a ∧ a ≤ 1099511627776) := by
  simp only [IntKind.wrap, IntKind.signed, IntKind.bits, Bool.false_and]
  simp only [Bool.false_eq_true, if_false]
  omega
theorem w64 {x : Int} (h : -9223372036854775808 ≤ x) (h' : x ≤ 9223372036854775807) : wrap64 x = x := by
  unfold wrap64; omega
theorem mul_in {s x m : Int} (hs : 0 ≤ s) (hm : s ≤ m) (h : 0 ≤ x) (h' : x ≤ 1099511627776) : 0 ≤ s * x ∧ s * x ≤ m * 1099511627776 :=
  ⟨Int.mul_nonneg hs h, Int.mul_le_mul hm h' h (by omega)⟩
theorem rates_in {a : Int} (h : 0 ≤ a) (h' : a ≤ 500) : drift_rates.f a = some (1000 - a, 1000 + a, true) := by
  unfold drift_rates.f
  rw [if_neg (by omega), if_neg (by omega), w64 (by omega) (by omega), w64 (by omega) (by omega)]
theorem rates_out {a : Int} (h : ¬ (0 ≤ a ∧ a ≤ 500)) : drift_rates.f a = some (0, 0, false) := by
  unfold drift_rates.f
  by_cases c : a < 0
  · rw [if_pos c]
  · rw [if_neg c, if_pos (by omega)]

theorem span_is {a : Int} (h : -9223372036854775808 ≤ a ∧ a ≤ 9223372036854775807) : drift_span.f a = some (decide (0 ≤ a ∧ a ≤ 1099511627776)) := by
  unfold drift_span.f; congr 1; exact decide_eq_decide.2 (span64 h)

theorem least_is {r a : Int} (ha : -9223372036854775808 ≤ a ∧ a ≤ 9223372036854775807) : drift_Least.f r a = some (if 0 ≤ r ∧ r ≤ 500 ∧ 0 ≤ a ∧ a ≤ 1099511627776 then (((1000 - r) * a + 1000 - 1) / 1000, 0) else (0, 1)) := by
  unfold drift_Least.f
  by_cases hr : 0 ≤ r ∧ r ≤ 500
  · rw [rates_in hr.1 hr.2, span_is ha]
    simp only [Option.bind_some, if_true]
    by_cases h1 : 0 ≤ a ∧ a ≤ 1099511627776
    · have m := mul_in (s := 1000 - r) (m := 1000) (by omega) (by omega) h1.1 h1.2
      rw [decide_eq_true h1, if_pos rfl, if_pos (by omega), w64 (x := (1000 - r) * a) (by omega) (by omega), w64 (x := (1000 - r) * a + 999) (by omega) (by omega), Int.tdiv_eq_ediv_of_nonneg (by omega), w64 (by omega) (by omega), show (1000 - r) * a + 999 = (1000 - r) * a + 1000 - 1 by omega]
    · rw [decide_eq_false h1, if_neg (by decide), if_neg (by omega)]
  · rw [rates_out hr, if_neg (by omega)]; rfl

theorem good_is (a : Int) : stopcockref02_good.f a = some (decide (0 ≤ a ∧ a ≤ 500)) := by
  unfold stopcockref02_good.f
  by_cases c : a ≥ 0
  · rw [if_pos c]; congr 1; apply decide_eq_decide.2; omega
  · rw [if_neg c]; congr 1; symm; apply decide_eq_false; omega

theorem rspan_is (a : Int) : stopcockref02_span.f a = some (decide (0 ≤ a ∧ a ≤ 1099511627776)) := by
  unfold stopcockref02_span.f
  by_cases c : a ≥ 0
  · rw [if_pos c]; congr 1; apply decide_eq_decide.2; omega
  · rw [if_neg c]; congr 1; symm; apply decide_eq_false; omega

theorem up_is {a b : Int} (h0 : 0 ≤ a) (h1 : a ≤ 9000000000000000000) (hb : 0 < b) : stopcockref02_up.f a b = some ((a + b - 1) / b) := by
  have hq : a / b ≤ a := Int.ediv_le_self b h0
  have hq0 : 0 ≤ a / b := Int.ediv_nonneg h0 (by omega)
  unfold stopcockref02_up.f
  rw [if_neg (by omega), Int.tmod_eq_emod_of_nonneg h0, Int.tdiv_eq_ediv_of_nonneg h0, w64 (x := a / b) (by omega) (by omega), w64 (x := a / b + 1) (by omega) (by omega)]
  have e := Int.mul_ediv_add_emod a b
  have l := Int.emod_lt_of_pos a hb
  have g := Int.emod_nonneg a (show b ≠ 0 by omega)
  by_cases c : a % b = 0
  · rw [if_pos c]; congr 1
    have : a + b - 1 = (b - 1) + b * (a / b) := by omega
    rw [this, Int.add_mul_ediv_left _ _ (by omega), Int.ediv_eq_zero_of_lt (show 0 ≤ b - 1 by omega) (show b - 1 < b by omega)]; omega
  · rw [if_neg c]; congr 1
    have : a + b - 1 = (a % b - 1) + b * (a / b + 1) := by rw [Int.mul_add, Int.mul_one]; omega
    rw [this, Int.add_mul_ediv_left _ _ (by omega), Int.ediv_eq_zero_of_lt (show 0 ≤ a % b - 1 by omega) (show a % b - 1 < b by omega)]; omega

theorem rleast_is {r a : Int} : stopcockref02_Least.f r a = some (if 0 ≤ r ∧ r ≤ 500 ∧ 0 ≤ a ∧ a ≤ 1099511627776 then (((1000 - r) * a + 1000 - 1) / 1000, 0) else (0, 1)) := by
  unfold stopcockref02_Least.f
  rw [good_is, rspan_is]
  simp only [Option.bind_some]
  by_cases hr : 0 ≤ r ∧ r ≤ 500
  · rw [decide_eq_true hr, if_pos rfl]
    by_cases h1 : 0 ≤ a ∧ a ≤ 1099511627776
    · have m := mul_in (s := 1000 - r) (m := 1000) (by omega) (by omega) h1.1 h1.2
      rw [decide_eq_true h1, if_pos rfl, if_pos (by omega), w64 (x := 1000 - r) (by omega) (by omega), w64 (x := (1000 - r) * a) (by omega) (by omega), up_is m.1 (by omega) (by omega)]
      rfl
    · rw [decide_eq_false h1, if_neg (by decide), if_neg (by omega)]
  · rw [decide_eq_false hr, if_neg (by decide), if_neg (by omega)]

end DriftLeastAid
open DriftLeastAid in
theorem DriftLeast : stopcocklaw02_DriftLeast.Pure := by
  intro a0 a1 h0 h1
  have hl : ∃ n, drift_Least.f 100 11 = some (10, n) := ⟨0, by decide +kernel⟩
  obtain ⟨n, hl⟩ := hl
  unfold stopcocklaw02_DriftLeast.f
  rw [hl, least_is (wf64 h1), rleast_is]; simp
end Go.Proofs.Ytnnpaeplbjfldaa.Pure
