/- The law DriftAdds as the print has it: what may go by at two goes may go by at one. -/
import Derived.Test.YtnnpaeplbjfldaaPDriftAddsx1
namespace Go.Proofs.Ytnnpaeplbjfldaa.Pure
open Go.RowKit Go.Proofs.Ytnnpaeplbjfldaa.PDriftAdds Go.Proofs.YtnnpaeplbjfldaaW.PrintWords Go.Proofs.YtnnpaeplbjfldaaW.PrintLast
namespace DriftAddsAid

theorem wf64 {a : Int} (h : (Lit.int .i64 a).wf = true) : -9223372036854775808 ≤ a ∧ a ≤ 9223372036854775807 := by
  simp only [Lit.wf, IntKind.min, IntKind.max, IntKind.signed, IntKind.bits, Bool.and_eq_true, decide_eq_true_eq, if_true] at h
  omega
theorem span64 {a : Int} (h : -9223372036854775808 ≤ a ∧ a ≤ 9223372036854775807) : (IntKind.u64.wrap a ≤ 1099511627776) ↔ (0 ≤ a ∧ a ≤ 1099511627776) := by
  simp only [IntKind.wrap, IntKind.signed, IntKind.bits, Bool.false_and]
  simp only [Bool.false_eq_true, if_false]
  omega
theorem w64 {x : Int} (h : -9223372036854775808 ≤ x) (h' : x ≤ 9223372036854775807) : wrap64 x = x := by
  unfold wrap64; omega
theorem mul_in {s x m : Int} (hs : 0 ≤ s) (hm : s ≤ m) (h : 0 ≤ x) (h' : x ≤ 1099511627776) : 0 ≤ s * x ∧ s * x ≤ m * 1099511627776 :=
  ⟨Int.mul_nonneg hs h, Int.mul_le_mul hm h' h (by omega)⟩
theorem rates_in {a : Int} (h : 0 ≤ a) (h' : a ≤ 500) : drift_rates.f a = some (1000 - a, 1000 + a, true) := by
  unfold drift_rates.f
  rw [if_neg (by omega), if_neg (by omega), w64 (by omega) (by omega), w64 (by omega) (by omega)]
theorem rates_out {a : Int} (h : ¬ (0 ≤ a ∧ a ≤ 500)) : drift_rates.f a = some (0, 0, false) := by
  unfold drift_rates.f
  by_cases c : a < 0
  · rw [if_pos c]
  · rw [if_neg c, if_pos (by omega)]

theorem span_is {a : Int} (h : -9223372036854775808 ≤ a ∧ a ≤ 9223372036854775807) : drift_span.f a = some (decide (0 ≤ a ∧ a ≤ 1099511627776)) := by
  unfold drift_span.f; congr 1; exact decide_eq_decide.2 (span64 h)

theorem may_is {r a c : Int} (ha : -9223372036854775808 ≤ a ∧ a ≤ 9223372036854775807) (hc : -9223372036854775808 ≤ c ∧ c ≤ 9223372036854775807) :
    drift_May.f r a c = some (decide (0 ≤ r ∧ r ≤ 500 ∧ 0 ≤ a ∧ a ≤ 1099511627776 ∧ 0 ≤ c ∧ c ≤ 1099511627776 ∧ (1000 - r) * a ≤ 1000 * c ∧ 1000 * c ≤ (1000 + r) * a)) := by
  unfold drift_May.f
  by_cases hr : 0 ≤ r ∧ r ≤ 500
  · rw [rates_in hr.1 hr.2, span_is ha, span_is hc]
    simp only [Option.bind_some, if_true]
    by_cases h1 : 0 ≤ a ∧ a ≤ 1099511627776
    · rw [decide_eq_true h1, if_pos rfl]
      by_cases h2 : 0 ≤ c ∧ c ≤ 1099511627776
      · have m1 := mul_in (s := 1000 - r) (m := 1000) (by omega) (by omega) h1.1 h1.2
        have m2 := mul_in (s := 1000 + r) (m := 1500) (by omega) (by omega) h1.1 h1.2
        rw [decide_eq_true h2, if_pos rfl, w64 (x := (1000 - r) * a) (by omega) (by omega), w64 (x := (1000 + r) * a) (by omega) (by omega), w64 (x := 1000 * c) (by omega) (by omega)]
        by_cases h3 : (1000 - r) * a ≤ 1000 * c
        · rw [if_pos h3]; congr 1; apply decide_eq_decide.2; omega
        · rw [if_neg h3]; congr 1; symm; apply decide_eq_false; omega
      · rw [decide_eq_false h2]; simp only [Bool.false_eq_true, if_false]; congr 1; symm; apply decide_eq_false; omega
    · rw [decide_eq_false h1]; simp only [Bool.false_eq_true, if_false]; congr 1; symm; apply decide_eq_false; omega
  · rw [rates_out hr]; simp only [Option.bind_some, Bool.false_eq_true, if_false]; congr 1; symm; apply decide_eq_false; omega

end DriftAddsAid
open DriftAddsAid in
theorem DriftAdds : stopcocklaw02_DriftAdds.Pure := by
  intro a0 a1 a2 a3 a4 h0 h1 h2 h3 h4
  have hl : stopcocklaw02_live.f = some true := by decide +kernel
  have h1 := wf64 h1
  have h2 := wf64 h2
  have h3 := wf64 h3
  have h4 := wf64 h4
  refine ⟨1, ?_⟩
  have ht : stopcocklaw02_DriftAdds.j0 1 a0 a1 a2 a3 a4 true = some true := by
    simp only [stopcocklaw02_DriftAdds.j0, hl, if_true, Option.bind_some]
  unfold stopcocklaw02_DriftAdds.f
  rw [may_is h1 h2, may_is h3 h4]
  simp only [Option.bind_some]
  by_cases c1 : 0 ≤ a0 ∧ a0 ≤ 500 ∧ 0 ≤ a1 ∧ a1 ≤ 1099511627776 ∧ 0 ≤ a2 ∧ a2 ≤ 1099511627776 ∧ (1000 - a0) * a1 ≤ 1000 * a2 ∧ 1000 * a2 ≤ (1000 + a0) * a1
  · rw [decide_eq_true c1, if_pos rfl]
    by_cases c2 : 0 ≤ a0 ∧ a0 ≤ 500 ∧ 0 ≤ a3 ∧ a3 ≤ 1099511627776 ∧ 0 ≤ a4 ∧ a4 ≤ 1099511627776 ∧ (1000 - a0) * a3 ≤ 1000 * a4 ∧ 1000 * a4 ≤ (1000 + a0) * a3
    · rw [decide_eq_true c2, if_pos rfl, w64 (x := a1 + a3) (by omega) (by omega), w64 (x := a2 + a4) (by omega) (by omega)]
      by_cases c3 : a1 + a3 > 1099511627776
      · rw [if_pos c3, ht]
      · rw [if_neg c3]
        by_cases c4 : a2 + a4 > 1099511627776
        · rw [decide_eq_true c4, ht]
        · rw [decide_eq_false c4]
          simp only [stopcocklaw02_DriftAdds.j0, hl, if_true, Option.bind_some, Bool.false_eq_true, if_false]
          rw [w64 (x := a1 + a3) (by omega) (by omega), w64 (x := a2 + a4) (by omega) (by omega), may_is (by omega) (by omega)]
          simp only [Option.bind_some]
          congr 1
          apply decide_eq_true
          refine ⟨c1.1, c1.2.1, by omega, by omega, by omega, by omega, ?_, ?_⟩
          · rw [Int.mul_add]; omega
          · rw [Int.mul_add (1000 + a0)]; omega
    · rw [decide_eq_false c2]; simp only [Bool.false_eq_true, if_false]; exact ht
  · rw [decide_eq_false c1]; simp only [Bool.false_eq_true, if_false]; exact ht
end Go.Proofs.Ytnnpaeplbjfldaa.Pure
