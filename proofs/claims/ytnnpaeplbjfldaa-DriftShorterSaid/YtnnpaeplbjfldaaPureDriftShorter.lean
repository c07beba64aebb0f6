/- The law DriftShorter as the print has it: Short is no more than the lease, the lease where nothing drifts, and no more where more drifts. -/
import Derived.Test.YtnnpaeplbjfldaaPDriftShorterx1
namespace Go.Proofs.Ytnnpaeplbjfldaa.Pure
open Go.RowKit Go.Proofs.Ytnnpaeplbjfldaa.PDriftShorter Go.Proofs.YtnnpaeplbjfldaaW.PrintWords Go.Proofs.YtnnpaeplbjfldaaW.PrintLast
namespace DriftShorterAid

theorem wf64 {a : Int} (h : (Lit.int .i64 a).wf = true) : -9223372036854775808 ≤ a ∧ a ≤ 9223372036854775807 := by
  simp only [Lit.wf, IntKind.min, IntKind.max, IntKind.signed, IntKind.bits, Bool.and_eq_true, decide_eq_true_eq, if_true] at h
  omega
theorem span64 {a : Int} (h : -9223372036854775808 ≤ a ∧ a ≤ 9223372036854775807) : (IntKind.u64.wrap a ≤ 1099511627776) ↔ (0 ≤ a ∧ a ≤ 1099511627776) := by
  simp only [IntKind.wrap, IntKind.signed, IntKind.bits, Bool.false_and]
  simp only [Bool.false_eq_true, if_false]
  omega
theorem w64 {x : Int} (h : -9223372036854775808 ≤ x) (h' : x ≤ 9223372036854775807) : wrap64 x = x := by
  unfold wrap64; omega
theorem mul_in {s x m : Int} (hs : 0 ≤ s) (hm : s ≤ m) (h : 0 ≤ x) (h' : x ≤ 1099511627776) : 0 ≤ s * x ∧ s * x ≤ m * 1099511627776 :=
  ⟨Int.mul_nonneg hs h, Int.mul_le_mul hm h' h (by omega)⟩
theorem rates_in {a : Int} (h : 0 ≤ a) (h' : a ≤ 500) : drift_rates.f a = some (1000 - a, 1000 + a, true) := by
  unfold drift_rates.f
  rw [if_neg (by omega), if_neg (by omega), w64 (by omega) (by omega), w64 (by omega) (by omega)]
theorem rates_out {a : Int} (h : ¬ (0 ≤ a ∧ a ≤ 500)) : drift_rates.f a = some (0, 0, false) := by
  unfold drift_rates.f
  by_cases c : a < 0
  · rw [if_pos c]
  · rw [if_neg c, if_pos (by omega)]

theorem short_is (r l : Int) : drift_Short.f r l = some (if 0 ≤ r ∧ r ≤ 500 ∧ 1 ≤ l ∧ l ≤ 1073741824 then (l * (1000 - r) / (1000 + r), 0) else (0, 1)) := by
  unfold drift_Short.f
  by_cases hr : 0 ≤ r ∧ r ≤ 500
  · rw [rates_in hr.1 hr.2]
    simp only [Option.bind_some, if_true]
    by_cases c1 : l < 1
    · rw [if_pos c1, if_neg (by omega)]
    · rw [if_neg c1]
      by_cases c2 : l > 1073741824
      · rw [if_pos c2, if_neg (by omega)]
      · have m := mul_in (s := 1000 - r) (x := l) (m := 1000) (by omega) (by omega) (by omega) (by omega)
        rw [Int.mul_comm] at m
        have q0 : 0 ≤ l * (1000 - r) / (1000 + r) := Int.ediv_nonneg m.1 (by omega)
        have q1 : l * (1000 - r) / (1000 + r) ≤ l * (1000 - r) := Int.ediv_le_self _ m.1
        rw [if_neg c2, if_neg (by omega), if_pos (by omega), w64 (x := l * (1000 - r)) (by omega) (by omega), Int.tdiv_eq_ediv_of_nonneg m.1, w64 (by omega) (by omega)]
  · rw [rates_out hr, if_neg (by omega)]; simp only [Option.bind_some, Bool.false_eq_true, if_false]

theorem short_le {r l : Int} (hr : 0 ≤ r) (h' : r ≤ 500) (hl : 0 ≤ l) : l * (1000 - r) / (1000 + r) ≤ l := by
  have h1 : l * (1000 - r) ≤ l * (1000 + r) := Int.mul_le_mul_of_nonneg_left (by omega) hl
  have h2 := Int.ediv_le_ediv (show (0 : Int) < 1000 + r by omega) h1
  rw [Int.mul_ediv_cancel _ (by omega)] at h2
  exact h2
theorem short_mono {r l : Int} (hr : 0 ≤ r) (h' : r ≤ 499) (hl : 0 ≤ l) : l * (1000 - (r + 1)) / (1000 + (r + 1)) ≤ l * (1000 - r) / (1000 + r) := by
  have q0 : 0 ≤ l * (1000 - (r + 1)) / (1000 + (r + 1)) := Int.ediv_nonneg (Int.mul_nonneg hl (by omega)) (by omega)
  apply (Int.le_ediv_iff_mul_le (by omega)).2
  have a1 : l * (1000 - (r + 1)) / (1000 + (r + 1)) * (1000 + (r + 1)) ≤ l * (1000 - (r + 1)) := Int.ediv_mul_le _ (by omega)
  have a2 : l * (1000 - (r + 1)) / (1000 + (r + 1)) * (1000 + r) ≤ l * (1000 - (r + 1)) / (1000 + (r + 1)) * (1000 + (r + 1)) := Int.mul_le_mul_of_nonneg_left (by omega) q0
  have a3 : l * (1000 - (r + 1)) ≤ l * (1000 - r) := Int.mul_le_mul_of_nonneg_left (by omega) hl
  omega

end DriftShorterAid
open DriftShorterAid in
theorem DriftShorter : stopcocklaw02_DriftShorter.Pure := by
  intro a0 a1 h0 h1
  have hl : stopcocklaw02_short.f = some true := by decide +kernel
  have h0 := wf64 h0
  refine ⟨1, ?_⟩
  unfold stopcocklaw02_DriftShorter.f
  by_cases c : 0 ≤ a0 ∧ a0 ≤ 500
  · rw [if_neg (by omega), decide_eq_false (by omega)]
    simp only [stopcocklaw02_DriftShorter.j0, hl, if_true, Option.bind_some, Bool.false_eq_true, if_false]
    rw [w64 (x := a0 + 1) (by omega) (by omega), short_is, short_is, short_is]
    simp only [Option.bind_some]
    by_cases c1 : 1 ≤ a1 ∧ a1 ≤ 1073741824
    · rw [if_pos (show 0 ≤ a0 ∧ a0 ≤ 500 ∧ 1 ≤ a1 ∧ a1 ≤ 1073741824 by omega), if_pos (show (0 : Int) ≤ 0 ∧ (0 : Int) ≤ 500 ∧ 1 ≤ a1 ∧ a1 ≤ 1073741824 by omega)]
      have e0 : a1 * (1000 - 0) / (1000 + 0) = a1 := by
        rw [show (1000 : Int) - 0 = 1000 from rfl, show (1000 : Int) + 0 = 1000 from rfl]; omega
      have l0 := short_le c.1 c.2 (show 0 ≤ a1 by omega)
      have q0 : 0 ≤ a1 * (1000 - a0) / (1000 + a0) := Int.ediv_nonneg (Int.mul_nonneg (by omega) (by omega)) (by omega)
      simp only [e0, if_true]
      rw [if_pos l0, if_pos q0]
      by_cases c2 : a0 + 1 ≤ 500
      · have := short_mono c.1 (show a0 ≤ 499 by omega) (show 0 ≤ a1 by omega)
        rw [if_pos (show 0 ≤ a0 + 1 ∧ a0 + 1 ≤ 500 ∧ 1 ≤ a1 ∧ a1 ≤ 1073741824 by omega)]
        simp only [if_true]
        rw [decide_eq_true this]
      · rw [if_neg (show ¬ (0 ≤ a0 + 1 ∧ a0 + 1 ≤ 500 ∧ 1 ≤ a1 ∧ a1 ≤ 1073741824) by omega)]; rfl
    · rw [if_neg (show ¬ (0 ≤ a0 ∧ a0 ≤ 500 ∧ 1 ≤ a1 ∧ a1 ≤ 1073741824) by omega), if_neg (show ¬ ((0 : Int) ≤ 0 ∧ (0 : Int) ≤ 500 ∧ 1 ≤ a1 ∧ a1 ≤ 1073741824) by omega), if_neg (show ¬ (0 ≤ a0 + 1 ∧ a0 + 1 ≤ 500 ∧ 1 ≤ a1 ∧ a1 ≤ 1073741824) by omega)]
      rfl
  · have ht : stopcocklaw02_DriftShorter.j0 1 a0 a1 true = some true := by
      simp only [stopcocklaw02_DriftShorter.j0, hl, if_true, Option.bind_some]
      rw [short_is, if_neg (by omega)]; rfl
    by_cases c2 : a0 < 0
    · rw [if_pos c2, ht]
    · rw [if_neg c2, decide_eq_true (by omega), ht]
end Go.Proofs.Ytnnpaeplbjfldaa.Pure
