/- The law DriftShort as the print has it: drift.Short tells what the document's Short tells. -/
import Derived.Test.YtnnpaeplbjfldaaPDriftShortx1
namespace Go.Proofs.Ytnnpaeplbjfldaa.Pure
open Go.RowKit Go.Proofs.Ytnnpaeplbjfldaa.PDriftShort Go.Proofs.YtnnpaeplbjfldaaW.PrintWords Go.Proofs.YtnnpaeplbjfldaaW.PrintLast
namespace DriftShortAid

theorem wf64 {a : Int} (h : (Lit.int .i64 a).wf = true) : -9223372036854775808 ≤ a ∧ a ≤ 9223372036854775807 := by
  simp only [Lit.wf, IntKind.min, IntKind.max, IntKind.signed, IntKind.bits, Bool.and_eq_true, decide_eq_true_eq, if_true] at h
  omega
theorem span64 {a : Int} (h : -9223372036854775808 ≤ a ∧ a ≤ 9223372036854775807) : (IntKind.u64.wrap a ≤ 1099511627776) ↔ (0 ≤ a ∧ a ≤ 1099511627776) := by
  simp only [IntKind.wrap, IntKind.signed, IntKind.bits, Bool.false_and]
  simp only [Bool.false_eq_true, if_false]
  omega
theorem w64 {x : Int} (h : -9223372036854775808 ≤ x) (h' : x ≤ 9223372036854775807) : wrap64 x = x := by
  unfold wrap64; omega
theorem mul_in {s x m : Int} (hs : 0 ≤ s) (hm : s ≤ m) (h : 0 ≤ x) (h' : x ≤ 1099511627776) : 0 ≤ s * x ∧ s * x ≤ m * 1099511627776 :=
  ⟨Int.mul_nonneg hs h, Int.mul_le_mul hm h' h (by omega)⟩
theorem rates_in {a : Int} (h : 0 ≤ a) (h' : a ≤ 500) : drift_rates.f a = some (1000 - a, 1000 + a, true) := by
  unfold drift_rates.f
  rw [if_neg (by omega), if_neg (by omega), w64 (by omega) (by omega), w64 (by omega) (by omega)]
theorem rates_out {a : Int} (h : ¬ (0 ≤ a ∧ a ≤ 500)) : drift_rates.f a = some (0, 0, false) := by
  unfold drift_rates.f
  by_cases c : a < 0
  · rw [if_pos c]
  · rw [if_neg c, if_pos (by omega)]

theorem short_is (r l : Int) : drift_Short.f r l = some (if 0 ≤ r ∧ r ≤ 500 ∧ 1 ≤ l ∧ l ≤ 1073741824 then (l * (1000 - r) / (1000 + r), 0) else (0, 1)) := by
  unfold drift_Short.f
  by_cases hr : 0 ≤ r ∧ r ≤ 500
  · rw [rates_in hr.1 hr.2]
    simp only [Option.bind_some, if_true]
    by_cases c1 : l < 1
    · rw [if_pos c1, if_neg (by omega)]
    · rw [if_neg c1]
      by_cases c2 : l > 1073741824
      · rw [if_pos c2, if_neg (by omega)]
      · have m := mul_in (s := 1000 - r) (x := l) (m := 1000) (by omega) (by omega) (by omega) (by omega)
        rw [Int.mul_comm] at m
        have q0 : 0 ≤ l * (1000 - r) / (1000 + r) := Int.ediv_nonneg m.1 (by omega)
        have q1 : l * (1000 - r) / (1000 + r) ≤ l * (1000 - r) := Int.ediv_le_self _ m.1
        rw [if_neg c2, if_neg (by omega), if_pos (by omega), w64 (x := l * (1000 - r)) (by omega) (by omega), Int.tdiv_eq_ediv_of_nonneg m.1, w64 (by omega) (by omega)]
  · rw [rates_out hr, if_neg (by omega)]; simp only [Option.bind_some, Bool.false_eq_true, if_false]

theorem good_is (a : Int) : stopcockref02_good.f a = some (decide (0 ≤ a ∧ a ≤ 500)) := by
  unfold stopcockref02_good.f
  by_cases c : a ≥ 0
  · rw [if_pos c]; congr 1; apply decide_eq_decide.2; omega
  · rw [if_neg c]; congr 1; symm; apply decide_eq_false; omega

theorem rshort_is (r l : Int) : stopcockref02_Short.f r l = some (if 0 ≤ r ∧ r ≤ 500 ∧ 1 ≤ l ∧ l ≤ 1073741824 then (l * (1000 - r) / (1000 + r), 0) else (0, 1)) := by
  unfold stopcockref02_Short.f
  rw [good_is]
  simp only [Option.bind_some]
  by_cases hr : 0 ≤ r ∧ r ≤ 500
  · rw [decide_eq_true hr, if_pos rfl]
    by_cases c1 : l < 1
    · rw [if_pos c1, if_neg (by omega)]
    · rw [if_neg c1]
      by_cases c2 : l > 1073741824
      · rw [if_pos c2, if_neg (by omega)]
      · have m := mul_in (s := 1000 - r) (x := l) (m := 1000) (by omega) (by omega) (by omega) (by omega)
        rw [Int.mul_comm] at m
        have q0 : 0 ≤ l * (1000 - r) / (1000 + r) := Int.ediv_nonneg m.1 (by omega)
        have q1 : l * (1000 - r) / (1000 + r) ≤ l * (1000 - r) := Int.ediv_le_self _ m.1
        rw [if_neg c2, w64 (x := 1000 - r) (by omega) (by omega), w64 (x := 1000 + r) (by omega) (by omega), if_neg (by omega), if_pos (by omega), w64 (x := l * (1000 - r)) (by omega) (by omega), Int.tdiv_eq_ediv_of_nonneg m.1, w64 (by omega) (by omega)]
  · rw [decide_eq_false hr, if_neg (by decide), if_neg (by omega)]

end DriftShortAid
open DriftShortAid in
theorem DriftShort : stopcocklaw02_DriftShort.Pure := by
  intro a0 a1 h0 h1
  have hl : stopcocklaw02_short.f = some true := by decide +kernel
  unfold stopcocklaw02_DriftShort.f
  rw [hl, short_is, rshort_is]; simp
end Go.Proofs.Ytnnpaeplbjfldaa.Pure
