/- The law DriftSafe over lists: the holder's trust ends ahead of the lease, whatever the clocks; each element's numbers are of int64. -/
import Derived.Test.YtnnpaeplbjfldaaPDriftSafex1
namespace Go.Proofs.Ytnnpaeplbjfldaa.Pure
open Go.RowKit Go.Proofs.Ytnnpaeplbjfldaa.PDriftSafe Go.Proofs.YtnnpaeplbjfldaaW.PrintWords Go.Proofs.YtnnpaeplbjfldaaW.PrintLast
namespace DriftSafeAid

theorem wf64 {a : Int} (h : (Lit.int .i64 a).wf = true) : -9223372036854775808 ≤ a ∧ a ≤ 9223372036854775807 := by
  simp only [Lit.wf, IntKind.min, IntKind.max, IntKind.signed, IntKind.bits, Bool.and_eq_true, decide_eq_true_eq, if_true] at h
  omega
theorem span64 {a : Int} (h : -9223372036854775808 ≤ a ∧ a ≤ 9223372036854775807) : (IntKind.u64.wrap a ≤ 1099511627776) ↔ (0 ≤ a ∧ a ≤ 1099511627776) := by
  simp only [IntKind.wrap, IntKind.signed, IntKind.bits, Bool.false_and]
  simp only [Bool.false_eq_true, if_false]
  omega
theorem w64 {x : Int} (h : -9223372036854775808 ≤ x) (h' : x ≤ 9223372036854775807) : wrap64 x = x := by
  unfold wrap64; omega
theorem mul_in {s x m : Int} (hs : 0 ≤ s) (hm : s ≤ m) (h : 0 ≤ x) (h' : x ≤ 1099511627776) : 0 ≤ s * x ∧ s * x ≤ m * 1099511627776 :=
  ⟨Int.mul_nonneg hs h, Int.mul_le_mul hm h' h (by omega)⟩
theorem rates_in {a : Int} (h : 0 ≤ a) (h' : a ≤ 500) : drift_rates.f a = some (1000 - a, 1000 + a, true) := by
  unfold drift_rates.f
  rw [if_neg (by omega), if_neg (by omega), w64 (by omega) (by omega), w64 (by omega) (by omega)]
theorem rates_out {a : Int} (h : ¬ (0 ≤ a ∧ a ≤ 500)) : drift_rates.f a = some (0, 0, false) := by
  unfold drift_rates.f
  by_cases c : a < 0
  · rw [if_pos c]
  · rw [if_neg c, if_pos (by omega)]

theorem span_is {a : Int} (h : -9223372036854775808 ≤ a ∧ a ≤ 9223372036854775807) : drift_span.f a = some (decide (0 ≤ a ∧ a ≤ 1099511627776)) := by
  unfold drift_span.f; congr 1; exact decide_eq_decide.2 (span64 h)

theorem may_is {r a c : Int} (ha : -9223372036854775808 ≤ a ∧ a ≤ 9223372036854775807) (hc : -9223372036854775808 ≤ c ∧ c ≤ 9223372036854775807) :
    drift_May.f r a c = some (decide (0 ≤ r ∧ r ≤ 500 ∧ 0 ≤ a ∧ a ≤ 1099511627776 ∧ 0 ≤ c ∧ c ≤ 1099511627776 ∧ (1000 - r) * a ≤ 1000 * c ∧ 1000 * c ≤ (1000 + r) * a)) := by
  unfold drift_May.f
  by_cases hr : 0 ≤ r ∧ r ≤ 500
  · rw [rates_in hr.1 hr.2, span_is ha, span_is hc]
    simp only [Option.bind_some, if_true]
    by_cases h1 : 0 ≤ a ∧ a ≤ 1099511627776
    · rw [decide_eq_true h1, if_pos rfl]
      by_cases h2 : 0 ≤ c ∧ c ≤ 1099511627776
      · have m1 := mul_in (s := 1000 - r) (m := 1000) (by omega) (by omega) h1.1 h1.2
        have m2 := mul_in (s := 1000 + r) (m := 1500) (by omega) (by omega) h1.1 h1.2
        rw [decide_eq_true h2, if_pos rfl, w64 (x := (1000 - r) * a) (by omega) (by omega), w64 (x := (1000 + r) * a) (by omega) (by omega), w64 (x := 1000 * c) (by omega) (by omega)]
        by_cases h3 : (1000 - r) * a ≤ 1000 * c
        · rw [if_pos h3]; congr 1; apply decide_eq_decide.2; omega
        · rw [if_neg h3]; congr 1; symm; apply decide_eq_false; omega
      · rw [decide_eq_false h2]; simp only [Bool.false_eq_true, if_false]; congr 1; symm; apply decide_eq_false; omega
    · rw [decide_eq_false h1]; simp only [Bool.false_eq_true, if_false]; congr 1; symm; apply decide_eq_false; omega
  · rw [rates_out hr]; simp only [Option.bind_some, Bool.false_eq_true, if_false]; congr 1; symm; apply decide_eq_false; omega

theorem short_is (r l : Int) : drift_Short.f r l = some (if 0 ≤ r ∧ r ≤ 500 ∧ 1 ≤ l ∧ l ≤ 1073741824 then (l * (1000 - r) / (1000 + r), 0) else (0, 1)) := by
  unfold drift_Short.f
  by_cases hr : 0 ≤ r ∧ r ≤ 500
  · rw [rates_in hr.1 hr.2]
    simp only [Option.bind_some, if_true]
    by_cases c1 : l < 1
    · rw [if_pos c1, if_neg (by omega)]
    · rw [if_neg c1]
      by_cases c2 : l > 1073741824
      · rw [if_pos c2, if_neg (by omega)]
      · have m := mul_in (s := 1000 - r) (x := l) (m := 1000) (by omega) (by omega) (by omega) (by omega)
        rw [Int.mul_comm] at m
        have q0 : 0 ≤ l * (1000 - r) / (1000 + r) := Int.ediv_nonneg m.1 (by omega)
        have q1 : l * (1000 - r) / (1000 + r) ≤ l * (1000 - r) := Int.ediv_le_self _ m.1
        rw [if_neg c2, if_neg (by omega), if_pos (by omega), w64 (x := l * (1000 - r)) (by omega) (by omega), Int.tdiv_eq_ediv_of_nonneg m.1, w64 (by omega) (by omega)]
  · rw [rates_out hr, if_neg (by omega)]; simp only [Option.bind_some, Bool.false_eq_true, if_false]

def Fits (x : S39) : Prop := (Lit.int .i64 x.f0).wf = true ∧ (Lit.int .i64 x.f1).wf = true
/-- What went by, as far as a clock that keeps r may go. -/
def Kept (r real clock : Int) : Prop := 0 ≤ real ∧ real ≤ 1125899906842624 + 1099511627776 ∧ 0 ≤ clock ∧ (1000 - r) * real ≤ 1000 * clock ∧ 1000 * clock ≤ (1000 + r) * real
theorem rd_fits {l : List S39} (h : ∀ x ∈ l, Fits x) {i : Int} (h0 : 0 ≤ i) (h1 : i < l.length) : Fits (rd_T39 l i) := by
  unfold rd_T39
  have hl : i.toNat < l.length := by omega
  rw [List.getD_eq_getElem?_getD, List.getElem?_eq_getElem hl]
  exact h _ (List.getElem_mem hl)
theorem gone_tells {r : Int} (hr : 0 ≤ r) (hr' : r ≤ 500) (l : List S39) (hl : ∀ x ∈ l, Fits x) (hn : l.length ≤ 140737488351232) (d : Nat) : ∀ (k : Nat) (i real clock : Int), 0 ≤ i → i ≤ l.length → (l.length : Int) - i = d → d < k → Kept r real clock →
    ∃ x y, stopcocklaw02_gone.l0 k r real clock l (l.length : Int) i = some (x, y) ∧ Kept r x y := by
  induction d with
  | zero =>
    intro k i real clock h0 h1 hd hk hK
    obtain ⟨k, rfl⟩ : ∃ m, k = m + 1 := ⟨k - 1, by omega⟩
    exact ⟨real, clock, by simp only [stopcocklaw02_gone.l0]; rw [if_neg (by omega)], hK⟩
  | succ d ih =>
    intro k i real clock h0 h1 hd hk hK
    obtain ⟨k, rfl⟩ : ∃ m, k = m + 1 := ⟨k - 1, by omega⟩
    have hlt : i < (l.length : Int) := by omega
    obtain ⟨f0, f1⟩ := rd_fits hl h0 hlt
    have f0 := wf64 f0
    have f1 := wf64 f1
    simp only [stopcocklaw02_gone.l0]
    rw [if_pos hlt, if_pos h0, if_pos hlt, may_is f0 f1, w64 (x := i + 1) (by omega) (by omega)]
    simp only [Option.bind_some]
    generalize hg0 : (rd_T39 l i).f0 = g0 at *
    generalize hg1 : (rd_T39 l i).f1 = g1 at *
    by_cases c : 0 ≤ r ∧ r ≤ 500 ∧ 0 ≤ g0 ∧ g0 ≤ 1099511627776 ∧ 0 ≤ g1 ∧ g1 ≤ 1099511627776 ∧ (1000 - r) * g0 ≤ 1000 * g1 ∧ 1000 * g1 ≤ (1000 + r) * g0
    · rw [decide_eq_true c, if_pos rfl]
      by_cases c2 : real ≤ 1125899906842624
      · obtain ⟨k0, k1, k2, k3, k4⟩ := hK
        have m2 : (1000 + r) * real ≤ 1500 * (1125899906842624 + 1099511627776) := Int.mul_le_mul (by omega) k1 k0 (by omega)
        rw [if_pos c2, w64 (x := real + g0) (by omega) (by omega), w64 (x := clock + g1) (by omega) (by omega)]
        refine ih k (i + 1) (real + g0) (clock + g1) (by omega) (by omega) (by omega) (by omega) ⟨by omega, by omega, by omega, ?_, ?_⟩
        · rw [Int.mul_add]; omega
        · rw [Int.mul_add (1000 + r)]; omega
      · rw [if_neg c2]
        exact ih k (i + 1) real clock (by omega) (by omega) (by omega) (by omega) hK
    · rw [decide_eq_false c]
      simp only [Bool.false_eq_true, if_false]
      exact ih k (i + 1) real clock (by omega) (by omega) (by omega) (by omega) hK
theorem kept_zero {r : Int} : Kept r 0 0 := ⟨by omega, by omega, by omega, by omega, by omega⟩
/-- The theorem itself: less than Short of the lease at one clock, the lease or more at another. -/
theorem sooner {r lease x c s d : Int} (hr : 0 ≤ r) (hr' : r ≤ 500) (ha : Kept r x c) (hb : Kept r s d) (hc : c < lease * (1000 - r) / (1000 + r)) (hd : lease ≤ d) : x < s := by
  obtain ⟨a0, a1, a2, a3, a4⟩ := ha
  obtain ⟨b0, b1, b2, b3, b4⟩ := hb
  have q : lease * (1000 - r) / (1000 + r) * (1000 + r) ≤ lease * (1000 - r) := Int.ediv_mul_le _ (by omega)
  have q2 : (c + 1) * (1000 + r) ≤ lease * (1000 - r) / (1000 + r) * (1000 + r) := Int.mul_le_mul_of_nonneg_right (by omega) (by omega)
  have q3 : (c + 1) * (1000 + r) ≤ lease * (1000 - r) := by omega
  have q4 : (1000 - r) * x * (1000 + r) ≤ 1000 * c * (1000 + r) := Int.mul_le_mul_of_nonneg_right a3 (by omega)
  have q5 : (1000 - r) * (1000 * d) ≤ (1000 - r) * ((1000 + r) * s) := Int.mul_le_mul_of_nonneg_left b4 (by omega)
  have q6 : (1000 - r) * lease ≤ (1000 - r) * d := Int.mul_le_mul_of_nonneg_left hd (by omega)
  apply Int.lt_of_not_ge
  intro hxs
  have q7 : (1000 - r) * ((1000 + r) * s) ≤ (1000 - r) * ((1000 + r) * x) := Int.mul_le_mul_of_nonneg_left (Int.mul_le_mul_of_nonneg_left hxs (by omega)) (by omega)
  have e1 : (1000 - r) * x * (1000 + r) = (1000 - r) * ((1000 + r) * x) := by rw [Int.mul_assoc, Int.mul_comm x]
  have e2 : (1000 - r) * (1000 * d) = 1000 * ((1000 - r) * d) := by rw [← Int.mul_assoc, Int.mul_comm (1000 - r) 1000, Int.mul_assoc]
  have e3 : 1000 * c * (1000 + r) = 1000 * (c * (1000 + r)) := Int.mul_assoc _ _ _
  have e4 : lease * (1000 - r) = (1000 - r) * lease := Int.mul_comm _ _
  have e5 : (c + 1) * (1000 + r) = c * (1000 + r) + (1000 + r) := by rw [Int.add_mul, Int.one_mul]
  omega

end DriftSafeAid
open DriftSafeAid in
theorem DriftSafe : ∀ (a0 a1 : Int) (l2 l3 : List S39), (∀ x ∈ l2, Fits x) → (∀ x ∈ l3, Fits x) → l2.length ≤ 140737488351232 → l3.length ≤ 140737488351232 → ∃ k, stopcocklaw02_DriftSafe.f k a0 a1 l2 l3 = some true := by
  intro a0 a1 l2 l3 h2 h3 n2 n3
  have hl : stopcocklaw02_short.f = some true := by decide +kernel
  have ht : ∀ (k : Nat) (x9 : Int), stopcocklaw02_DriftSafe.j0 (k + 1) a0 a1 l2 l3 x9 true = some true := by
    intro k x9
    simp only [stopcocklaw02_DriftSafe.j0, hl, if_true, Option.bind_some]
  have hj : ∀ (k : Nat) (x y : Int) (b : Bool), (b = false → x < y) → stopcocklaw02_DriftSafe.j1 (k + 1) x y b = some true := by
    intro k x y b hb
    cases b with
    | true => simp only [stopcocklaw02_DriftSafe.j1, hl, if_true, Option.bind_some]
    | false =>
      simp only [stopcocklaw02_DriftSafe.j1, hl, if_true, Option.bind_some, Bool.false_eq_true, if_false]
      rw [decide_eq_true (hb rfl)]
  refine ⟨l2.length + l3.length + 3, ?_⟩
  unfold stopcocklaw02_DriftSafe.f
  rw [short_is]
  simp only [Option.bind_some]
  by_cases c : 0 ≤ a0 ∧ a0 ≤ 500 ∧ 1 ≤ a1 ∧ a1 ≤ 1073741824
  · rw [if_pos c]
    simp only [if_true]
    by_cases c2 : wrap64 ((l2.length : Int) + (l3.length : Int)) > 1000
    · rw [decide_eq_true c2]; exact ht _ _
    · rw [decide_eq_false c2]
      obtain ⟨x, y, e2, k2⟩ := gone_tells c.1 c.2.1 l2 h2 n2 l2.length (l2.length + l3.length + 2) 0 0 0 (by omega) (by omega) (by omega) (by omega) kept_zero
      obtain ⟨s, d, e3, k3⟩ := gone_tells c.1 c.2.1 l3 h3 n3 l3.length (l2.length + l3.length + 2) 0 0 0 (by omega) (by omega) (by omega) (by omega) kept_zero
      simp only [stopcocklaw02_DriftSafe.j0, stopcocklaw02_gone.f, Bool.false_eq_true, if_false]
      rw [e2, e3]
      simp only [Option.bind_some]
      by_cases c3 : y ≥ a1 * (1000 - a0) / (1000 + a0)
      · rw [if_pos c3]; exact hj _ _ _ _ (fun h => by cases h)
      · rw [if_neg c3]
        refine hj _ _ _ _ (fun h => ?_)
        have c4 := of_decide_eq_false h
        exact sooner (lease := a1) c.1 c.2.1 k2 k3 (by omega) (by omega)
  · rw [if_neg c]
    simp only [show ((1 : Int) = 0) = False by simp, if_false]
    exact ht _ _
end Go.Proofs.Ytnnpaeplbjfldaa.Pure
