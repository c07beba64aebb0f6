/- frame.Open, at any bytes: what it tells is the plain side's openI. -/
import Derived.Test.YtmoblggflijkdaaDoorFrB
namespace Go.Proofs.YtmoblggflijkdaaDoor.Fr
open Go.RowKit Go.Proofs.YtmoblggflijkdaaDoor.PFrameOpens Go.Proofs.YtmoblggflijkdaaDoorW.PrintWords Go.Proofs.YtmoblggflijkdaaDoorW.PrintLast Go.Proofs.YtmoblggflijkdaaDoorW.PrintMore
set_option linter.unusedVariables false
set_option linter.unusedSimpArgs false
theorem open_calls (A0 : Option Addr) (c0 : Nat) (l : List Int) (w : World) (hr0 : Kd.C (Kd.int .u8) w A0 l.length l) (hc0 : l.length ≤ c0) (hm : l.length ≤ 140737488370000) (hT : Tab w) :
    Calls Tryd.prog 12 #[.slice A0 l.length c0] w fun e w' => ∃ v, e = .returned (.tuple #[v, .int .i64 (openI l).2.1, .int .i64 (openI l).2.2]) ∧ Kd.R (Kd.int .u8) 5 w' w.heap.size (fun _ => True) v (openI l).1 ∧ Below w.heap.size w w' := by
  have fin : ∀ (n m : Int) (x : List Int), openI l = ([], n, m) → ∀ (e : Ending) (w' : World), (e = .returned (.tuple #[.slice none 0 0, .int .i64 n, .int .i64 m]) ∧ ∃ k, w' = w.drewN k) →
      ∃ v, e = .returned (.tuple #[v, .int .i64 (openI l).2.1, .int .i64 (openI l).2.2]) ∧ Kd.R (Kd.int .u8) 5 w' w.heap.size (fun _ => True) v (openI l).1 ∧ Below w.heap.size w w' := by
    intro n m x h e w' ⟨he, k, hw⟩
    rw [h]
    exact ⟨_, he, Kd.R_nil _ _ _ _ _, by rw [hw]; exact pw_below_drewN (Below.refl _ _) k⟩
  by_cases h4 : l.length < 4
  · refine (open_short A0 c0 l w h4).mono fun e w' h => fin 0 10 [] (by unfold openI; rw [if_pos h4]) e w' ⟨h.1, 0, h.2.symm⟩
  · by_cases hf : wordI l = headI (wordI l % 65536)
    · by_cases hl2 : 8192 < wordI l % 65536
      · exact (open_many A0 c0 l w hr0 hc0 (by omega) hm hf hl2).mono fun e w' h => fin 0 11 [] (by unfold openI; rw [if_neg h4, if_pos (.inr hl2)]) e w' h
      · have hn : ¬ (wordI l ≠ headI (wordI l % 65536) ∨ 8192 < wordI l % 65536) := by rintro (c | c); exact c hf; exact hl2 c
        by_cases hl3 : (l.length : Int) - 8 < wordI l % 65536
        · exact (open_cut A0 c0 l w hr0 hc0 (by omega) hm hf (by omega) hl3).mono fun e w' h => fin 0 10 [] (by unfold openI; rw [if_neg h4, if_neg hn, if_pos hl3]) e w' h
        · by_cases hs : wordI (l.drop (4 + wordI l % 65536).toNat) = sumI (l.take (4 + wordI l % 65536).toNat)
          · refine (open_ok A0 c0 l w hr0 hc0 (by omega) hm hT hf (by omega) (by omega) hs).mono fun e w' ⟨v, he, hv, hb⟩ => ?_
            have ho : openI l = ((l.take (4 + wordI l % 65536).toNat).drop 4, 8 + wordI l % 65536, 0) := by unfold openI; rw [if_neg h4, if_neg hn, if_neg hl3, if_neg (by simpa using hs)]
            rw [ho]
            exact ⟨v, he, hv, hb⟩
          · exact (open_sum A0 c0 l w hr0 hc0 (by omega) hm hT hf (by omega) (by omega) hs).mono fun e w' h => fin 0 70 [] (by unfold openI; rw [if_neg h4, if_neg hn, if_neg hl3, if_pos hs]) e w' h
    · exact (open_form A0 c0 l w hr0 hc0 (by omega) hm hf).mono fun e w' h => fin 0 11 [] (by unfold openI; rw [if_neg h4, if_pos (.inl hf)]) e w' h
end Go.Proofs.YtmoblggflijkdaaDoor.Fr
