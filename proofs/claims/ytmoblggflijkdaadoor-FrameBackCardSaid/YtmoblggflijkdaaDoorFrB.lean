/- The frame laws' example (live), and what the references' Sum and Seal compute, in the plain side's words. -/
import Derived.Test.YtmoblggflijkdaaDoorFrA
namespace Go.Proofs.YtmoblggflijkdaaDoor.Fr
open Go.RowKit Go.Proofs.YtmoblggflijkdaaDoor.PFrameOpens Go.Proofs.YtmoblggflijkdaaDoorW.PrintWords Go.Proofs.YtmoblggflijkdaaDoorW.PrintLast Go.Proofs.YtmoblggflijkdaaDoorW.PrintMore
set_option linter.unusedVariables false
set_option linter.unusedSimpArgs false
theorem live_str : strOfNums ((sealI []).take 4) = ⟨#[255, 255, 0, 0]⟩ := by decide +kernel
set_option maxRecDepth 100000 in
theorem live_calls (w : World) (hT : Tab w) :
    Calls Tryd.prog 11 #[] w fun e w' => e = .returned (.bool true) ∧ Below w.heap.size w w' := by
  have HT := Aside0.mk hT
  clear hT
  obtain ⟨z, hz⟩ : ∃ z, z = sealI [] := ⟨_, rfl⟩
  have hl8 : ((z.length : Int) == 8) = true := by rw [hz]; decide +kernel
  have hl8' : (z.length == 8) = true := by rw [hz]; decide +kernel
  have Hz := Aside0.mk hz
  clear hz
  obtain ⟨i0, hi0, _, hsz, _⟩ := info_parts info5
  go_enter Tryd.func11, Tryd.ntmps11
  go_wp2_with fail
  have h0 := seal_short none 0 [] w (Kd.C_nil _ _) (Nat.le_refl _) (by decide) HT.out
  rw [← Hz.out] at h0
  have h1 : Calls Tryd.prog 9 #[.slice none 0 0] w fun e w' => ∃ v, e = .returned (.tuple #[v, .int .i64 0]) ∧ Kd.R (Kd.int .u8) 5 w' w.heap.size (fun _ => True) v z ∧ Below w.heap.size w w' := h0
  refine h1.mono ?_
  clear h0 h1
  rintro e w1 ⟨v1, rfl, ho1, hb1⟩
  obtain ⟨A1, n1, e1⟩ := Kd.R_slice ho1
  subst e1
  have HO := Aside0.mk ho1
  have HB := Aside0.mk hb1
  have hz8 : z.length = 8 := by simpa using hl8'
  have hcut := cut_to (P := Tryd.prog) 22 5 .i64 Tryd.underlying22 hi0 A1 z.length n1 4 (by omega) (by omega) (Kd.R_reads' ho1).2.1
  have hC := Kd.C_take (m := 4) (Kd.R_reads' ho1).2.2 (by omega)
  rw [show (z.take 4).length = 4 by rw [List.length_take]; omega] at hC
  have hcv := Kd.C_string (P := Tryd.prog) (c := n1) Tryd.underlying22 Tryd.underlying5 Tryd.underlying9 hC
  clear hC
  rw [Hz.out, live_str] at hcv
  clear ho1 hb1 hz8
  go_wp2_with fail
  go_ret
  exact ⟨rfl, HB.out⟩
theorem rd_rdI (l : List Int) (i : Nat) : rd l (i : Int) = rdI l i := rfl
theorem l1_one (k : Nat) (r : BitVec 32) (l : List Int) (n i j : Int) (h0 : 0 ≤ j) (h1 : j < 8) : stopcockref01_Sum.l1 (k + 1) (r.toNat : Int) l n i j = stopcockref01_Sum.l1 k ((T1 r).toNat : Int) l n i (j + 1) := by
  simp only [stopcockref01_Sum.l1]
  have e : wrap64 (j + 1) = j + 1 := by unfold wrap64; omega
  rw [if_pos h1, e, ← t1I_B]
  unfold t1I
  by_cases c : (r.toNat : Int) / 2147483648 = 1
  · rw [if_pos c, if_pos c]
  · rw [if_neg c, if_neg c]
theorem l1_eight (k : Nat) (r : BitVec 32) (l : List Int) (n i : Int) : stopcockref01_Sum.l1 (k + 9) (r.toNat : Int) l n i 0 = stopcockref01_Sum.l0 k ((T8 r).toNat : Int) l n (wrap64 (i + 1)) := by
  rw [show k + 9 = (((((((k + 1) + 1) + 1) + 1) + 1) + 1) + 1) + 1 + 1 from rfl]
  rw [l1_one _ _ _ _ _ _ (by decide) (by decide), l1_one _ _ _ _ _ _ (by decide) (by decide), l1_one _ _ _ _ _ _ (by decide) (by decide), l1_one _ _ _ _ _ _ (by decide) (by decide), l1_one _ _ _ _ _ _ (by decide) (by decide), l1_one _ _ _ _ _ _ (by decide) (by decide), l1_one _ _ _ _ _ _ (by decide) (by decide), l1_one _ _ _ _ _ _ (by decide) (by decide)]
  simp only [stopcockref01_Sum.l1]
  rw [if_neg (by decide)]
  rfl
theorem refsum_from (l : List Int) (hl : l.length ≤ 140737488355328) (hb : Bytes l) (d : Nat) : ∀ (k : Nat) (i : Nat) (r : BitVec 32), i ≤ l.length → l.length - i = d → 10 * d < k →
    stopcockref01_Sum.l0 k (r.toNat : Int) l (l.length : Int) (i : Int) = some (bits .xor .u32 ((regB r (l.drop i)).toNat : Int) 4294967295) := by
  induction d with
  | zero =>
    intro k i r hi hd hk
    obtain ⟨k, rfl⟩ : ∃ m, k = m + 1 := ⟨k - 1, by omega⟩
    simp only [stopcockref01_Sum.l0]
    rw [if_neg (by omega), List.drop_of_length_le (by omega)]
    rfl
  | succ d ih =>
    intro k i r hi hd hk
    obtain ⟨k, rfl⟩ : ∃ m, k = m + 9 + 1 := ⟨k - 10, by omega⟩
    have hlt : i < l.length := by omega
    simp only [stopcockref01_Sum.l0]
    rw [if_pos (by omega), if_pos (by omega), if_pos (by omega), rd_rdI]
    have b := rdI_in l hb i
    obtain ⟨m, hm⟩ : ∃ m : Int, m = rdI l i % 4294967296 * 16777216 % 4294967296 := ⟨_, rfl⟩
    have e : m = Int.ofNat (BitVec.ofNat 32 (rdI l i).toNat <<< 24).toNat := by
      rw [hm, BitVec.toNat_shiftLeft, BitVec.toNat_ofNat, Nat.shiftLeft_eq]; simp only [Int.ofNat_eq_natCast]; omega
    rw [← hm, e, show bits .xor .u32 (r.toNat : Int) (Int.ofNat (BitVec.ofNat 32 (rdI l i).toNat <<< 24).toNat) = _ from u32_xor_B r _, l1_eight, show wrap64 ((i : Int) + 1) = ((i + 1 : Nat) : Int) by unfold wrap64; omega, ih k (i + 1) _ (by omega) (by omega) (by omega)]
    have hd2 : l.drop i = rdI l i :: l.drop (i + 1) := by
      rw [List.drop_eq_getElem_cons hlt]
      unfold rdI
      rw [List.getD_eq_getElem?_getD, List.getElem?_eq_getElem hlt]
      rfl
    rw [hd2, ← byteB_T8]
    rfl
theorem refsum_is (l : List Int) (hl : l.length ≤ 140737488355328) (hb : Bytes l) : ∃ k, stopcockref01_Sum.f k l = some (sumI l) := by
  refine ⟨10 * l.length + 1, ?_⟩
  unfold stopcockref01_Sum.f
  have e1 : (4294967295 : Int) = (ones.toNat : Int) := by decide +kernel
  have := refsum_from l hl hb l.length (10 * l.length + 1) 0 ones (by omega) (by omega) (by omega)
  rw [← e1] at this
  rw [show (0 : Int) = ((0 : Nat) : Int) from rfl, this, sum_B l hb, List.drop_zero, e1, u32_xor_B, BitVec.xor_comm]
theorem refseal_long (l : List Int) (h : 8192 < l.length) (k : Nat) : stopcockref07_Seal.f k l = some ([], 2) := by
  unfold stopcockref07_Seal.f
  rw [if_pos (by omega)]
theorem refseal_short (l : List Int) (h : l.length ≤ 8192) (hb : Bytes l) : ∃ k, stopcockref07_Seal.f k l = some (sealI l, 0) := by
  have hw : ([(wrap64 (255 - (wrap64 ((l.length : Int) / 256)))) % 256, 255 - ((l.length : Int) % 256), (wrap64 ((l.length : Int) / 256)) % 256, (l.length : Int) % 256] : List Int) = word4 (headI l.length) := by
    have hm : (0 : Int) ≤ (l.length : Int) ∧ (l.length : Int) ≤ 8192 := by omega
    rw [headI_is _ (by omega) (by omega)]
    have e : wrap64 ((l.length : Int) / 256) = (l.length : Int) / 256 := by unfold wrap64; omega
    have e2 : wrap64 (255 - (l.length : Int) / 256) = 255 - (l.length : Int) / 256 := by unfold wrap64; omega
    rw [e, e2]
    clear e e2
    generalize (l.length : Int) = m at *
    have m0 : 0 ≤ m ∧ m ≤ 8192 := hm
    obtain ⟨X, hX⟩ : ∃ X, X = (65535 - m) * 65536 + m := ⟨_, rfl⟩
    rw [← hX]
    have a1 : X / 65536 = 65535 - m := by omega
    have a2 : X / 16777216 = X / 65536 / 256 := by omega
    have a3 : X / 256 = 256 * (65535 - m) + m / 256 := by omega
    have a4 : (65535 - m) / 256 = 255 - m / 256 := by omega
    unfold word4
    rw [a2, a1, a3, a4]
    congr 1
    congr 1
    · omega
    · congr 1
      · omega
      · congr 1; omega
  obtain ⟨k, hk⟩ := refsum_is (word4 (headI l.length) ++ l) (by simp [word4]; omega) ((word4_bytes _).append hb)
  refine ⟨k, ?_⟩
  unfold stopcockref07_Seal.f
  rw [if_neg (by omega), hw]
  simp only [Option.bind_some]
  rw [if_pos (by simp [word4]; omega), hk]
  simp only [Option.bind_some]
  rw [if_pos (by simp [word4]; omega)]
  rfl
end Go.Proofs.YtmoblggflijkdaaDoor.Fr
