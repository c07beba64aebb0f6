/- The law FrameBack, walked: it returns true. -/
import Derived.Test.YtmoblggflijkdaaDoorFrC
namespace Go.Proofs.YtmoblggflijkdaaDoor.Fr
open Go.RowKit Go.Proofs.YtmoblggflijkdaaDoor.PFrameOpens Go.Proofs.YtmoblggflijkdaaDoorW.PrintWords Go.Proofs.YtmoblggflijkdaaDoorW.PrintLast Go.Proofs.YtmoblggflijkdaaDoorW.PrintMore
set_option linter.unusedVariables false
set_option linter.unusedSimpArgs false
set_option maxRecDepth 100000 in
theorem back_long (A0 : Option Addr) (c0 : Nat) (l : List Int) (A1 : Option Addr) (m c1 : Nat) (w : World) (hm : l.length ≤ 140737488351232) (hT : Tab w) (hl : 8192 < l.length) :
    Calls Tryd.prog 5 #[.slice A0 l.length c0, .slice A1 m c1] w fun e w' => e = .returned (.bool true) ∧ Below w.heap.size w w' := by
  have HT := Aside0.mk hT
  have t1 : decide (8192 < (l.length : Int)) = true := decide_eq_true (by omega)
  have t2 : decide (8192 < l.length) = true := decide_eq_true hl
  clear hT
  go_enter Tryd.func5, Tryd.ntmps5
  go_wp2_with fail
  refine (live_calls _ HT.out).mono ?_
  rintro e w1 ⟨rfl, hb1⟩
  have HB := Aside0.mk hb1
  clear hb1
  go_wp2_with fail
  refine (seal_long A0 c0 l _ (by omega) (by omega)).mono ?_
  rintro e w' ⟨rfl, rfl⟩
  go_wp2_with fail
  go_ret
  exact ⟨rfl, HB.out⟩
set_option maxRecDepth 100000 in
theorem back_short (A0 : Option Addr) (c0 : Nat) (l : List Int) (A1 : Option Addr) (c1 : Nat) (m : List Int) (w : World) (hr0 : Kd.C (Kd.int .u8) w A0 l.length l) (hc0 : l.length ≤ c0) (hr1 : Kd.C (Kd.int .u8) w A1 m.length m) (hc1 : m.length ≤ c1) (hb : Bytes l) (hbm : Bytes m) (hT : Tab w) (hl : l.length ≤ 8192) (hml : m.length ≤ 140737488340000) :
    Calls Tryd.prog 5 #[.slice A0 l.length c0, .slice A1 m.length c1] w fun e w' => e = .returned (.bool true) ∧ Below w.heap.size w w' := by
  obtain ⟨z, hz⟩ : ∃ z, z = sealI l := ⟨_, rfl⟩
  have zl : z.length = l.length + 8 := by rw [hz]; exact sealI_len l
  obtain ⟨j, hj⟩ : ∃ j, j = z ++ m := ⟨_, rfl⟩
  have ho : openI j = (l, 8 + (l.length : Int), 0) := by rw [hj, hz]; exact open_seal l m hb hbm hl
  have hzl : (z.length : Int) = 8 + (l.length : Int) := by omega
  have gk : ((8 + (l.length : Int)) == (8 + (l.length : Int))) = true := beq_self_eq_true _
  have g5 : ((strOfNums l).toList == (strOfNums l).toList) = true := beq_self_eq_true _
  have Hz := Aside0.mk hz
  have Zl := Aside0.mk zl
  have Hj := Aside0.mk hj
  have Ho := Aside0.mk ho
  have Jl := Aside0.mk (show j.length ≤ 140737488351232 by rw [hj, List.length_append]; omega)
  have HR := Aside0.mk hr0
  have HC := Aside0.mk hc0
  have HRm := Aside0.mk hr1
  have HCm := Aside0.mk hc1
  have HT := Aside0.mk hT
  clear hr0 hc0 hr1 hc1 hT hz zl hj ho hb hbm
  go_enter Tryd.func5, Tryd.ntmps5
  go_wp2_with fail
  refine (live_calls _ HT.out).mono ?_
  rintro e w1 ⟨rfl, hb1⟩
  have HB := Aside0.mk hb1
  clear hb1
  go_wp2_with fail
  refine (seal_short A0 c0 l _ (Kd.C_below HR.out HB.out) HC.out hl (HT.out.below HB.out HT.out.pos)).mono ?_
  rw [← Hz.out]
  rintro e w2 ⟨v2, rfl, ho2, hb2⟩
  obtain ⟨A2, n2, e2⟩ := Kd.R_slice ho2
  subst e2
  have HO2 := Aside0.mk ho2
  have HB2 := Aside0.mk (below_step HB.out hb2)
  clear ho2 hb2 HB
  go_wp2_with (first | ((with_reducible refine gate_builtin (b := .append) (xs := #[.tmp 27, .tmp 28]) rfl ?_); at_builtin; refine Kd.R_append_rows (Kd.int .u8) (w0 := w2) w2.heap.size rfl (.tmp 27) (.tmp 28) 22 5 (.int .u8 0) 1 rfl Tryd.underlying22 info5 rfl (by decide) (by omega) (.slice A3 z.length n3) z m _ _ _ (fun _ => True) (fun _ => False) rfl rfl (HO3.out) (Kd.C_below HRm.out HB23.out) (fun _ _ h => h) (fun _ h => h.elim) (fun _ _ => trivial) HB3.out (below_size HB3.out) ?aL ?_; (case aL => have := Zl.out; omega); intro v4 w4 ho hb hg hat; rw [← Hj.out] at ho; obtain ⟨A4, n4, e4⟩ := Kd.R_slice ho; subst e4; have HO4 := Aside0.mk ho; have HB4 := Aside0.mk (below_step HB2.out hb); clear ho hb hg hat) | ((with_reducible refine gate_builtin (b := .append) (xs := #[.const (.slice none 0 0), .tmp 26]) rfl ?_); at_builtin; refine Kd.R_append_rows (Kd.int .u8) (w0 := w2) w2.heap.size rfl (.const (.slice none 0 0)) (.tmp 26) 22 5 (.int .u8 0) 1 rfl Tryd.underlying22 info5 rfl (by decide) (by omega) (.slice none 0 0) [] z _ _ _ (fun _ => True) (fun _ => False) rfl rfl (Kd.R_nil (Kd.int .u8) 5 _ _ _) ((Kd.R_reads' HO2.out).2.2) (fun _ _ h => h) (fun _ h => h.elim) (fun _ _ => trivial) (Below.refl _ _) (below_size (Below.refl _ _)) ?aL ?_; (case aL => have := Zl.out; simp; omega); intro v3 w3 ho hb hg hat; rw [List.nil_append] at ho; obtain ⟨A3, n3, e3⟩ := Kd.R_slice ho; subst e3; have HO3 := Aside0.mk ho; have HB3 := Aside0.mk hb; have HB23 := Aside0.mk (below_step HB2.out hb); clear ho hb hg hat))
  refine (open_calls A4 n4 j _ (Kd.R_reads' HO4.out).2.2 (Kd.R_reads' HO4.out).2.1 (by have := Jl.out; omega) (HT.out.below HB4.out HT.out.pos)).mono ?_
  rw [Ho.out]
  rintro _ w5 ⟨v5, rfl, ho5, hb5⟩
  obtain ⟨A5, n5, e5⟩ := Kd.R_slice ho5
  subst e5
  have HB5 := Aside0.mk (below_step HB4.out hb5)
  have hcv0 := Kd.C_string (P := Tryd.prog) (c := n5) Tryd.underlying22 Tryd.underlying5 Tryd.underlying9 (Kd.R_reads' ho5).2.2
  have hcv1 := Kd.C_string (P := Tryd.prog) (c := c0) Tryd.underlying22 Tryd.underlying5 Tryd.underlying9 (Kd.C_below HR.out HB5.out)
  clear ho5 hb5
  go_wp2_with fail
  go_ret
  exact ⟨rfl, HB5.out⟩
theorem back_calls (A0 : Option Addr) (c0 : Nat) (l : List Int) (A1 : Option Addr) (c1 : Nat) (m : List Int) (w : World) (hr0 : Kd.C (Kd.int .u8) w A0 l.length l) (hc0 : l.length ≤ c0) (hr1 : Kd.C (Kd.int .u8) w A1 m.length m) (hc1 : m.length ≤ c1) (hm : l.length ≤ 140737488351232) (hml : m.length ≤ 140737488340000) (hb : Bytes l) (hbm : Bytes m) (hT : Tab w) :
    Calls Tryd.prog 5 #[.slice A0 l.length c0, .slice A1 m.length c1] w fun e w' => e = .returned (.bool true) ∧ Below w.heap.size w w' := by
  by_cases hl : l.length ≤ 8192
  · exact back_short A0 c0 l A1 c1 m w hr0 hc0 hr1 hc1 hb hbm hT hl hml
  · exact back_long A0 c0 l A1 _ c1 w hm hT (by omega)
end Go.Proofs.YtmoblggflijkdaaDoor.Fr
