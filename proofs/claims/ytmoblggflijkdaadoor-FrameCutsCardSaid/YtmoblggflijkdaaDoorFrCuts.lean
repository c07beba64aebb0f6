/- The law FrameCuts, walked: it returns true, whatever the body and the cut. -/
import Derived.Test.YtmoblggflijkdaaDoorFrC
namespace Go.Proofs.YtmoblggflijkdaaDoor.Fr
open Go.RowKit Go.Proofs.YtmoblggflijkdaaDoor.PFrameOpens Go.Proofs.YtmoblggflijkdaaDoorW.PrintWords Go.Proofs.YtmoblggflijkdaaDoorW.PrintLast Go.Proofs.YtmoblggflijkdaaDoorW.PrintMore
set_option linter.unusedVariables false
set_option linter.unusedSimpArgs false
set_option maxRecDepth 100000 in
theorem cuts_long (A0 : Option Addr) (c0 : Nat) (l : List Int) (a : Int) (w : World) (hm : l.length ≤ 140737488351232) (hT : Tab w) (hl : 8192 < l.length) :
    Calls Tryd.prog 8 #[.slice A0 l.length c0, .int .i64 a] w fun e w' => e = .returned (.bool true) ∧ Below w.heap.size w w' := by
  have HT := Aside0.mk hT
  clear hT
  go_enter Tryd.func8, Tryd.ntmps8
  go_wp2_with fail
  refine (live_calls _ HT.out).mono ?_
  rintro e w1 ⟨rfl, hb1⟩
  have HB := Aside0.mk hb1
  clear hb1
  go_wp2_with fail
  refine (seal_long A0 c0 l _ (by omega) (by omega)).mono ?_
  rintro e w' ⟨rfl, rfl⟩
  go_wp2_with fail
  go_ret
  exact ⟨rfl, HB.out⟩
set_option maxRecDepth 100000 in
theorem cuts_short (A0 : Option Addr) (c0 : Nat) (l : List Int) (a : Int) (w : World) (hr0 : Kd.C (Kd.int .u8) w A0 l.length l) (hc0 : l.length ≤ c0) (hb : Bytes l) (ha : -9223372036854775808 ≤ a ∧ a ≤ 9223372036854775807) (hT : Tab w) (hl : l.length ≤ 8192) :
    Calls Tryd.prog 8 #[.slice A0 l.length c0, .int .i64 a] w fun e w' => e = .returned (.bool true) ∧ Below w.heap.size w w' := by
  obtain ⟨z, hz⟩ : ∃ z, z = sealI l := ⟨_, rfl⟩
  have zl : z.length = l.length + 8 := by rw [hz]; exact sealI_len l
  have z0 : 0 < z.length := by omega
  have z1 : z.length ≤ 8200 := by omega
  have zb0 : ((z.length : Int) == 0) = false := beq_eq_false_iff_ne.2 (by omega)
  have zb1 : (z.length == 0) = false := beq_eq_false_iff_ne.2 (by omega)
  have znil : ¬ (z = []) := by intro h; rw [h] at z0; simp at z0
  obtain ⟨c, hc⟩ : ∃ c : Int, c = (a.tmod z.length + z.length).tmod z.length := ⟨_, rfl⟩
  have t1 := Int.tmod_lt_of_pos a (show (0 : Int) < z.length by omega)
  have t2 : -(z.length : Int) < a.tmod z.length := by
    have := Int.tmod_lt_of_pos (-a) (show (0 : Int) < z.length by omega)
    rw [Int.neg_tmod] at this
    omega
  have t3 : 0 ≤ a.tmod z.length + z.length := by omega
  have c0' : 0 ≤ c := by rw [hc]; exact Int.tmod_nonneg _ t3
  have c1' : c < z.length := by rw [hc]; exact Int.tmod_lt_of_pos _ (by omega)
  have hcut : openI (z.take c.toNat) = ([], 0, 10) := by rw [hz]; exact open_cut_short l hb hl c.toNat (by omega)
  have Hz := Aside0.mk hz
  have hcw : (wrap64 (a.tmod z.length + z.length)).tmod z.length = c := by rw [hc]; congr 1; unfold wrap64; omega
  have Hcut := Aside0.mk hcut
  have Zl := Aside0.mk zl
  have T2 := Aside0.mk (And.intro t1 t2)
  clear hz hc hcut zl t1 t2 t3
  have HR := Aside0.mk hr0
  have HC := Aside0.mk hc0
  have HT := Aside0.mk hT
  clear hr0 hc0 hT
  obtain ⟨i0, hi0, _, hsz, _⟩ := info_parts info5
  go_enter Tryd.func8, Tryd.ntmps8
  go_wp2_with fail
  refine (live_calls _ HT.out).mono ?_
  rintro e w1 ⟨rfl, hb1⟩
  have HB := Aside0.mk hb1
  clear hb1
  go_wp2_with fail
  refine (seal_short A0 c0 l _ (Kd.C_below HR.out HB.out) HC.out hl (HT.out.below HB.out HT.out.pos)).mono ?_
  rw [← Hz.out]
  rintro e w2 ⟨v2, rfl, ho2, hb2⟩
  obtain ⟨A2, n2, e2⟩ := Kd.R_slice ho2
  subst e2
  have HO2 := Aside0.mk ho2
  have HB2 := Aside0.mk (below_step HB.out hb2)
  have hcutf := cut_to (P := Tryd.prog) 22 5 .i64 Tryd.underlying22 hi0 A2 z.length n2 c c0' (by omega) (Kd.R_reads' ho2).2.1
  obtain ⟨y, hy⟩ : ∃ y, y = z.take c.toNat := ⟨_, rfl⟩
  have hyl : y.length = c.toNat := by rw [hy, List.length_take]; omega
  have hC := Kd.C_take (m := c.toNat) (Kd.R_reads' ho2).2.2 (by omega)
  rw [← hyl] at hcutf
  rw [← hy] at hC
  have HC2 := Aside0.mk hC
  have Hy := Aside0.mk hy
  have Hyn := Aside0.mk (show y.length ≤ n2 by have := (Kd.R_reads' ho2).2.1; omega)
  have Hyl := Aside0.mk hyl
  clear ho2 hb2 HB hC hy hyl
  go_wp2_with fail
  refine (open_calls A2 n2 y _ HC2.out Hyn.out (by have := Hyl.out; omega) (HT.out.below HB2.out HT.out.pos)).mono ?_
  rw [Hy.out, Hcut.out]
  rintro e w3 ⟨v3, rfl, ho3, hb3⟩
  have HB3 := Aside0.mk (below_step HB2.out hb3)
  clear ho3 hb3
  go_wp2_with fail
  go_ret
  exact ⟨rfl, HB3.out⟩
theorem cuts_calls (A0 : Option Addr) (c0 : Nat) (l : List Int) (a : Int) (w : World) (hr0 : Kd.C (Kd.int .u8) w A0 l.length l) (hc0 : l.length ≤ c0) (hm : l.length ≤ 140737488351232) (hb : Bytes l) (ha : (Lit.int .i64 a).wf = true) (hT : Tab w) :
    Calls Tryd.prog 8 #[.slice A0 l.length c0, .int .i64 a] w fun e w' => e = .returned (.bool true) ∧ Below w.heap.size w w' := by
  by_cases hl : l.length ≤ 8192
  · refine cuts_short A0 c0 l a w hr0 hc0 hb ?_ hT hl
    simp only [Lit.wf, IntKind.min, IntKind.max, IntKind.signed, IntKind.bits, Bool.and_eq_true, decide_eq_true_eq, if_true] at ha
    omega
  · exact cuts_long A0 c0 l a w hm hT (by omega)
end Go.Proofs.YtmoblggflijkdaaDoor.Fr
