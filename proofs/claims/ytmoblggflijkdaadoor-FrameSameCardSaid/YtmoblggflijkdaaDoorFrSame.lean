/- The law FrameSame, walked: it returns true, whatever the bytes. -/
import Derived.Test.YtmoblggflijkdaaDoorFrC
namespace Go.Proofs.YtmoblggflijkdaaDoor.Fr
open Go.RowKit Go.Proofs.YtmoblggflijkdaaDoor.PFrameOpens Go.Proofs.YtmoblggflijkdaaDoorW.PrintWords Go.Proofs.YtmoblggflijkdaaDoorW.PrintLast Go.Proofs.YtmoblggflijkdaaDoorW.PrintMore
set_option linter.unusedVariables false
set_option linter.unusedSimpArgs false
set_option maxRecDepth 100000 in
theorem same_no (A0 : Option Addr) (c0 : Nat) (l : List Int) (x : List Int) (k e : Int) (w : World) (hr0 : Kd.C (Kd.int .u8) w A0 l.length l) (hc0 : l.length ≤ c0) (hm : l.length ≤ 140737488351232) (hT : Tab w) (ho : openI l = (x, k, e)) (he : e ≠ 0) :
    Calls Tryd.prog 6 #[.slice A0 l.length c0] w fun e w' => e = .returned (.bool true) ∧ Below w.heap.size w w' := by
  have HR := Aside0.mk hr0
  have HC := Aside0.mk hc0
  have HT := Aside0.mk hT
  have Ho := Aside0.mk ho
  have he0 : (e == 0) = false := beq_eq_false_iff_ne.2 he
  have he1 : (e != 0) = true := bne_iff_ne.2 he
  clear hr0 hc0 hT ho he
  go_enter Tryd.func6, Tryd.ntmps6
  go_wp2_with fail
  refine (live_calls _ HT.out).mono ?_
  rintro e1 w1 ⟨rfl, hb1⟩
  have HB := Aside0.mk hb1
  clear hb1
  go_wp2_with fail
  refine (open_calls A0 c0 l _ (Kd.C_below HR.out HB.out) HC.out (by omega) (HT.out.below HB.out HT.out.pos)).mono ?_
  rw [Ho.out]
  rintro e2 w3 ⟨v3, rfl, ho3, hb3⟩
  have HB3 := Aside0.mk (below_step HB.out hb3)
  clear ho3 hb3
  go_wp2_with fail
  go_ret
  exact ⟨rfl, HB3.out⟩
set_option maxRecDepth 100000 in
theorem same_yes (A0 : Option Addr) (c0 : Nat) (l : List Int) (x : List Int) (k : Int) (w : World) (hr0 : Kd.C (Kd.int .u8) w A0 l.length l) (hc0 : l.length ≤ c0) (hm : l.length ≤ 140737488351232) (hb : Bytes l) (hT : Tab w) (ho : openI l = (x, k, 0)) :
    Calls Tryd.prog 6 #[.slice A0 l.length c0] w fun e w' => e = .returned (.bool true) ∧ Below w.heap.size w w' := by
  obtain ⟨s1, k0, k1, xl, xb⟩ := seal_open l x k hb ho
  obtain ⟨y, hy⟩ : ∃ y, y = l.take k.toNat := ⟨_, rfl⟩
  rw [← hy] at s1
  have hyl : y.length = k.toNat := by rw [hy, List.length_take]; omega
  have HR := Aside0.mk hr0
  have HC := Aside0.mk hc0
  have HT := Aside0.mk hT
  have Ho := Aside0.mk ho
  have Hs := Aside0.mk s1
  have Hy := Aside0.mk hy
  have tk : decide (k ≤ (l.length : Int)) = true := decide_eq_true k1
  have Hc0 := Aside0.mk hc0
  obtain ⟨i0, hi0, _, hsz, _⟩ := info_parts info5
  have hcutf := cut_to (P := Tryd.prog) 22 5 .i64 Tryd.underlying22 hi0 A0 l.length c0 k k0 (by omega) hc0
  rw [← hyl] at hcutf
  have Hyl := Aside0.mk hyl
  clear hr0 hc0 hT ho s1 hy hyl
  go_enter Tryd.func6, Tryd.ntmps6
  go_wp2_with fail
  refine (live_calls _ HT.out).mono ?_
  rintro e1 w1 ⟨rfl, hb1⟩
  have HB := Aside0.mk hb1
  clear hb1
  go_wp2_with fail
  refine (open_calls A0 c0 l _ (Kd.C_below HR.out HB.out) HC.out (by omega) (HT.out.below HB.out HT.out.pos)).mono ?_
  rw [Ho.out]
  rintro e2 w3 ⟨v3, rfl, ho3, hb3⟩
  obtain ⟨A3, n3, e3⟩ := Kd.R_slice ho3
  subst e3
  have HO3 := Aside0.mk ho3
  have HB3 := Aside0.mk (below_step HB.out hb3)
  clear ho3 hb3
  go_wp2_with fail
  refine (seal_short A3 n3 x _ (Kd.R_reads' HO3.out).2.2 (Kd.R_reads' HO3.out).2.1 xl (HT.out.below HB3.out HT.out.pos)).mono ?_
  rw [Hs.out]
  rintro e w2 ⟨v2, rfl, ho2, hb2⟩
  obtain ⟨A2, n2, e2⟩ := Kd.R_slice ho2
  subst e2
  have HB2 := Aside0.mk (below_step HB3.out hb2)
  have hC0 := Kd.C_take (m := k.toNat) (Kd.C_below HR.out HB2.out) (by omega)
  rw [← Hy.out] at hC0
  have hcv0 := fun n => Kd.C_string (P := Tryd.prog) (c := c0) Tryd.underlying22 Tryd.underlying5 Tryd.underlying9 (Kd.C_drewN hC0 n)
  have hcv1 := fun n => Kd.C_string (P := Tryd.prog) (c := n2) Tryd.underlying22 Tryd.underlying5 Tryd.underlying9 (Kd.C_drewN (Kd.R_reads' ho2).2.2 n)
  clear ho2 hb2 hC0
  go_wp2_with fail
  go_quiet (fail)
  go_wp2_with fail
  go_ret
  exact ⟨rfl, pw_below_drewN HB2.out _⟩
theorem same_calls (A0 : Option Addr) (c0 : Nat) (l : List Int) (w : World) (hr0 : Kd.C (Kd.int .u8) w A0 l.length l) (hc0 : l.length ≤ c0) (hm : l.length ≤ 140737488351232) (hb : Bytes l) (hT : Tab w) :
    Calls Tryd.prog 6 #[.slice A0 l.length c0] w fun e w' => e = .returned (.bool true) ∧ Below w.heap.size w w' := by
  obtain ⟨x, k, e, h⟩ : ∃ x k e, openI l = (x, k, e) := ⟨_, _, _, rfl⟩
  by_cases he : e = 0
  · subst he; exact same_yes A0 c0 l x k w hr0 hc0 hm hb hT h
  · exact same_no A0 c0 l x k e w hr0 hc0 hm hT h he
end Go.Proofs.YtmoblggflijkdaaDoor.Fr
