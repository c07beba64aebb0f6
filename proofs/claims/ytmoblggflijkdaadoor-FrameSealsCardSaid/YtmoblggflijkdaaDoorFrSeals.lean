/- The law FrameSeals, walked: it returns true, whatever the bytes. -/
import Derived.Test.YtmoblggflijkdaaDoorFrB
namespace Go.Proofs.YtmoblggflijkdaaDoor.Fr
open Go.RowKit Go.Proofs.YtmoblggflijkdaaDoor.PFrameOpens Go.Proofs.YtmoblggflijkdaaDoorW.PrintWords Go.Proofs.YtmoblggflijkdaaDoorW.PrintLast Go.Proofs.YtmoblggflijkdaaDoorW.PrintMore
set_option linter.unusedVariables false
set_option linter.unusedSimpArgs false

set_option maxRecDepth 100000 in
theorem seals_long (A0 : Option Addr) (c0 : Nat) (l : List Int) (w : World) (hr0 : Kd.C (Kd.int .u8) w A0 l.length l) (hc0 : l.length ≤ c0) (hm : l.length ≤ 140737488351232) (hb : Bytes l) (hT : Tab w) (hl : 8192 < l.length) :
    Calls Tryd.prog 3 #[.slice A0 l.length c0] w fun e w' => e = .returned (.bool true) ∧ Below w.heap.size w w' := by
  have HR := Aside0.mk hr0
  have HC := Aside0.mk hc0
  have HT := Aside0.mk hT
  have Hb := Aside0.mk hb
  clear hr0 hc0 hT hb
  go_enter Tryd.func3, Tryd.ntmps3
  go_wp2_with (((with_reducible refine gate_builtin (b := .append) (xs := #[.const (.slice none 0 0), .tmp 8]) rfl ?_); at_builtin; refine Kd.R_append_rows (Kd.int .u8) (w0 := w) w.heap.size rfl (.const (.slice none 0 0)) (.tmp 8) 22 5 (.int .u8 0) 1 rfl Tryd.underlying22 info5 rfl (by decide) (by omega) (.slice none 0 0) [] l _ _ _ (fun _ => True) (fun _ => False) rfl rfl (Kd.R_nil (Kd.int .u8) 5 _ _ _) (HR.out) (fun _ _ h => h) (fun _ h => h.elim) (fun _ _ => trivial) (Below.refl _ _) (below_size (Below.refl _ _)) ?aL ?_; (case aL => simp; omega); intro v1 w1 ho hb hg hat; rw [List.nil_append] at ho; obtain ⟨A1, n1, e1⟩ := Kd.R_slice ho; subst e1; have HO := Aside0.mk ho; have HB := Aside0.mk hb; clear ho hb hg hat))
  refine (seal_long A1 n1 l _ (by omega) (by omega)).mono ?_
  rintro e w' ⟨rfl, rfl⟩
  go_wp2_with fail
  refine (stopcockref07_Seal.calls 0 A0 c0 l [] 2 _ (Kd.C_below HR.out HB.out) HC.out (refseal_long l (by omega) 0)).mono ?_
  rintro e w2 ⟨v2, rfl, ho2, hb2⟩
  obtain ⟨A2, n2, e2⟩ := Kd.R_slice ho2
  subst e2
  have HO2 := Aside0.mk ho2
  have HB2 := Aside0.mk (below_step HB.out hb2)
  have HO := Aside0.mk (Kd.R_below HO.out hb2)
  clear ho2 hb2 HB
  go_wp2_with fail
  refine (live_calls _ (HT.out.below HB2.out HT.out.pos)).mono ?_
  rintro e w3 ⟨rfl, hb3⟩
  have HB3 := Aside0.mk (below_step HB2.out hb3)
  have hcv1 := Kd.C_string (P := Tryd.prog) (c := n1) Tryd.underlying22 Tryd.underlying5 Tryd.underlying9 (Kd.R_reads' (Kd.R_below HO.out hb3)).2.2
  have hcv0 : (convert 22 9 (.slice none 0 0)).run Tryd.prog w3 = .ok (.string (strOfNums [])) w3 := Kd.C_string (P := Tryd.prog) (c := 0) Tryd.underlying22 Tryd.underlying5 Tryd.underlying9 (Kd.C_nil _ _)
  have hcv2 : (convert 22 9 (.slice A2 0 n2)).run Tryd.prog w3 = .ok (.string (strOfNums [])) w3 := Kd.C_string (P := Tryd.prog) (c := n2) Tryd.underlying22 Tryd.underlying5 Tryd.underlying9 (Kd.R_reads' (Kd.R_below HO2.out hb3)).2.2
  have hcv3 := Kd.C_string (P := Tryd.prog) (c := c0) Tryd.underlying22 Tryd.underlying5 Tryd.underlying9 (Kd.C_below HR.out HB3.out)
  clear hb3
  go_wp2_with fail
  go_ret
  exact ⟨rfl, HB3.out⟩

set_option maxRecDepth 100000 in
theorem seals_short (A0 : Option Addr) (c0 : Nat) (l : List Int) (w : World) (hr0 : Kd.C (Kd.int .u8) w A0 l.length l) (hc0 : l.length ≤ c0) (hb : Bytes l) (hT : Tab w) (hl : l.length ≤ 8192) :
    Calls Tryd.prog 3 #[.slice A0 l.length c0] w fun e w' => e = .returned (.bool true) ∧ Below w.heap.size w w' := by
  obtain ⟨k, hk⟩ := refseal_short l hl hb
  obtain ⟨z, hz⟩ : ∃ z, z = sealI l := ⟨_, rfl⟩
  rw [← hz] at hk
  have Hz := Aside0.mk hz
  have Hk := Aside0.mk hk
  have HR := Aside0.mk hr0
  have HC := Aside0.mk hc0
  have HT := Aside0.mk hT
  clear hr0 hc0 hT hb hk hz
  go_enter Tryd.func3, Tryd.ntmps3
  go_wp2_with (((with_reducible refine gate_builtin (b := .append) (xs := #[.const (.slice none 0 0), .tmp 8]) rfl ?_); at_builtin; refine Kd.R_append_rows (Kd.int .u8) (w0 := w) w.heap.size rfl (.const (.slice none 0 0)) (.tmp 8) 22 5 (.int .u8 0) 1 rfl Tryd.underlying22 info5 rfl (by decide) (by omega) (.slice none 0 0) [] l _ _ _ (fun _ => True) (fun _ => False) rfl rfl (Kd.R_nil (Kd.int .u8) 5 _ _ _) (HR.out) (fun _ _ h => h) (fun _ h => h.elim) (fun _ _ => trivial) (Below.refl _ _) (below_size (Below.refl _ _)) ?aL ?_; (case aL => simp; omega); intro v1 w1 ho hb hg hat; rw [List.nil_append] at ho; obtain ⟨A1, n1, e1⟩ := Kd.R_slice ho; subst e1; have HO := Aside0.mk ho; have HB := Aside0.mk hb; clear ho hb hg hat))
  refine (seal_short A1 n1 l _ (Kd.R_reads' HO.out).2.2 (Kd.R_reads' HO.out).2.1 hl (HT.out.below HB.out HT.out.pos)).mono ?_
  rw [← Hz.out]
  rintro e w4 ⟨v4, rfl, ho4, hb4⟩
  obtain ⟨A4, n4, e4⟩ := Kd.R_slice ho4
  subst e4
  have HO4 := Aside0.mk ho4
  have HB4 := Aside0.mk (below_step HB.out hb4)
  have HO := Aside0.mk (Kd.R_below HO.out hb4)
  clear ho4 hb4 HB
  go_wp2_with fail
  refine (stopcockref07_Seal.calls k A0 c0 l z 0 _ (Kd.C_below HR.out HB4.out) HC.out Hk.out).mono ?_
  rintro e w2 ⟨v2, rfl, ho2, hb2⟩
  obtain ⟨A2, n2, e2⟩ := Kd.R_slice ho2
  subst e2
  have HO2 := Aside0.mk ho2
  have HB2 := Aside0.mk (below_step HB4.out hb2)
  have HO := Aside0.mk (Kd.R_below HO.out hb2)
  have HO4 := Aside0.mk (Kd.R_below HO4.out hb2)
  clear ho2 hb2 HB4
  go_wp2_with fail
  refine (live_calls _ (HT.out.below HB2.out HT.out.pos)).mono ?_
  rintro e w3 ⟨rfl, hb3⟩
  have HB3 := Aside0.mk (below_step HB2.out hb3)
  have hcv1 := Kd.C_string (P := Tryd.prog) (c := n1) Tryd.underlying22 Tryd.underlying5 Tryd.underlying9 (Kd.R_reads' (Kd.R_below HO.out hb3)).2.2
  have hcv4 := Kd.C_string (P := Tryd.prog) (c := n4) Tryd.underlying22 Tryd.underlying5 Tryd.underlying9 (Kd.R_reads' (Kd.R_below HO4.out hb3)).2.2
  have hcv2 := Kd.C_string (P := Tryd.prog) (c := n2) Tryd.underlying22 Tryd.underlying5 Tryd.underlying9 (Kd.R_reads' (Kd.R_below HO2.out hb3)).2.2
  have hcv3 := Kd.C_string (P := Tryd.prog) (c := c0) Tryd.underlying22 Tryd.underlying5 Tryd.underlying9 (Kd.C_below HR.out HB3.out)
  clear hb3
  go_wp2_with fail
  go_ret
  exact ⟨rfl, HB3.out⟩
theorem seals_calls (A0 : Option Addr) (c0 : Nat) (l : List Int) (w : World) (hr0 : Kd.C (Kd.int .u8) w A0 l.length l) (hc0 : l.length ≤ c0) (hm : l.length ≤ 140737488351232) (hb : Bytes l) (hT : Tab w) :
    Calls Tryd.prog 3 #[.slice A0 l.length c0] w fun e w' => e = .returned (.bool true) ∧ Below w.heap.size w w' := by
  by_cases hl : l.length ≤ 8192
  · exact seals_short A0 c0 l w hr0 hc0 hb hT hl
  · exact seals_long A0 c0 l w hr0 hc0 hm hb hT (by omega)
end Go.Proofs.YtmoblggflijkdaaDoor.Fr
