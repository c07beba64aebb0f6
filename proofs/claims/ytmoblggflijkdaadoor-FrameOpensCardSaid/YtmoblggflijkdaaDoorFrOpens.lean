/- The law FrameOpens, walked: it returns true, whatever the bytes. -/
import Derived.Test.YtmoblggflijkdaaDoorFrO
namespace Go.Proofs.YtmoblggflijkdaaDoor.Fr
open Go.RowKit Go.Proofs.YtmoblggflijkdaaDoor.PFrameOpens Go.Proofs.YtmoblggflijkdaaDoorW.PrintWords Go.Proofs.YtmoblggflijkdaaDoorW.PrintLast Go.Proofs.YtmoblggflijkdaaDoorW.PrintMore
set_option linter.unusedVariables false
set_option linter.unusedSimpArgs false
set_option maxRecDepth 100000 in
theorem opens_big (A0 : Option Addr) (c0 : Nat) (l : List Int) (w : World) (hT : Tab w) (hl : 20000 < l.length) :
    Calls Tryd.prog 4 #[.slice A0 l.length c0] w fun e w' => e = .returned (.bool true) ∧ Below w.heap.size w w' := by
  have HT := Aside0.mk hT
  clear hT
  go_enter Tryd.func4, Tryd.ntmps4
  go_wp2_with fail
  refine (live_calls _ HT.out).mono ?_
  rintro e w1 ⟨rfl, hb1⟩
  have HB := Aside0.mk hb1
  clear hb1
  go_wp2_with fail
  go_ret
  exact ⟨rfl, HB.out⟩
set_option maxRecDepth 100000 in
theorem opens_small (A0 : Option Addr) (c0 : Nat) (l x : List Int) (k e : Int) (w : World) (hr0 : Kd.C (Kd.int .u8) w A0 l.length l) (hc0 : l.length ≤ c0) (hb : Bytes l) (hT : Tab w) (hl : l.length ≤ 20000) (ho : openI l = (x, k, e)) (hx : x.length ≤ 8192) :
    Calls Tryd.prog 4 #[.slice A0 l.length c0] w fun e w' => e = .returned (.bool true) ∧ Below w.heap.size w w' := by
  have HR := Aside0.mk hr0
  have HC := Aside0.mk hc0
  have HT := Aside0.mk hT
  have Hb := Aside0.mk hb
  have Ho := Aside0.mk ho
  have Hl := Aside0.mk hl
  clear hr0 hc0 hT hb ho
  go_enter Tryd.func4, Tryd.ntmps4
  go_wp2_with ((with_reducible refine gate_builtin (b := .append) (xs := #[.const (.slice none 0 0), .tmp 16]) rfl ?_); at_builtin; refine Kd.R_append_rows (Kd.int .u8) (w0 := w) w.heap.size rfl (.const (.slice none 0 0)) (.tmp 16) 22 5 (.int .u8 0) 1 rfl Tryd.underlying22 info5 rfl (by decide) (by omega) (.slice none 0 0) [] l _ _ _ (fun _ => True) (fun _ => False) rfl rfl (Kd.R_nil (Kd.int .u8) 5 _ _ _) (HR.out) (fun _ _ h => h) (fun _ h => h.elim) (fun _ _ => trivial) (Below.refl _ _) (below_size (Below.refl _ _)) ?aL ?_; (case aL => have := Hl.out; simp; omega); intro v1 w1 ho hb hg hat; rw [List.nil_append] at ho; obtain ⟨A1, n1, e1⟩ := Kd.R_slice ho; subst e1; have HO := Aside0.mk ho; have HB := Aside0.mk hb; clear ho hb hg hat)
  refine (open_calls A1 n1 l _ (Kd.R_reads' HO.out).2.2 (Kd.R_reads' HO.out).2.1 (by omega) (HT.out.below HB.out HT.out.pos)).mono ?_
  rw [Ho.out]
  rintro _ w2 ⟨v2, rfl, ho2, hb2⟩
  obtain ⟨A2, n2, e2⟩ := Kd.R_slice ho2
  subst e2
  have HO2 := Aside0.mk ho2
  have HB2 := Aside0.mk hb2
  have HBB2 := Aside0.mk (below_step HB.out hb2)
  clear ho2 hb2
  go_wp2_with fail
  refine (refopen_calls A0 c0 l _ (Kd.C_below HR.out HBB2.out) HC.out Hb.out).mono ?_
  rw [Ho.out]
  rintro _ w3 ⟨v3, rfl, ho3, hb3⟩
  obtain ⟨A3, n3, e3⟩ := Kd.R_slice ho3
  subst e3
  have HB3 := Aside0.mk (below_step HB2.out hb3)
  have HO4 := Aside0.mk (Kd.R_below HO2.out hb3)
  have hcv0 := Kd.C_string (P := Tryd.prog) (c := n2) Tryd.underlying22 Tryd.underlying5 Tryd.underlying9 (Kd.R_reads' HO4.out).2.2
  have hcv1 := Kd.C_string (P := Tryd.prog) (c := n3) Tryd.underlying22 Tryd.underlying5 Tryd.underlying9 (Kd.R_reads' ho3).2.2
  have g5 : ((strOfNums x).toList == (strOfNums x).toList) = true := beq_self_eq_true _
  clear ho3 hb3 HO2 HB2
  have Hg : Aside0 (0 < x.length → ∃ g, A2 = some ⟨g, 0, none⟩ ∧ w1.heap.size ≤ g) := ⟨fun h => by
    obtain ⟨g, cap, ev, hg, _⟩ := Kd.R_form HO4.out h
    injection ev with e1
    exact ⟨g, e1, hg⟩⟩
  have HR4 : Aside0 (∃ xs : List Int, xs.length = x.length ∧ Kd.R (Kd.int .u8) 5 w3 w1.heap.size (fun _ => True) (.slice A2 x.length n2) xs) := ⟨x, rfl, HO4.out⟩
  go_wp2_with fail
  go_loopg [47] x.length (fun kq v47 w' => ∃ i : Nat, i ≤ x.length ∧ kq = x.length - i ∧ v47 = .int .i64 (i : Int) ∧ Aside0 (∃ xs : List Int, xs.length = x.length ∧ Kd.R (Kd.int .u8) 5 w' w1.heap.size (fun _ => True) (.slice A2 x.length n2) xs) ∧ Aside0 (Below w1.heap.size w1 w'))
  case atStart => exact ⟨0, by omega, rfl, rfl, HR4, HB3⟩
  case round =>
    clear HR4 HB3 HO4 hcv0 hcv1 g5
    obtain ⟨i, hi, rfl, rfl, HX, HBr⟩ := hrel
    by_cases c1 : i < x.length
    · obtain ⟨xs, hxl, hX⟩ := HX.out
      obtain ⟨g, rfl, hgb⟩ := Hg.out (by omega)
      have hX' : Kd.R (Kd.int .u8) 5 wr w1.heap.size (fun _ => True) (.slice (some ⟨g, 0, none⟩) xs.length n2) xs := by rw [hxl]; exact hX
      obtain ⟨hce, hfr⟩ := Kd.R_cell (0 : Int) hX' (i : Int) (by omega) (by omega)
      rw [Int.toNat_natCast] at hce hfr
      have HX' := Aside0.mk hX'
      have Hxl := Aside0.mk hxl
      have Hgb := Aside0.mk hgb
      clear hX' hX hxl hgb HX
      go_wp2_with fail
      go_roundg (x.length - (i + 1))
      case measure => omega
      case rel =>

        refine ⟨i + 1, by omega, rfl, by go_num, ?_, ?_⟩
        · have hp := (Kd.R_put HX'.out (i : Int) (bits .xor .u8 (rdOf 0 xs (i : Int)) 255)).1
          rw [Int.toNat_natCast] at hp

          refine ⟨xs.set i (bits .xor .u8 (rdOf 0 xs (i : Int)) 255), by rw [List.length_set]; exact Hxl.out, ?_⟩
          rw [← Hxl.out]
          exact hp
        · exact .mk (below_set HBr.out Hgb.out)
    · go_wp2_with fail
      refine (live_calls _ (HT.out.below (below_step HB.out HBr.out) HT.out.pos)).mono ?_
      rintro _ w5 ⟨rfl, hb5⟩
      have HB5 := Aside0.mk (below_step HBr.out hb5)
      have HBB5 := Aside0.mk (below_step HB.out HB5.out)
      have hcv0 := Kd.C_string (P := Tryd.prog) (c := n1) Tryd.underlying22 Tryd.underlying5 Tryd.underlying9 (Kd.R_reads' (Kd.R_below HO.out HB5.out)).2.2
      have hcv1 := Kd.C_string (P := Tryd.prog) (c := c0) Tryd.underlying22 Tryd.underlying5 Tryd.underlying9 (Kd.C_below HR.out HBB5.out)
      have g5 : ((strOfNums l).toList == (strOfNums l).toList) = true := beq_self_eq_true _
      clear hb5
      go_wp2_with fail
      go_ret
      exact ⟨rfl, HBB5.out⟩
theorem opens_calls (A0 : Option Addr) (c0 : Nat) (l : List Int) (w : World) (hr0 : Kd.C (Kd.int .u8) w A0 l.length l) (hc0 : l.length ≤ c0) (hm : l.length ≤ 140737488351232) (hb : Bytes l) (hT : Tab w) :
    Calls Tryd.prog 4 #[.slice A0 l.length c0] w fun e w' => e = .returned (.bool true) ∧ Below w.heap.size w w' := by
  by_cases hl : 20000 < l.length
  · exact opens_big A0 c0 l w hT hl
  · obtain ⟨x, k, e, h⟩ : ∃ x k e, openI l = (x, k, e) := ⟨_, _, _, rfl⟩
    refine opens_small A0 c0 l x k e w hr0 hc0 hb hT (by omega) h ?_
    by_cases he : e = 0
    · subst he; exact (seal_open l x k hb h).2.2.2.1
    · have : x = [] := by
        unfold openI at h
        split at h
        · simp at h; exact h.1
        · split at h
          · simp at h; exact h.1
          · split at h
            · simp at h; exact h.1
            · split at h
              · simp at h; exact h.1
              · simp at h; exact absurd h.2.2.symm he
      rw [this]; simp
end Go.Proofs.YtmoblggflijkdaaDoor.Fr
