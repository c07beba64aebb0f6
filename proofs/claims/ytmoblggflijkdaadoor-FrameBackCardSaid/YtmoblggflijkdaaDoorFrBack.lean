/- The law FrameBack, walked: it returns true. -/
import Derived.Test.YtmoblggflijkdaaDoorFrC
import Derived.Deep.DeepAppendWide
namespace Go.Proofs.YtmoblggflijkdaaDoor.Fr
open Go.RowKit Go.Proofs.YtmoblggflijkdaaDoor.PFrameOpens Go.Proofs.YtmoblggflijkdaaDoorW.PrintWords Go.Proofs.YtmoblggflijkdaaDoorW.PrintLast Go.Proofs.YtmoblggflijkdaaDoorW.PrintMore
set_option linter.unusedVariables false
set_option linter.unusedSimpArgs false
/-- append(v, ys...) of bytes, wide: ys may be as long as an argument can be. -/
theorem R_app_wide {P : Program} {ops : Array Oper} {rest : List Oper} {o : Oper} {a : Act} {Q : Exit → Act → World → Prop} {w0 W : World} (base : Nat) (hgd : o.guard = none) (s x : Operand) (t e : TypeId)
    (ho : o.op = .call { callee := .builtin .append, args := #[s, x], argTypes := #[t, t] })
    (ht : P.underlying t = some (.slice e)) (hinfo : (P.info? e).map (fun i => (i.zero, i.size, i.bytes)) = some (some (.int .u8 0), 1, 1))
    (v : Value) (xs ys : List Int) (A : Option Addr) (m c : Nat) (hs : a.eval s = v) (hx : a.eval x = .slice A m c)
    (HO : (Kd.int .u8).R e W base (fun _ => True) v xs) (HR : Kd.C (Kd.int .u8) W A m ys) (HB : Below base w0 W) (hbase : base ≤ W.heap.size) (hn : xs.length ≤ 100000) (hl : m ≤ 140737488351232)
    (h : ∀ v1 w1, (Kd.int .u8).R e w1 base (fun _ => True) v1 (xs ++ ys) → Below base w0 w1 → wpList P ops Q rest (a.put o.dst v1) w1) : wpList P ops Q (o :: rest) a W := by
  rcases Nat.eq_zero_or_pos m with h0 | hp
  · subst h0
    exact Kd.R_append_rows (Kd.int .u8) base hgd s x t e (.int .u8 0) 1 ho ht hinfo rfl (by decide) (by omega) v xs ys A 0 c (fun _ => True) (fun _ => False) hs hx HO HR (fun _ _ h => h) (fun _ h => h.elim) (fun _ _ => trivial) HB hbase (by omega) (fun v1 w1 h1 h2 _ _ => h v1 w1 h1 h2)
  · obtain ⟨i, hi, hzz⟩ := Option.map_eq_some_iff.1 hinfo
    simp only [Prod.mk.injEq] at hzz
    obtain ⟨hz0, hz1, hz2⟩ := hzz
    have hR := Kd.reads_of_C (enc := Value.int .u8) (d := (0 : Int)) (h1 := fun _ => rfl) HR
    obtain ⟨ad, rfl, hc⟩ := hR.2.2 hp
    have hm : ys.length = m := hR.1
    have hown := Kd.own_of_R (enc := Value.int .u8) (h1 := fun _ => rfl) HO
    refine wpList_append_own_wide W hgd s x t ho base e i (.int .u8 0) 1 1 ht hi hz0 hz1 hz2 rfl (by decide) v xs.length _ hs hown ad m c (encs (Value.int .u8) ys) hx (by rw [encs_length, hm, Nat.mul_one]) ?_ ?_ (by unfold maxLen; omega) (by omega) hbase ?_
    · intro j u hu
      have hj : j < ys.length := by
        rcases Nat.lt_or_ge j ys.length with h | h
        · exact h
        · rw [List.getElem?_eq_none (by rw [encs_length]; exact h)] at hu
          cases hu
      rw [encs_get (d := (0 : Int)) _ j hj] at hu
      rw [hc j (by omega), ← hu]
    · intro u hu
      simp only [encs, List.mem_map] at hu
      obtain ⟨q, _, rfl⟩ := hu
      rfl
    · intro v1 w1 h2 h3 _
      refine h v1 w1 (Kd.R_of_own (enc := Value.int .u8) (h1 := fun _ => rfl) ?_ (fun _ _ => trivial)) (HB.grown h3 hbase (own_base hown))
      rw [List.length_append, hm, encs_append]
      exact h2
set_option maxRecDepth 100000 in
theorem back_long (A0 : Option Addr) (c0 : Nat) (l : List Int) (A1 : Option Addr) (m c1 : Nat) (w : World) (hm : l.length ≤ 140737488351232) (hT : Tab w) (hl : 8192 < l.length) :
    Calls Tryd.prog 5 #[.slice A0 l.length c0, .slice A1 m c1] w fun e w' => e = .returned (.bool true) ∧ Below w.heap.size w w' := by
  have HT := Aside0.mk hT
  have t1 : decide (8192 < (l.length : Int)) = true := decide_eq_true (by omega)
  have t2 : decide (8192 < l.length) = true := decide_eq_true hl
  clear hT
  go_enter Tryd.func5, Tryd.ntmps5
  go_wp2_with fail
  refine (live_calls _ HT.out).mono ?_
  rintro e w1 ⟨rfl, hb1⟩
  have HB := Aside0.mk hb1
  clear hb1
  go_wp2_with fail
  refine (seal_long A0 c0 l _ (by omega) (by omega)).mono ?_
  rintro e w' ⟨rfl, rfl⟩
  go_wp2_with fail
  go_ret
  exact ⟨rfl, HB.out⟩
set_option maxRecDepth 100000 in
theorem back_short (A0 : Option Addr) (c0 : Nat) (l : List Int) (A1 : Option Addr) (c1 : Nat) (m : List Int) (w : World) (hr0 : Kd.C (Kd.int .u8) w A0 l.length l) (hc0 : l.length ≤ c0) (hr1 : Kd.C (Kd.int .u8) w A1 m.length m) (hc1 : m.length ≤ c1) (hb : Bytes l) (hbm : Bytes m) (hT : Tab w) (hl : l.length ≤ 8192) (hml : m.length ≤ 140737488351232) :
    Calls Tryd.prog 5 #[.slice A0 l.length c0, .slice A1 m.length c1] w fun e w' => e = .returned (.bool true) ∧ Below w.heap.size w w' := by
  obtain ⟨z, hz⟩ : ∃ z, z = sealI l := ⟨_, rfl⟩
  have zl : z.length = l.length + 8 := by rw [hz]; exact sealI_len l
  obtain ⟨j, hj⟩ : ∃ j, j = z ++ m := ⟨_, rfl⟩
  have ho : openI j = (l, 8 + (l.length : Int), 0) := by rw [hj, hz]; exact open_seal l m hb hbm hl
  have hzl : (z.length : Int) = 8 + (l.length : Int) := by omega
  have gk : ((8 + (l.length : Int)) == (8 + (l.length : Int))) = true := beq_self_eq_true _
  have g5 : ((strOfNums l).toList == (strOfNums l).toList) = true := beq_self_eq_true _
  have Hz := Aside0.mk hz
  have Zl := Aside0.mk zl
  have Hj := Aside0.mk hj
  have Ho := Aside0.mk ho
  have Jl := Aside0.mk (show j.length ≤ 140737488370000 by rw [hj, List.length_append]; omega)
  have HR := Aside0.mk hr0
  have HC := Aside0.mk hc0
  have HRm := Aside0.mk hr1
  have HCm := Aside0.mk hc1
  have HT := Aside0.mk hT
  clear hr0 hc0 hr1 hc1 hT hz zl hj ho hb hbm
  go_enter Tryd.func5, Tryd.ntmps5
  go_wp2_with fail
  refine (live_calls _ HT.out).mono ?_
  rintro e w1 ⟨rfl, hb1⟩
  have HB := Aside0.mk hb1
  clear hb1
  go_wp2_with fail
  refine (seal_short A0 c0 l _ (Kd.C_below HR.out HB.out) HC.out hl (HT.out.below HB.out HT.out.pos)).mono ?_
  rw [← Hz.out]
  rintro e w2 ⟨v2, rfl, ho2, hb2⟩
  obtain ⟨A2, n2, e2⟩ := Kd.R_slice ho2
  subst e2
  have HO2 := Aside0.mk ho2
  have HB2 := Aside0.mk (below_step HB.out hb2)
  clear ho2 hb2 HB
  go_wp2_with (first | ((with_reducible refine gate_builtin (b := .append) (xs := #[.tmp 27, .tmp 28]) rfl ?_); at_builtin; refine R_app_wide (w0 := w2) w2.heap.size rfl (.tmp 27) (.tmp 28) 22 5 rfl Tryd.underlying22 info5 (.slice A3 z.length n3) z m _ _ _ rfl rfl (HO3.out) (Kd.C_below HRm.out HB23.out) HB3.out (below_size HB3.out) ?aN ?aM ?_; (case aN => have := Zl.out; omega); (case aM => omega); intro v4 w4 ho hb; rw [← Hj.out] at ho; obtain ⟨A4, n4, e4⟩ := Kd.R_slice ho; subst e4; have HO4 := Aside0.mk ho; have HB4 := Aside0.mk (below_step HB2.out hb); clear ho hb) | ((with_reducible refine gate_builtin (b := .append) (xs := #[.const (.slice none 0 0), .tmp 26]) rfl ?_); at_builtin; refine Kd.R_append_rows (Kd.int .u8) (w0 := w2) w2.heap.size rfl (.const (.slice none 0 0)) (.tmp 26) 22 5 (.int .u8 0) 1 rfl Tryd.underlying22 info5 rfl (by decide) (by omega) (.slice none 0 0) [] z _ _ _ (fun _ => True) (fun _ => False) rfl rfl (Kd.R_nil (Kd.int .u8) 5 _ _ _) ((Kd.R_reads' HO2.out).2.2) (fun _ _ h => h) (fun _ h => h.elim) (fun _ _ => trivial) (Below.refl _ _) (below_size (Below.refl _ _)) ?aL ?_; (case aL => have := Zl.out; simp; omega); intro v3 w3 ho hb hg hat; rw [List.nil_append] at ho; obtain ⟨A3, n3, e3⟩ := Kd.R_slice ho; subst e3; have HO3 := Aside0.mk ho; have HB3 := Aside0.mk hb; have HB23 := Aside0.mk (below_step HB2.out hb); clear ho hb hg hat))
  refine (open_calls A4 n4 j _ (Kd.R_reads' HO4.out).2.2 (Kd.R_reads' HO4.out).2.1 (by have := Jl.out; omega) (HT.out.below HB4.out HT.out.pos)).mono ?_
  rw [Ho.out]
  rintro _ w5 ⟨v5, rfl, ho5, hb5⟩
  obtain ⟨A5, n5, e5⟩ := Kd.R_slice ho5
  subst e5
  have HB5 := Aside0.mk (below_step HB4.out hb5)
  have hcv0 := Kd.C_string (P := Tryd.prog) (c := n5) Tryd.underlying22 Tryd.underlying5 Tryd.underlying9 (Kd.R_reads' ho5).2.2
  have hcv1 := Kd.C_string (P := Tryd.prog) (c := c0) Tryd.underlying22 Tryd.underlying5 Tryd.underlying9 (Kd.C_below HR.out HB5.out)
  clear ho5 hb5
  go_wp2_with fail
  go_ret
  exact ⟨rfl, HB5.out⟩
theorem back_calls (A0 : Option Addr) (c0 : Nat) (l : List Int) (A1 : Option Addr) (c1 : Nat) (m : List Int) (w : World) (hr0 : Kd.C (Kd.int .u8) w A0 l.length l) (hc0 : l.length ≤ c0) (hr1 : Kd.C (Kd.int .u8) w A1 m.length m) (hc1 : m.length ≤ c1) (hm : l.length ≤ 140737488351232) (hml : m.length ≤ 140737488351232) (hb : Bytes l) (hbm : Bytes m) (hT : Tab w) :
    Calls Tryd.prog 5 #[.slice A0 l.length c0, .slice A1 m.length c1] w fun e w' => e = .returned (.bool true) ∧ Below w.heap.size w w' := by
  by_cases hl : l.length ≤ 8192
  · exact back_short A0 c0 l A1 c1 m w hr0 hc0 hr1 hc1 hb hbm hT hl hml
  · exact back_long A0 c0 l A1 _ c1 w hm hT (by omega)
end Go.Proofs.YtmoblggflijkdaaDoor.Fr
