/- All, Clone, Len and Double of both nets, walked. -/
import Derived.Test.YtpnbeifbapcmdaaNtC
import Derived.Deep.RegionLawGrows
import Derived.Handy
import Derived.Deep.RegionLaw
import Derived.Lib.SliceRun
import Derived.Lib.Bytes
namespace Go.Proofs.Ytpnbeifbapcmdaa.Nt
open Go.RowKit Go.Proofs.Ytpnbeifbapcmdaa.PNetGoes Go.Proofs.YtpnbeifbapcmdaaW.PrintWords Go.Proofs.YtpnbeifbapcmdaaW.PrintLast Go.Proofs.YtpnbeifbapcmdaaW.PrintMore
set_option linter.unusedVariables false
set_option linter.unusedSimpArgs false
attribute [local go_sem] max2_int min2_int max_two min_two
set_option maxRecDepth 100000 in
theorem cl_nil (c0 : Nat) (w : World) :
    Calls Try.prog 34 #[.slice none 0 c0] w fun e w' => e = .returned (.slice none 0 0) ∧ w = w' := by
  have h1 := fun (w : World) => Lib.run_eql_slice_nil (P := Try.prog) w 35 28 none 0 c0 0 0 Try.underlying35
  go_enter Try.func34, Try.ntmps34
  go_wp2
  go_ret
  exact ⟨rfl, rfl⟩
set_option maxRecDepth 100000 in
theorem cl_some (a : Addr) (c0 : Nat) (l : List S28) (w : World) (hr0 : Kd.C k28 w (some a) l.length l) (hc0 : l.length ≤ c0) (hl : l.length ≤ 1000000) :
    Calls Try.prog 34 #[.slice (some a) l.length c0] w fun e w' => ∃ v, e = .returned v ∧ Kd.R k28 28 w' w.heap.size (fun _ => True) v l ∧ Below w.heap.size w w' := by
  have HR := Aside0.mk hr0
  have HC := Aside0.mk hc0
  have HB := Aside0.mk (Below.refl w.heap.size w)
  clear hr0 hc0
  have h1 := fun (w : World) => Lib.run_eql_slice_nil (P := Try.prog) w 35 28 (some a) l.length c0 0 0 Try.underlying35
  go_enter Try.func34, Try.ntmps34
  go_wp2_with (first | ((with_reducible refine gate_dst (N := 5) rfl ?_); refine Kd.R_lit k28 _ 28 ?hg (N := 5) ?hd (xs := ([] : List S28)) (inner := []) (ok := fun _ => True) (okp := fun _ => True) ?hr (Reps.none _ _) (fun _ hk => hk) trivial (Below.refl _ _) (Nat.le_refl _) (by simp) ?_; (case hd => rfl); (case hg => rfl); (case hr => first | (go_simp; done) | (go_simp; rfl)); intro v1 w1 ho hb hg_ hnew_; clear hg_ hnew_ HB; have HO := Aside0.mk ho; have HB := Aside0.mk hb; clear ho hb) | ((with_reducible refine gate_builtin (b := .append) (xs := #[.tmp 5, .tmp 6]) rfl ?_); at_builtin; refine Kd.R_append_rows k28 (w0 := w) w.heap.size rfl (.tmp 5) (.tmp 6) 35 28 (.agg #[.int .i64 0, .int .i64 0, .string ⟨#[]⟩]) 32 rfl Try.underlying35 info28 rfl (by decide) (by omega) v1 [] l _ _ _ (fun _ => True) (fun _ => False) rfl rfl HO.out (Kd.C_below HR.out HB.out) (fun _ _ h => h) (fun _ h => h.elim) (fun _ _ => trivial) HB.out HB.out.size ?aL ?_; (case aL => simp; omega); intro v2 w2 ho hb hg hat; rw [List.nil_append] at ho; clear HO HB; have HO := Aside0.mk ho; have HB := Aside0.mk hb; clear ho hb hg hat; obtain ⟨A2, n2, e2⟩ := Kd.R_slice HO.out; subst e2))
  go_ret
  exact ⟨_, rfl, HO.out, HB.out⟩
theorem cl_calls (A : Option Addr) (c0 : Nat) (l : List S28) (w : World) (hr0 : Kd.C k28 w A l.length l) (hc0 : l.length ≤ c0) (hl : l.length ≤ 1000000) :
    Calls Try.prog 34 #[.slice A l.length c0] w fun e w' => ∃ A' c', e = .returned (.slice A' l.length c') ∧ Kd.R k28 28 w' w.heap.size (fun _ => True) (.slice A' l.length c') l ∧ Below w.heap.size w w' := by
  cases A with
  | some a =>
    refine (cl_some a c0 l w hr0 hc0 hl).mono ?_
    rintro e w' ⟨v, rfl, h1, h2⟩
    obtain ⟨A', c', rfl⟩ := Kd.R_slice h1
    exact ⟨A', c', rfl, h1, h2⟩
  | none =>
    have h : l = [] := by
      rcases Nat.eq_zero_or_pos l.length with h | h
      · exact List.eq_nil_of_length_eq_zero h
      · obtain ⟨ad, e, _⟩ := hr0.2.2 h
        cases e
    subst h
    exact (cl_nil c0 w).mono fun e w' ⟨he, hw⟩ => ⟨none, 0, he, by subst hw; exact Kd.R_nil _ _ _ _ _, by subst hw; exact Below.refl _ _⟩
set_option maxRecDepth 100000 in
theorem all_calls (S : Nat → Prop) (b g : Nat) (v : Value) (l : List S28) (w : World) (h : NB S b w g v l) (hl : l.length ≤ 1000000) :
    Calls Try.prog 13 #[.pointer (some ⟨g, 0, none⟩)] w fun e w' => ∃ A' c', e = .returned (.slice A' l.length c') ∧ Kd.R k28 28 w' w.heap.size (fun _ => True) (.slice A' l.length c') l ∧ Below w.heap.size w w' := by
  obtain ⟨A, c, rfl⟩ := Kd.R_slice h.2.2.2
  have hcell : w.cell? ⟨g, 0, none⟩ = some (.slice A l.length c) := (blk_cell h.2.2.1 0).trans rfl
  have HR := Aside0.mk (Kd.R_reads' h.2.2.2)
  clear h
  go_enter Try.func13, Try.ntmps13
  go_wp2_with fail
  refine (cl_calls A c l w HR.out.2.2 HR.out.2.1 hl).mono ?_
  rintro _ w1 ⟨A', c', rfl, h1, h2⟩
  have H1 := Aside0.mk h1
  have H2 := Aside0.mk h2
  clear h1 h2
  go_wp2_with fail
  go_ret
  exact ⟨A', c', rfl, H1.out, H2.out⟩
set_option maxRecDepth 100000 in
theorem len_calls (S : Nat → Prop) (b g : Nat) (v : Value) (l : List S28) (w : World) (h : NB S b w g v l) :
    Calls Try.prog 15 #[.pointer (some ⟨g, 0, none⟩)] w fun e w' => e = .returned (.int .i64 (l.length : Int)) ∧ w = w' := by
  obtain ⟨A, c, rfl⟩ := Kd.R_slice h.2.2.2
  have hcell : w.cell? ⟨g, 0, none⟩ = some (.slice A l.length c) := (blk_cell h.2.2.1 0).trans rfl
  clear h
  go_enter Try.func15, Try.ntmps15
  go_wp2_with fail
  go_ret
  exact ⟨rfl, rfl⟩
set_option maxRecDepth 100000 in
theorem nclone_calls (S : Nat → Prop) (b g : Nat) (v : Value) (l : List S28) (w : World) (h : NB S b w g v l) (hl : l.length ≤ 1000000) :
    Calls Try.prog 19 #[.pointer (some ⟨g, 0, none⟩)] w fun e w' => ∃ g2 v2, e = .returned (.pointer (some ⟨g2, 0, none⟩)) ∧ NB (fun k => w.heap.size ≤ k ∧ k < w'.heap.size) w.heap.size w' g2 v2 l ∧ Below w.heap.size w w' := by
  have H := Aside0.mk h
  clear h
  go_enter Try.func19, Try.ntmps19
  go_wp2_with fail
  refine (all_calls S b g v l w H.out hl).mono ?_
  rintro _ w1 ⟨A', c', rfl, h1, h2⟩
  have H1 := Aside0.mk h1
  have H2 := Aside0.mk h2
  clear h1 h2
  go_wp2_with fail
  go_ret
  have hb := below_alloc H2.out (.cells #[.slice A' l.length c'] 72)
  refine ⟨_, _, rfl, ⟨⟨H2.out.size, by simp⟩, H2.out.size, heap_alloc_new w1 _, ?_⟩, hb⟩
  exact Kd.R_mono (Kd.R_bound (Kd.R_below H1.out (below_alloc (Below.refl _ _) _))) (fun k hk => ⟨hk.2.1, hk.2.2.1⟩)
set_option maxHeartbeats 4000000 in
set_option maxRecDepth 100000 in
theorem double_calls (S : Nat → Prop) (b g : Nat) (v : Value) (l : List S28) (i : Int) (w : World) (h : NB S b w g v l) (hb : b ≤ w.heap.size) (hl : l.length ≤ 200) :
    Calls Try.prog 14 #[.pointer (some ⟨g, 0, none⟩), .int .i64 i] w fun e w' => ∃ v', e = .returned (.int .i64 (doubleI l i).2) ∧ NB (fun k => S k ∨ w.heap.size ≤ k) b w' g v' (doubleI l i).1 ∧ Kept w w' S ∧ Below b w w' := by
  obtain ⟨A, c, rfl⟩ := Kd.R_slice h.2.2.2
  have H := Aside0.mk h
  have HBW := Aside0.mk hb
  have HL := Aside0.mk hl
  have hcell : w.cell? ⟨g, 0, none⟩ = some (.slice A l.length c) := (blk_cell h.2.2.1 0).trans rfl
  clear h
  by_cases hi0 : i < 0
  · have e : doubleI l i = (l, 4) := by unfold doubleI; rw [if_pos (.inl hi0)]
    have E := Aside0.mk e
    clear e
    go_enter Try.func14, Try.ntmps14
    go_wp2_with fail
    go_ret
    rw [E.out]
    first | exact ⟨_, rfl, H.out.mono (fun k hk => .inl hk), Kept.refl w S, Below.refl b w⟩ | exact ⟨rfl, ⟨_, H.out.mono (fun k hk => .inl hk)⟩, Kept.refl w S, Below.refl b w⟩
  · by_cases hi1 : (l.length : Int) ≤ i
    · have e : doubleI l i = (l, 4) := by unfold doubleI; rw [if_pos (.inr hi1)]
      have E := Aside0.mk e
      clear e
      go_enter Try.func14, Try.ntmps14
      go_wp2_with fail
      go_ret
      rw [E.out]
      first | exact ⟨_, rfl, H.out.mono (fun k hk => .inl hk), Kept.refl w S, Below.refl b w⟩ | exact ⟨rfl, ⟨_, H.out.mono (fun k hk => .inl hk)⟩, Kept.refl w S, Below.refl b w⟩
    · have e : doubleI l i = sendI l (rd_T28 l i) := by unfold doubleI; rw [if_neg (by omega)]
      obtain ⟨j, rfl⟩ : ∃ j : Nat, i = (j : Int) := ⟨i.toNat, by omega⟩
      have hj : j < l.length := by omega
      obtain ⟨x, hx⟩ : ∃ x, x = rd_T28 l (j : Int) := ⟨_, rfl⟩
      have hrd := Kd.R_reads' H.out.2.2.2
      obtain ⟨ad, eA, x0, x1, x2⟩ := at_T28 hrd.2.2 (j : Int) (by omega) (by omega)
      rw [Int.toNat_natCast, ← hx] at x0 x1 x2
      rw [← hx] at e
      have E := Aside0.mk e
      subst eA
      clear e hx hrd
      go_enter Try.func14, Try.ntmps14
      go_wp2_with fail
      refine (send_calls S b g _ l x w H.out HBW.out HL.out).mono ?_
      rintro _ w1 ⟨v1, rfl, h1, h2, h3⟩
      have H1 := Aside0.mk h1
      have H2 := Aside0.mk h2
      have H3 := Aside0.mk h3
      clear h1 h2 h3
      go_wp2_with fail
      go_ret
      rw [E.out]
      first | exact ⟨_, rfl, H1.out, H2.out, H3.out⟩ | exact ⟨rfl, ⟨_, H1.out⟩, H2.out, H3.out⟩
set_option maxHeartbeats 4000000 in
set_option maxRecDepth 100000 in
theorem rdouble_calls (S : Nat → Prop) (b g : Nat) (v : Value) (l : List S28) (i : Int) (w : World) (h : RB S b w g v l) (hb : b ≤ w.heap.size) (hl : l.length ≤ 200) :
    Calls Try.prog 18 #[.pointer (some ⟨g, 0, none⟩), .int .i64 i] w fun e w' => ∃ v', e = .returned (.int .i64 (doubleI l i).2) ∧ RB (fun k => S k ∨ w.heap.size ≤ k) b w' g v' (doubleI l i).1 ∧ Kept w w' S ∧ Below b w w' := by
  obtain ⟨A, c, rfl⟩ := Kd.R_slice h.2.2.2
  have H := Aside0.mk h
  have HBW := Aside0.mk hb
  have HL := Aside0.mk hl
  have hcell : w.cell? ⟨g, 0, none⟩ = some (.slice A l.length c) := (blk_cell h.2.2.1 0).trans rfl
  clear h
  by_cases hi0 : i < 0
  · have e : doubleI l i = (l, 4) := by unfold doubleI; rw [if_pos (.inl hi0)]
    have E := Aside0.mk e
    clear e
    go_enter Try.func18, Try.ntmps18
    go_wp2_with fail
    go_ret
    rw [E.out]
    first | exact ⟨_, rfl, H.out.mono (fun k hk => .inl hk), Kept.refl w S, Below.refl b w⟩ | exact ⟨rfl, ⟨_, H.out.mono (fun k hk => .inl hk)⟩, Kept.refl w S, Below.refl b w⟩
  · by_cases hi1 : (l.length : Int) ≤ i
    · have e : doubleI l i = (l, 4) := by unfold doubleI; rw [if_pos (.inr hi1)]
      have E := Aside0.mk e
      clear e
      go_enter Try.func18, Try.ntmps18
      go_wp2_with fail
      go_ret
      rw [E.out]
      first | exact ⟨_, rfl, H.out.mono (fun k hk => .inl hk), Kept.refl w S, Below.refl b w⟩ | exact ⟨rfl, ⟨_, H.out.mono (fun k hk => .inl hk)⟩, Kept.refl w S, Below.refl b w⟩
    · have e : doubleI l i = sendI l (rd_T28 l i) := by unfold doubleI; rw [if_neg (by omega)]
      obtain ⟨j, rfl⟩ : ∃ j : Nat, i = (j : Int) := ⟨i.toNat, by omega⟩
      have hj : j < l.length := by omega
      obtain ⟨x, hx⟩ : ∃ x, x = rd_T28 l (j : Int) := ⟨_, rfl⟩
      have hrd := Kd.R_reads' H.out.2.2.2
      obtain ⟨ad, eA, x0, x1, x2⟩ := at_T28 hrd.2.2 (j : Int) (by omega) (by omega)
      rw [Int.toNat_natCast, ← hx] at x0 x1 x2
      rw [← hx] at e
      have E := Aside0.mk e
      subst eA
      clear e hx hrd
      go_enter Try.func18, Try.ntmps18
      go_wp2_with fail
      refine (rsend_calls S b g _ l x w H.out HBW.out HL.out).mono ?_
      rintro _ w1 ⟨v1, rfl, h1, h2, h3⟩
      have H1 := Aside0.mk h1
      have H2 := Aside0.mk h2
      have H3 := Aside0.mk h3
      clear h1 h2 h3
      go_wp2_with fail
      go_ret
      rw [E.out]
      first | exact ⟨_, rfl, H1.out, H2.out, H3.out⟩ | exact ⟨rfl, ⟨_, H1.out⟩, H2.out, H3.out⟩
end Go.Proofs.Ytpnbeifbapcmdaa.Nt
