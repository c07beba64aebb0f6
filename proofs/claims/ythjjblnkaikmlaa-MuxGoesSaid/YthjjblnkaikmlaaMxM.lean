/- slices.Clone at frames and replies; a session's Clone. -/
import Derived.Test.YthjjblnkaikmlaaMxL
import Derived.Deep.RegionLawGrows
import Derived.Handy
import Derived.Lib.SliceRun
import Derived.StillTailTactics
namespace Go.Proofs.Ythjjblnkaikmlaa.Mx
open Go.RowKit Go.Proofs.Ythjjblnkaikmlaa.St Go.Proofs.Ythjjblnkaikmlaa.PMuxOnce Go.Proofs.YthjjblnkaikmlaaW.PrintWords Go.Proofs.YthjjblnkaikmlaaW.PrintLast Go.Proofs.YthjjblnkaikmlaaW.PrintMore
set_option linter.unusedVariables false
set_option linter.unusedSimpArgs false
attribute [local go_sem] max2_int min2_int max_two min_two
set_option maxRecDepth 100000 in
theorem fclone_nil (c0 : Nat) (w : World) :
    Calls Try.prog 41 #[.slice none 0 c0] w fun e w' => e = .returned (.slice none 0 0) ∧ w = w' := by
  have h1 := fun (w : World) => Lib.run_eql_slice_nil (P := Try.prog) w 22 44 none 0 c0 0 0 Try.underlying22
  go_enter Try.func41, Try.ntmps41
  go_wp2
  go_ret
  exact ⟨rfl, rfl⟩
set_option maxRecDepth 100000 in
theorem fclone_some (a : Addr) (c0 : Nat) (l : List S44) (w : World) (hr0 : Kd.C k44 w (some a) l.length l) (hc0 : l.length ≤ c0) (hl : l.length ≤ 1000000) :
    Calls Try.prog 41 #[.slice (some a) l.length c0] w fun e w' => ∃ v, e = .returned v ∧ Kd.R k44 44 w' w.heap.size (fun _ => True) v l ∧ Below w.heap.size w w' := by
  have HR := Aside0.mk hr0
  have HC := Aside0.mk hc0
  have HB := Aside0.mk (Below.refl w.heap.size w)
  clear hr0 hc0
  have h1 := fun (w : World) => Lib.run_eql_slice_nil (P := Try.prog) w 22 44 (some a) l.length c0 0 0 Try.underlying22
  go_enter Try.func41, Try.ntmps41
  go_wp2_with (first | ((with_reducible refine gate_dst (N := 5) rfl ?_); refine Kd.R_lit k44 _ 44 ?hg (N := 5) ?hd (xs := ([] : List S44)) (inner := []) (ok := fun _ => True) (okp := fun _ => True) ?hr (Reps.none _ _) (fun _ hk => hk) trivial (Below.refl _ _) (Nat.le_refl _) (by simp) ?_; (case hd => rfl); (case hg => rfl); (case hr => first | (go_simp; done) | (go_simp; rfl)); intro v1 w1 ho hb hg_ hnew_; clear hg_ hnew_ HB; have HO := Aside0.mk ho; have HB := Aside0.mk hb; clear ho hb) | ((with_reducible refine gate_builtin (b := .append) (xs := #[.tmp 5, .tmp 6]) rfl ?_); at_builtin; refine Kd.R_append_rows k44 (w0 := w) w.heap.size rfl (.tmp 5) (.tmp 6) 22 44 (.agg #[(.int .u8 0), (.string ⟨#[]⟩)]) 24 rfl Try.underlying22 info44 rfl (by decide) (by omega) v1 [] l _ _ _ (fun _ => True) (fun _ => False) rfl rfl HO.out (Kd.C_below HR.out HB.out) (fun _ _ h => k44_KM h) (fun _ h => h.elim) (fun _ _ => trivial) HB.out HB.out.size ?aL ?_; (case aL => simp; omega); intro v2 w2 ho hb hg hat; rw [List.nil_append] at ho; clear HO HB; have HO := Aside0.mk ho; have HB := Aside0.mk hb; clear ho hb hg hat; obtain ⟨A2, n2, e2⟩ := Kd.R_slice HO.out; subst e2))
  go_ret
  exact ⟨_, rfl, HO.out, HB.out⟩

theorem fclone_calls (A : Option Addr) (c0 : Nat) (l : List S44) (w : World) (hr0 : Kd.C k44 w A l.length l) (hc0 : l.length ≤ c0) (hl : l.length ≤ 1000000) :
    Calls Try.prog 41 #[.slice A l.length c0] w fun e w' => ∃ v, e = .returned v ∧ Kd.R k44 44 w' w.heap.size (fun _ => True) v l ∧ Below w.heap.size w w' := by
  cases A with
  | some a => exact fclone_some a c0 l w hr0 hc0 hl
  | none =>
    have h : l = [] := by
      rcases Nat.eq_zero_or_pos l.length with h | h
      · exact List.eq_nil_of_length_eq_zero h
      · obtain ⟨ad, e, _⟩ := hr0.2.2 h
        cases e
    subst h
    exact (fclone_nil c0 w).mono fun e w' ⟨he, hw⟩ => ⟨_, he, by subst hw; exact Kd.R_nil _ _ _ _ _, by subst hw; exact Below.refl _ _⟩
set_option maxRecDepth 100000 in
theorem pclone_nil (c0 : Nat) (w : World) :
    Calls Try.prog 42 #[.slice none 0 c0] w fun e w' => e = .returned (.slice none 0 0) ∧ w = w' := by
  have h1 := fun (w : World) => Lib.run_eql_slice_nil (P := Try.prog) w 39 42 none 0 c0 0 0 Try.underlying39
  go_enter Try.func42, Try.ntmps42
  go_wp2
  go_ret
  exact ⟨rfl, rfl⟩
set_option maxRecDepth 100000 in
theorem pclone_some (a : Addr) (c0 : Nat) (l : List S42) (w : World) (hr0 : Kd.C k42 w (some a) l.length l) (hc0 : l.length ≤ c0) (hl : l.length ≤ 1000000) :
    Calls Try.prog 42 #[.slice (some a) l.length c0] w fun e w' => ∃ v, e = .returned v ∧ Kd.R k42 42 w' w.heap.size (fun _ => True) v l ∧ Below w.heap.size w w' := by
  have HR := Aside0.mk hr0
  have HC := Aside0.mk hc0
  have HB := Aside0.mk (Below.refl w.heap.size w)
  clear hr0 hc0
  have h1 := fun (w : World) => Lib.run_eql_slice_nil (P := Try.prog) w 39 42 (some a) l.length c0 0 0 Try.underlying39
  go_enter Try.func42, Try.ntmps42
  go_wp2_with (first | ((with_reducible refine gate_dst (N := 5) rfl ?_); refine Kd.R_lit k42 _ 42 ?hg (N := 5) ?hd (xs := ([] : List S42)) (inner := []) (ok := fun _ => True) (okp := fun _ => True) ?hr (Reps.none _ _) (fun _ hk => hk) trivial (Below.refl _ _) (Nat.le_refl _) (by simp) ?_; (case hd => rfl); (case hg => rfl); (case hr => first | (go_simp; done) | (go_simp; rfl)); intro v1 w1 ho hb hg_ hnew_; clear hg_ hnew_ HB; have HO := Aside0.mk ho; have HB := Aside0.mk hb; clear ho hb) | ((with_reducible refine gate_builtin (b := .append) (xs := #[.tmp 5, .tmp 6]) rfl ?_); at_builtin; refine Kd.R_append_rows k42 (w0 := w) w.heap.size rfl (.tmp 5) (.tmp 6) 39 42 (.agg #[(.int .i64 0), (.int .i64 0), (.string ⟨#[]⟩)]) 32 rfl Try.underlying39 info42 rfl (by decide) (by omega) v1 [] l _ _ _ (fun _ => True) (fun _ => False) rfl rfl HO.out (Kd.C_below HR.out HB.out) (fun _ _ h => k42_KM h) (fun _ h => h.elim) (fun _ _ => trivial) HB.out HB.out.size ?aL ?_; (case aL => simp; omega); intro v2 w2 ho hb hg hat; rw [List.nil_append] at ho; clear HO HB; have HO := Aside0.mk ho; have HB := Aside0.mk hb; clear ho hb hg hat; obtain ⟨A2, n2, e2⟩ := Kd.R_slice HO.out; subst e2))
  go_ret
  exact ⟨_, rfl, HO.out, HB.out⟩

theorem pclone_calls (A : Option Addr) (c0 : Nat) (l : List S42) (w : World) (hr0 : Kd.C k42 w A l.length l) (hc0 : l.length ≤ c0) (hl : l.length ≤ 1000000) :
    Calls Try.prog 42 #[.slice A l.length c0] w fun e w' => ∃ v, e = .returned v ∧ Kd.R k42 42 w' w.heap.size (fun _ => True) v l ∧ Below w.heap.size w w' := by
  cases A with
  | some a => exact pclone_some a c0 l w hr0 hc0 hl
  | none =>
    have h : l = [] := by
      rcases Nat.eq_zero_or_pos l.length with h | h
      · exact List.eq_nil_of_length_eq_zero h
      · obtain ⟨ad, e, _⟩ := hr0.2.2 h
        cases e
    subst h
    exact (pclone_nil c0 w).mono fun e w' ⟨he, hw⟩ => ⟨_, he, by subst hw; exact Kd.R_nil _ _ _ _ _, by subst hw; exact Below.refl _ _⟩
theorem cell_away {w : World} {g gc i j : Nat} (h : g ≠ gc) (v : Value) : (w.setCell ⟨gc, j, none⟩ v).cell? ⟨g, i, none⟩ = w.cell? ⟨g, i, none⟩ := World.cell?_setCell_other _ _ _ _ (fun e => h (by injection e with e1 _ _; exact e1.symm))
theorem cell_below {w w1 : World} {a : Addr} {v : Value} (h : w.cell? a = some v) (hb : Below w.heap.size w w1) : w1.cell? a = some v := cell_kept h (Kept.of_below hb (fun _ => False)) (fun h => h)
set_option maxHeartbeats 4000000 in
set_option maxRecDepth 100000 in
theorem sclone_calls (S : Nat → Prop) (b g : Nat) (M : MSt) (w : World) (h : MX S b w g M) (hl : M.told.length + M.ahead.length ≤ 1000000) (htx : M.s.text.length ≤ 1000) :
    Calls Try.prog 29 #[.pointer (some ⟨g, 0, none⟩)] w fun e w' => ∃ g2 S2, e = .returned (.pointer (some ⟨g2, 0, none⟩)) ∧ (∀ k, S2 k → w.heap.size ≤ k) ∧ MX S2 b w' g2 M ∧ Below w.heap.size w w' := by
  obtain ⟨h1, h2, Sr, gr, vt, va, vb, hm⟩ := h
  obtain ⟨Aa, ca, rfl⟩ := Kd.R_slice hm.row
  obtain ⟨Ab, cb, rfl⟩ := Kd.R_slice hm.2.2.2.2.2.2.2.1
  obtain ⟨At, ct, rfl⟩ := Kd.R_slice hm.2.2.2.2.2.1.2.2.2.1
  obtain ⟨c0, c1, c2, c3, c4, c5, c6, c7⟩ := hm.cells
  obtain ⟨gc, hgc⟩ : ∃ gc, gc = w.heap.size := ⟨_, rfl⟩
  have haf : (w.alloc (.cells (cellsM gr (.slice Aa M.ahead.length ca) (.slice Ab M.told.length cb) M) 71)).heap[w.heap.size]? = some (.cells (cellsM gr (.slice Aa M.ahead.length ca) (.slice Ab M.told.length cb) M) 71 (0, 0)) := heap_alloc_new w _
  have hab : Below w.heap.size w (w.alloc (.cells (cellsM gr (.slice Aa M.ahead.length ca) (.slice Ab M.told.length cb) M) 71)) := below_alloc (Below.refl _ _) _
  have haz : (w.alloc (.cells (cellsM gr (.slice Aa M.ahead.length ca) (.slice Ab M.told.length cb) M) 71)).heap.size = w.heap.size + 1 := by simp
  obtain ⟨wa, hwa⟩ : ∃ wa, w.alloc (.cells #[.pointer (some ⟨gr, 0, none⟩), .slice Aa M.ahead.length ca, .bool M.broke, .iface M.st (.agg #[]), .int .i64 M.wd, .bool M.alone, .string M.text, .slice Ab M.told.length cb] 71) = wa := ⟨_, rfl⟩
  rw [show w.alloc (.cells (cellsM gr (.slice Aa M.ahead.length ca) (.slice Ab M.told.length cb) M) 71) = wa from hwa] at haf hab haz
  rw [← hgc] at haf haz
  have hgc' := hgc.symm
  have hma := hm.step (w1 := wa) (fun k hk hl => hab.block k hl)
  obtain ⟨d0, d1, d2, d3, d4, d5, d6, d7⟩ := hma.cells
  have HMA := Aside0.mk hma
  have HAF := Aside0.mk haf
  have HAB := Aside0.mk hab
  have HAZ := Aside0.mk haz
  have HGC := Aside0.mk hgc
  have HM := Aside0.mk hm
  have HS := Aside0.mk h1
  have HW := Aside0.mk h2
  have HL := Aside0.mk hl
  have HT := Aside0.mk htx
  clear hm h1 h2 hl htx hma haf hab haz hgc
  go_enter Try.func29, Try.ntmps29
  go_wp2_with fail
  have hHeld : (fun w' => w'.cell? ⟨g, 0, none⟩ = some (.pointer (some ⟨gr, 0, none⟩)) ∧ w'.cell? ⟨g, 1, none⟩ = some (.slice Aa M.ahead.length ca) ∧ w'.cell? ⟨g, 7, none⟩ = some (.slice Ab M.told.length cb)) wa.drew := ⟨d0, d1, d7⟩
  refine wp_region_noPanic ?_
  refine wp_region_any (by kernel_rfl) ?_
  change wpAny _ _ _ _ _ _ _ (World.drew _)
  refine wpAny_of_T (S := (fun w' => w'.cell? ⟨g, 0, none⟩ = some (.pointer (some ⟨gr, 0, none⟩)) ∧ w'.cell? ⟨g, 1, none⟩ = some (.slice Aa M.ahead.length ca) ∧ w'.cell? ⟨g, 7, none⟩ = some (.slice Ab M.told.length cb))) (t := 20) _ _ _ _ ?_
  refine wpAnyT_take (i := 0) (oi := { dst := some 7, op := Op.move (Operand.tmp 0), type := 28, pos := "mux.go:229", after := #[], guard := none }) (v := ?vr0x1) rfl (by kernel_rfl) (by kernel_rfl) (by kernel_rfl) (by kernel_rfl) (fun _ _ _ h => h) (Or.inl ⟨by rfl, ?hyr0x1⟩) hHeld ?restr0x1
  case hyr0x1 =>
    intro w hSw
    try dsimp only at hSw
    go_simp
    all_goals with_reducible rfl
  (try simp only [Act.put, List.setIfInBounds_toArray, List.set_cons_zero, List.set_cons_succ])
  refine wpAnyT_take (i := 1) (oi := { dst := some 8, op := Op.nilCheck (Operand.tmp 7), type := 0, pos := "mux.go:229", after := #[{ on := 0, ground := Ground.data }], guard := none }) (v := ?vr1x2) rfl (by kernel_rfl) (by kernel_rfl) (by kernel_rfl) (by kernel_rfl) (fun _ _ _ h => h) (Or.inl ⟨by rfl, ?hyr1x2⟩) hHeld ?restr1x2
  case hyr1x2 =>
    intro w hSw
    try dsimp only at hSw
    go_simp
    all_goals with_reducible rfl
  (try simp only [Act.put, List.setIfInBounds_toArray, List.set_cons_zero, List.set_cons_succ])
  refine wpAnyT_take (i := 2) (oi := { dst := some 9, op := Op.fieldAddr 71 (Operand.tmp 8) 0, type := 0, pos := "mux.go:229", after := #[{ on := 1, ground := Ground.data }], guard := none }) (v := ?vr2x3) rfl (by kernel_rfl) (by kernel_rfl) (by kernel_rfl) (by kernel_rfl) (fun _ _ _ h => h) (Or.inl ⟨by rfl, ?hyr2x3⟩) hHeld ?restr2x3
  case hyr2x3 =>
    intro w hSw
    try dsimp only at hSw
    go_simp
    all_goals with_reducible rfl
  (try simp only [Act.put, List.setIfInBounds_toArray, List.set_cons_zero, List.set_cons_succ])
  refine wpAnyT_take (i := 3) (oi := { dst := some 10, op := Op.load 63 (Operand.tmp 9), type := 63, pos := "mux.go:229", after := #[{ on := 2, ground := Ground.data }], guard := none }) (v := ?vr3x4) rfl (by kernel_rfl) (by kernel_rfl) (by kernel_rfl) (by kernel_rfl) (fun _ _ _ h => h) (Or.inl ⟨by rfl, ?hyr3x4⟩) hHeld ?restr3x4
  case hyr3x4 =>
    intro w hSw
    try dsimp only at hSw
    go_simp
    all_goals with_reducible rfl
  (try simp only [Act.put, List.setIfInBounds_toArray, List.set_cons_zero, List.set_cons_succ])
  refine wpAnyT_take (i := 5) (oi := { dst := some 12, op := Op.move (Operand.tmp 0), type := 28, pos := "mux.go:229", after := #[], guard := none }) (v := ?vr5x5) rfl (by kernel_rfl) (by kernel_rfl) (by kernel_rfl) (by kernel_rfl) (fun _ _ _ h => h) (Or.inl ⟨by rfl, ?hyr5x5⟩) hHeld ?restr5x5
  case hyr5x5 =>
    intro w hSw
    try dsimp only at hSw
    go_simp
    all_goals with_reducible rfl
  (try simp only [Act.put, List.setIfInBounds_toArray, List.set_cons_zero, List.set_cons_succ])
  refine wpAnyT_take (i := 6) (oi := { dst := some 13, op := Op.nilCheck (Operand.tmp 12), type := 0, pos := "mux.go:229", after := #[{ on := 5, ground := Ground.data }], guard := none }) (v := ?vr6x6) rfl (by kernel_rfl) (by kernel_rfl) (by kernel_rfl) (by kernel_rfl) (fun _ _ _ h => h) (Or.inl ⟨by rfl, ?hyr6x6⟩) hHeld ?restr6x6
  case hyr6x6 =>
    intro w hSw
    try dsimp only at hSw
    go_simp
    all_goals with_reducible rfl
  (try simp only [Act.put, List.setIfInBounds_toArray, List.set_cons_zero, List.set_cons_succ])
  refine wpAnyT_take (i := 7) (oi := { dst := some 14, op := Op.fieldAddr 71 (Operand.tmp 13) 1, type := 0, pos := "mux.go:229", after := #[{ on := 6, ground := Ground.data }], guard := none }) (v := ?vr7x7) rfl (by kernel_rfl) (by kernel_rfl) (by kernel_rfl) (by kernel_rfl) (fun _ _ _ h => h) (Or.inl ⟨by rfl, ?hyr7x7⟩) hHeld ?restr7x7
  case hyr7x7 =>
    intro w hSw
    try dsimp only at hSw
    go_simp
    all_goals with_reducible rfl
  (try simp only [Act.put, List.setIfInBounds_toArray, List.set_cons_zero, List.set_cons_succ])
  refine wpAnyT_take (i := 8) (oi := { dst := some 15, op := Op.load 22 (Operand.tmp 14), type := 22, pos := "mux.go:229", after := #[{ on := 7, ground := Ground.data }], guard := none }) (v := ?vr8x8) rfl (by kernel_rfl) (by kernel_rfl) (by kernel_rfl) (by kernel_rfl) (fun _ _ _ h => h) (Or.inl ⟨by rfl, ?hyr8x8⟩) hHeld ?restr8x8
  case hyr8x8 =>
    intro w hSw
    try dsimp only at hSw
    go_simp
    all_goals with_reducible rfl
  (try simp only [Act.put, List.setIfInBounds_toArray, List.set_cons_zero, List.set_cons_succ])
  refine wpAnyT_take (i := 10) (oi := { dst := some 17, op := Op.move (Operand.tmp 0), type := 28, pos := "mux.go:229", after := #[], guard := none }) (v := ?vr10x9) rfl (by kernel_rfl) (by kernel_rfl) (by kernel_rfl) (by kernel_rfl) (fun _ _ _ h => h) (Or.inl ⟨by rfl, ?hyr10x9⟩) hHeld ?restr10x9
  case hyr10x9 =>
    intro w hSw
    try dsimp only at hSw
    go_simp
    all_goals with_reducible rfl
  (try simp only [Act.put, List.setIfInBounds_toArray, List.set_cons_zero, List.set_cons_succ])
  refine wpAnyT_take (i := 11) (oi := { dst := some 18, op := Op.nilCheck (Operand.tmp 17), type := 0, pos := "mux.go:229", after := #[{ on := 10, ground := Ground.data }], guard := none }) (v := ?vr11x10) rfl (by kernel_rfl) (by kernel_rfl) (by kernel_rfl) (by kernel_rfl) (fun _ _ _ h => h) (Or.inl ⟨by rfl, ?hyr11x10⟩) hHeld ?restr11x10
  case hyr11x10 =>
    intro w hSw
    try dsimp only at hSw
    go_simp
    all_goals with_reducible rfl
  (try simp only [Act.put, List.setIfInBounds_toArray, List.set_cons_zero, List.set_cons_succ])
  refine wpAnyT_take (i := 12) (oi := { dst := some 19, op := Op.fieldAddr 71 (Operand.tmp 18) 7, type := 0, pos := "mux.go:229", after := #[{ on := 11, ground := Ground.data }], guard := none }) (v := ?vr12x11) rfl (by kernel_rfl) (by kernel_rfl) (by kernel_rfl) (by kernel_rfl) (fun _ _ _ h => h) (Or.inl ⟨by rfl, ?hyr12x11⟩) hHeld ?restr12x11
  case hyr12x11 =>
    intro w hSw
    try dsimp only at hSw
    go_simp
    all_goals with_reducible rfl
  (try simp only [Act.put, List.setIfInBounds_toArray, List.set_cons_zero, List.set_cons_succ])
  refine wpAnyT_take (i := 13) (oi := { dst := some 20, op := Op.load 39 (Operand.tmp 19), type := 39, pos := "mux.go:229", after := #[{ on := 12, ground := Ground.data }], guard := none }) (v := ?vr13x12) rfl (by kernel_rfl) (by kernel_rfl) (by kernel_rfl) (by kernel_rfl) (fun _ _ _ h => h) (Or.inl ⟨by rfl, ?hyr13x12⟩) hHeld ?restr13x12
  case hyr13x12 =>
    intro w hSw
    try dsimp only at hSw
    go_simp
    all_goals with_reducible rfl
  (try simp only [Act.put, List.setIfInBounds_toArray, List.set_cons_zero, List.set_cons_succ])
  refine wpAnyT_one (i := 4) (o := { dst := some 11, op := Op.call { callee := Callee.value (Operand.func 40), args := #[Operand.tmp 10], argTypes := #[63] }, type := 63, pos := "mux.go:229", after := #[{ on := 3, ground := Ground.data }], guard := none }) rfl (by kernel_rfl) (fun KK hKK => ?_)
  go_simp
  refine (rclone_calls Sr b b gr M.s.at_ M.s.lacks At ct (.slice none 0 0) M.s.text M.s.out wa.drew (Rdr.step HMA.out.2.2.2.2.2.1 (fun _ _ _ => rfl)) HT.out).mono ?_
  rintro e w1 ⟨g2, v2, rfl, hg2, hr2, hb1⟩
  have HB1 : Aside0 (Below wa.heap.size wa w1) := ⟨((Below.refl wa.heap.size wa).drew).trans hb1⟩
  have hH4 : (fun w' => w'.cell? ⟨g, 0, none⟩ = some (.pointer (some ⟨gr, 0, none⟩)) ∧ w'.cell? ⟨g, 1, none⟩ = some (.slice Aa M.ahead.length ca) ∧ w'.cell? ⟨g, 7, none⟩ = some (.slice Ab M.told.length cb)) w1 := ⟨cell_below d0 HB1.out, cell_below d1 HB1.out, cell_below d7 HB1.out⟩
  have HR1 := Aside0.mk hr2
  have HG1 := Aside0.mk hg2
  clear hr2 hg2 hb1
  refine hKK _ _ (fun _ => hH4) ?_
  clear hKK KK
  (try simp only [Act.put, List.setIfInBounds_toArray, List.set_cons_zero, List.set_cons_succ])
  refine wpAnyT_one (i := 9) (o := { dst := some 16, op := Op.call { callee := Callee.value (Operand.func 41), args := #[Operand.tmp 15], argTypes := #[22] }, type := 22, pos := "mux.go:229", after := #[{ on := 8, ground := Ground.data }, { on := 4, ground := Ground.chain }], guard := none }) rfl (by kernel_rfl) (fun KK hKK => ?_)
  go_simp
  refine (fclone_calls Aa ca M.ahead w1 (Kd.C_below (Kd.R_reads' HMA.out.row).2.2 HB1.out) (Kd.R_reads' HMA.out.row).2.1 (by have := HL.out; omega)).mono ?_
  rintro e w2 ⟨v2a, rfl, hr2, hb2⟩
  have HB2 : Aside0 (Below wa.heap.size wa w2) := ⟨HB1.out.trans (hb2.mono HB1.out.size)⟩
  have hH9 : (fun w' => w'.cell? ⟨g, 0, none⟩ = some (.pointer (some ⟨gr, 0, none⟩)) ∧ w'.cell? ⟨g, 1, none⟩ = some (.slice Aa M.ahead.length ca) ∧ w'.cell? ⟨g, 7, none⟩ = some (.slice Ab M.told.length cb)) w2 := ⟨cell_below d0 HB2.out, cell_below d1 HB2.out, cell_below d7 HB2.out⟩
  obtain ⟨A2, n2, rfl⟩ := Kd.R_slice hr2
  have HR2 := Aside0.mk hr2
  have HBB2 := Aside0.mk hb2
  clear hr2 hb2
  refine hKK _ _ (fun _ => hH9) ?_
  clear hKK KK
  (try simp only [Act.put, List.setIfInBounds_toArray, List.set_cons_zero, List.set_cons_succ])
  refine wpAnyT_one (i := 14) (o := { dst := some 21, op := Op.call { callee := Callee.value (Operand.func 42), args := #[Operand.tmp 20], argTypes := #[39] }, type := 39, pos := "mux.go:229", after := #[{ on := 13, ground := Ground.data }, { on := 9, ground := Ground.chain }], guard := none }) rfl (by kernel_rfl) (fun KK hKK => ?_)
  go_simp
  refine (pclone_calls Ab cb M.told w2 (Kd.C_below (Kd.R_reads' HMA.out.2.2.2.2.2.2.2.1).2.2 HB2.out) (Kd.R_reads' HMA.out.2.2.2.2.2.2.2.1).2.1 (by have := HL.out; omega)).mono ?_
  rintro e w3 ⟨v3a, rfl, hr3, hb3⟩
  have HB3 : Aside0 (Below wa.heap.size wa w3) := ⟨HB2.out.trans (hb3.mono HB2.out.size)⟩
  have hH14 : (fun w' => w'.cell? ⟨g, 0, none⟩ = some (.pointer (some ⟨gr, 0, none⟩)) ∧ w'.cell? ⟨g, 1, none⟩ = some (.slice Aa M.ahead.length ca) ∧ w'.cell? ⟨g, 7, none⟩ = some (.slice Ab M.told.length cb)) w3 := ⟨cell_below d0 HB3.out, cell_below d1 HB3.out, cell_below d7 HB3.out⟩
  obtain ⟨A3, n3, rfl⟩ := Kd.R_slice hr3
  have HR3 := Aside0.mk hr3
  have HBB3 := Aside0.mk hb3
  have hb3c : w3.heap[gc]? = some (.cells (cellsM gr (.slice Aa M.ahead.length ca) (.slice Ab M.told.length cb) M) 71 (0, 0)) := (HB3.out.block gc (blk_lt HAF.out)).trans HAF.out
  have x0 : w3.cell? ⟨gc, 0, none⟩ = some (.pointer (some ⟨gr, 0, none⟩)) := (blk_cell hb3c 0).trans rfl
  have x1 : w3.cell? ⟨gc, 1, none⟩ = some (.slice Aa M.ahead.length ca) := (blk_cell hb3c 1).trans rfl
  have x7 : w3.cell? ⟨gc, 7, none⟩ = some (.slice Ab M.told.length cb) := (blk_cell hb3c 7).trans rfl
  have y0 : w3.frozen? ⟨gc, 0, none⟩ = false := blk_frozen hb3c 0
  have y1 : w3.frozen? ⟨gc, 1, none⟩ = false := blk_frozen hb3c 1
  have y7 : w3.frozen? ⟨gc, 7, none⟩ = false := blk_frozen hb3c 7
  have hne : g ≠ gc := fun e => by have := blk_lt HM.out.blk; have := HGC.out; omega
  have HBC := Aside0.mk hb3c
  clear hr3 hb3 hb3c
  refine hKK _ _ (fun _ => hH14) ?_
  clear hKK KK
  (try simp only [Act.put, List.setIfInBounds_toArray, List.set_cons_zero, List.set_cons_succ])
  refine wpAnyT_take (i := 15) (oi := { dst := some 22, op := Op.fieldAddr 71 (Operand.tmp 3) 0, type := 0, pos := "mux.go:229", after := #[{ on := 0, ground := Ground.phase }, { on := 1, ground := Ground.phase }, { on := 2, ground := Ground.phase }, { on := 3, ground := Ground.phase }, { on := 4, ground := Ground.phase }, { on := 5, ground := Ground.textOnly Departure.lateStores }, { on := 6, ground := Ground.textOnly Departure.lateStoresUnsure }, { on := 7, ground := Ground.textOnly Departure.lateStoresUnsure }, { on := 8, ground := Ground.phase }, { on := 9, ground := Ground.phase }, { on := 10, ground := Ground.textOnly Departure.lateStores }, { on := 11, ground := Ground.textOnly Departure.lateStoresUnsure }, { on := 12, ground := Ground.textOnly Departure.lateStoresUnsure }, { on := 13, ground := Ground.phase }, { on := 14, ground := Ground.phase }], guard := none }) (v := ?vr15x13) rfl (by kernel_rfl) (by kernel_rfl) (by kernel_rfl) (by kernel_rfl) (fun _ _ _ h => h) (Or.inl ⟨by rfl, ?hyr15x13⟩) hH14 ?restr15x13
  case hyr15x13 =>
    intro w hSw
    try dsimp only at hSw
    go_simp
    all_goals with_reducible rfl
  (try simp only [Act.put, List.setIfInBounds_toArray, List.set_cons_zero, List.set_cons_succ])
  refine wpAnyT_one (i := 16) (o := { dst := none, op := Op.store 63 (Operand.tmp 22) (Operand.tmp 11), type := 0, pos := "mux.go:229", after := #[{ on := 15, ground := Ground.data }, { on := 4, ground := Ground.data }, { on := 14, ground := Ground.chain }, { on := 0, ground := Ground.phase }, { on := 1, ground := Ground.phase }, { on := 2, ground := Ground.phase }, { on := 3, ground := Ground.phase }, { on := 4, ground := Ground.phase }, { on := 5, ground := Ground.textOnly Departure.lateStores }, { on := 6, ground := Ground.textOnly Departure.lateStoresUnsure }, { on := 7, ground := Ground.textOnly Departure.lateStoresUnsure }, { on := 8, ground := Ground.phase }, { on := 9, ground := Ground.phase }, { on := 10, ground := Ground.textOnly Departure.lateStores }, { on := 11, ground := Ground.textOnly Departure.lateStoresUnsure }, { on := 12, ground := Ground.textOnly Departure.lateStoresUnsure }, { on := 13, ground := Ground.phase }, { on := 14, ground := Ground.phase }], guard := none }) rfl (by kernel_rfl) (fun KK hKK => ?_)
  go_simp
  have hH16 : (fun w' => w'.cell? ⟨g, 0, none⟩ = some (.pointer (some ⟨gr, 0, none⟩)) ∧ w'.cell? ⟨g, 1, none⟩ = some (.slice Aa M.ahead.length ca) ∧ w'.cell? ⟨g, 7, none⟩ = some (.slice Ab M.told.length cb)) (w3.setCell ⟨gc, 0, none⟩ (.pointer (some ⟨g2, 0, none⟩))) := ⟨(cell_away hne _).trans hH14.1, (cell_away hne _).trans hH14.2.1, (cell_away hne _).trans hH14.2.2⟩
  refine hKK _ _ (fun _ => hH16) ?_
  clear hKK KK
  (try simp only [Act.put, List.setIfInBounds_toArray, List.set_cons_zero, List.set_cons_succ])
  refine wpAnyT_take (i := 17) (oi := { dst := some 23, op := Op.fieldAddr 71 (Operand.tmp 3) 1, type := 0, pos := "mux.go:229", after := #[{ on := 0, ground := Ground.phase }, { on := 1, ground := Ground.phase }, { on := 2, ground := Ground.phase }, { on := 3, ground := Ground.phase }, { on := 4, ground := Ground.phase }, { on := 5, ground := Ground.phase }, { on := 6, ground := Ground.phase }, { on := 7, ground := Ground.phase }, { on := 8, ground := Ground.phase }, { on := 9, ground := Ground.phase }, { on := 10, ground := Ground.textOnly Departure.lateStores }, { on := 11, ground := Ground.textOnly Departure.lateStoresUnsure }, { on := 12, ground := Ground.textOnly Departure.lateStoresUnsure }, { on := 13, ground := Ground.phase }, { on := 14, ground := Ground.phase }, { on := 15, ground := Ground.phase }, { on := 16, ground := Ground.phase }], guard := none }) (v := ?vr17x14) rfl (by kernel_rfl) (by kernel_rfl) (by kernel_rfl) (by kernel_rfl) (fun _ _ _ h => h) (Or.inl ⟨by rfl, ?hyr17x14⟩) hH16 ?restr17x14
  case hyr17x14 =>
    intro w hSw
    try dsimp only at hSw
    go_simp
    all_goals with_reducible rfl
  (try simp only [Act.put, List.setIfInBounds_toArray, List.set_cons_zero, List.set_cons_succ])
  refine wpAnyT_one (i := 18) (o := { dst := none, op := Op.store 22 (Operand.tmp 23) (Operand.tmp 16), type := 0, pos := "mux.go:229", after := #[{ on := 17, ground := Ground.data }, { on := 9, ground := Ground.data }, { on := 16, ground := Ground.chain }, { on := 0, ground := Ground.phase }, { on := 1, ground := Ground.phase }, { on := 2, ground := Ground.phase }, { on := 3, ground := Ground.phase }, { on := 4, ground := Ground.phase }, { on := 5, ground := Ground.phase }, { on := 6, ground := Ground.phase }, { on := 7, ground := Ground.phase }, { on := 8, ground := Ground.phase }, { on := 9, ground := Ground.phase }, { on := 10, ground := Ground.textOnly Departure.lateStores }, { on := 11, ground := Ground.textOnly Departure.lateStoresUnsure }, { on := 12, ground := Ground.textOnly Departure.lateStoresUnsure }, { on := 13, ground := Ground.phase }, { on := 14, ground := Ground.phase }, { on := 15, ground := Ground.phase }, { on := 16, ground := Ground.phase }], guard := none }) rfl (by kernel_rfl) (fun KK hKK => ?_)
  go_simp
  have hH18 : (fun w' => w'.cell? ⟨g, 0, none⟩ = some (.pointer (some ⟨gr, 0, none⟩)) ∧ w'.cell? ⟨g, 1, none⟩ = some (.slice Aa M.ahead.length ca) ∧ w'.cell? ⟨g, 7, none⟩ = some (.slice Ab M.told.length cb)) ((w3.setCell ⟨gc, 0, none⟩ (.pointer (some ⟨g2, 0, none⟩))).setCell ⟨gc, 1, none⟩ (.slice A2 M.ahead.length n2)) := ⟨(cell_away hne _).trans hH16.1, (cell_away hne _).trans hH16.2.1, (cell_away hne _).trans hH16.2.2⟩
  refine hKK _ _ (fun _ => hH18) ?_
  clear hKK KK
  (try simp only [Act.put, List.setIfInBounds_toArray, List.set_cons_zero, List.set_cons_succ])
  refine wpAnyT_take (i := 19) (oi := { dst := some 24, op := Op.fieldAddr 71 (Operand.tmp 3) 7, type := 0, pos := "mux.go:229", after := #[{ on := 0, ground := Ground.phase }, { on := 1, ground := Ground.phase }, { on := 2, ground := Ground.phase }, { on := 3, ground := Ground.phase }, { on := 4, ground := Ground.phase }, { on := 5, ground := Ground.phase }, { on := 6, ground := Ground.phase }, { on := 7, ground := Ground.phase }, { on := 8, ground := Ground.phase }, { on := 9, ground := Ground.phase }, { on := 10, ground := Ground.phase }, { on := 11, ground := Ground.phase }, { on := 12, ground := Ground.phase }, { on := 13, ground := Ground.phase }, { on := 14, ground := Ground.phase }, { on := 15, ground := Ground.phase }, { on := 16, ground := Ground.phase }, { on := 17, ground := Ground.phase }, { on := 18, ground := Ground.phase }], guard := none }) (v := ?vr19x15) rfl (by kernel_rfl) (by kernel_rfl) (by kernel_rfl) (by kernel_rfl) (fun _ _ _ h => h) (Or.inl ⟨by rfl, ?hyr19x15⟩) hH18 ?restr19x15
  case hyr19x15 =>
    intro w hSw
    try dsimp only at hSw
    go_simp
    all_goals with_reducible rfl
  (try simp only [Act.put, List.setIfInBounds_toArray, List.set_cons_zero, List.set_cons_succ])
  refine wpAnyT_one (i := 20) (o := { dst := none, op := Op.store 39 (Operand.tmp 24) (Operand.tmp 21), type := 0, pos := "mux.go:229", after := #[{ on := 19, ground := Ground.data }, { on := 14, ground := Ground.data }, { on := 18, ground := Ground.chain }, { on := 0, ground := Ground.phase }, { on := 1, ground := Ground.phase }, { on := 2, ground := Ground.phase }, { on := 3, ground := Ground.phase }, { on := 4, ground := Ground.phase }, { on := 5, ground := Ground.phase }, { on := 6, ground := Ground.phase }, { on := 7, ground := Ground.phase }, { on := 8, ground := Ground.phase }, { on := 9, ground := Ground.phase }, { on := 10, ground := Ground.phase }, { on := 11, ground := Ground.phase }, { on := 12, ground := Ground.phase }, { on := 13, ground := Ground.phase }, { on := 14, ground := Ground.phase }, { on := 15, ground := Ground.phase }, { on := 16, ground := Ground.phase }, { on := 17, ground := Ground.phase }, { on := 18, ground := Ground.phase }], guard := none }) rfl (by kernel_rfl) (fun KK hKK => ?_)
  go_simp
  refine hKK _ _ (fun h => absurd rfl h) ?_
  clear hKK KK
  (try simp only [Act.put, List.setIfInBounds_toArray, List.set_cons_zero, List.set_cons_succ])
  refine wpAnyT_done (by kernel_rfl) ?_ _
  refine NoPanic.normal ?_
  go_wp2_with fail
  go_ret
  have hw4 : ∀ k, k < w3.heap.size → k ≠ gc → (((w3.setCell ⟨gc, 0, none⟩ (.pointer (some ⟨g2, 0, none⟩))).setCell ⟨gc, 1, none⟩ (.slice A2 M.ahead.length n2)).setCell ⟨gc, 7, none⟩ (.slice A3 M.told.length n3)).heap[k]? = w3.heap[k]? := fun k _ hk => (Go.Deep.blk_setCell_other _ ⟨gc, 7, none⟩ _ k hk).trans ((Go.Deep.blk_setCell_other _ ⟨gc, 1, none⟩ _ k hk).trans (Go.Deep.blk_setCell_other w3 ⟨gc, 0, none⟩ _ k hk))
  have hb4 : (((w3.setCell ⟨gc, 0, none⟩ (.pointer (some ⟨g2, 0, none⟩))).setCell ⟨gc, 1, none⟩ (.slice A2 M.ahead.length n2)).setCell ⟨gc, 7, none⟩ (.slice A3 M.told.length n3)).heap[gc]? = some (.cells (cellsM g2 (.slice A2 M.ahead.length n2) (.slice A3 M.told.length n3) M) 71 (0, 0)) := by
    simpa [cellsM] using blk_set (blk_set (blk_set HBC.out 0 (.pointer (some ⟨g2, 0, none⟩))) 1 (.slice A2 M.ahead.length n2)) 7 (.slice A3 M.told.length n3)
  have hz4 : (((w3.setCell ⟨gc, 0, none⟩ (.pointer (some ⟨g2, 0, none⟩))).setCell ⟨gc, 1, none⟩ (.slice A2 M.ahead.length n2)).setCell ⟨gc, 7, none⟩ (.slice A3 M.told.length n3)).heap.size = w3.heap.size := by simp [World.setCell]
  have hbl4 : Below w.heap.size w (((w3.setCell ⟨gc, 0, none⟩ (.pointer (some ⟨g2, 0, none⟩))).setCell ⟨gc, 1, none⟩ (.slice A2 M.ahead.length n2)).setCell ⟨gc, 7, none⟩ (.slice A3 M.told.length n3)) := Below.setCell (Below.setCell (Below.setCell (HAB.out.trans (HB3.out.mono HAB.out.size)) (by rw [HGC.out]; exact Nat.le_refl _) _) (by rw [HGC.out]; exact Nat.le_refl _) _) (by rw [HGC.out]; exact Nat.le_refl _) _
  generalize ((w3.setCell ⟨gc, 0, none⟩ (.pointer (some ⟨g2, 0, none⟩))).setCell ⟨gc, 1, none⟩ (.slice A2 M.ahead.length n2)).setCell ⟨gc, 7, none⟩ (.slice A3 M.told.length n3) = w4 at *
  have z1 := HB1.out.size
  have z2 := HBB2.out.size
  have z3 := HBB3.out.size
  have zg := HGC.out
  have za := HAZ.out
  have zb := HW.out
  have zd : wa.drew.heap.size = wa.heap.size := rfl
  have hr1 := HR1.out b
  have hr1' : Rdr (fun k => wa.heap.size ≤ k ∧ k < w1.heap.size) b b w4 g2 M.s.at_ M.s.lacks v2 (.slice none 0 0) M.s.text M.s.out := by
    have h := hr1.step (w1 := w4) (fun k hk hl => (hw4 k (by omega) (by have := hk.1; omega)).trans ((HBB3.out.block k (by omega)).trans (HBB2.out.block k hl)))
    refine ⟨h.1, by have := h.1.1; omega, h.2.2.1, Kd.R_lower h.2.2.2.1 (by omega), ?_⟩
    rw [HM.out.2.2.2.2.2.2.2.2.1]
    exact Kd.R_nil _ _ _ _ _
  have hra : Kd.R k44 44 w4 b (fun k => (w.heap.size ≤ k ∧ k < w4.heap.size) ∧ ¬ (wa.heap.size ≤ k ∧ k < w1.heap.size)) (.slice A2 M.ahead.length n2) M.ahead := Kd.R_mono (Kd.R_lower (Kd.R_step (w1 := w4) (Kd.R_bound HR2.out) (fun k hk hl => (hw4 k (by omega) (by have := hk.2.1; omega)).trans (HBB3.out.block k hl))) (by omega)) (fun k hk => ⟨⟨by have := hk.2.1; omega, by have := hk.2.2.1; omega⟩, fun h => by have := hk.2.1; omega⟩)
  have hrb : Kd.R k42 42 w4 b (fun k => (w.heap.size ≤ k ∧ k < w4.heap.size) ∧ ¬ (wa.heap.size ≤ k ∧ k < w1.heap.size)) (.slice A3 M.told.length n3) M.told := Kd.R_mono (Kd.R_lower (Kd.R_step (w1 := w4) (Kd.R_bound HR3.out) (fun k hk hl => hw4 k hl (by have := hk.2.1; omega))) (by omega)) (fun k hk => ⟨⟨by have := hk.2.1; omega, by have := hk.2.2.1; omega⟩, fun h => by have := hk.2.1; omega⟩)
  exact ⟨gc, rfl, fun k => w.heap.size ≤ k ∧ k < w4.heap.size, fun k hk => by first | exact hk.1 | (rw [HGC.out]; exact hk.1), ⟨fun k hk => hk.2, by omega, fun k => wa.heap.size ≤ k ∧ k < w1.heap.size, g2, v2, .slice A2 M.ahead.length n2, .slice A3 M.told.length n3, ⟨⟨by omega, by omega⟩, by omega, fun h => by have := h.1; omega, fun k hk => ⟨by have := hk.1; omega, by have := hk.2; omega⟩, hb4, hr1', hra, hrb, HM.out.2.2.2.2.2.2.2.2.1, HM.out.2.2.2.2.2.2.2.2.2⟩⟩, by first | exact hbl4 | (rw [HGC.out]; exact hbl4)⟩
end Go.Proofs.Ythjjblnkaikmlaa.Mx
