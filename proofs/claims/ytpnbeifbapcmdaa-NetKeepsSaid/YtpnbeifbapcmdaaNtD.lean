/- The document's Take, walked. -/
import Derived.Test.YtpnbeifbapcmdaaNtC
import Derived.Deep.RegionLawGrows
import Derived.Handy
import Derived.Deep.RegionLaw
import Derived.Lib.SliceRun
import Derived.Lib.Bytes
namespace Go.Proofs.Ytpnbeifbapcmdaa.Nt
open Go.RowKit Go.Proofs.Ytpnbeifbapcmdaa.PNetGoes Go.Proofs.YtpnbeifbapcmdaaW.PrintWords Go.Proofs.YtpnbeifbapcmdaaW.PrintLast Go.Proofs.YtpnbeifbapcmdaaW.PrintMore
set_option linter.unusedVariables false
set_option linter.unusedSimpArgs false
attribute [local go_sem] max2_int min2_int max_two min_two
theorem step_app45 {ops : Array Oper} {o : Oper} {a : Act} {w : World} {K : Act → World → Prop} {Q : Exit → Act → World → Prop} {E : Prop}
    (hg : o.guard = none) (s x : Operand) (hop : o.op = Op.call { callee := Callee.builtin Builtin.append, args := #[s, x], argTypes := #[41, 41] })
    (base : Nat) (v : Value) (n : Nat) (xs : List Value) (hs : a.eval s = v) (hown : w.ownsRow base 45 3 v n xs)
    (ad : Addr) (m c : Nat) (news : List Value) (hx : a.eval x = .slice (some ad) m c) (hn : news.length = m * 3) (hc : ∀ j u, news[j]? = some u → w.cell? (ad.add j) = some u) (h1c : ∀ u ∈ news, u.oneCell' = true)
    (b1 : n + m ≤ 1000) (hbase : base ≤ w.heap.size)
    (hK : ∀ v' w', w'.ownsRow base 45 3 v' (n + m) (xs ++ news) → w.grownBy w' v.ownBlock → K (a.put o.dst v') w') :
    if Region.wanted o (yielded ops a.tmps) = true then Oper.wp Try.prog o a w K Q else E := by
  have hw : Region.wanted o (yielded ops a.tmps) = true := by simp [Region.wanted, hg]
  rw [if_pos hw]
  obtain ⟨i0, hi0, hz0, hz1, hz2⟩ := info_parts info45
  obtain ⟨v', w', hrun, r1, r2, _⟩ := run_append_own (P := Try.prog) w base 41 o.type 45 i0 _ 3 32 Try.underlying41 hi0 hz0 hz1 hz2 rfl (by omega) v n xs hown ad m c news hn hc h1c (by simp only [maxLen]; omega) (by omega) hbase
  unfold Oper.wp
  simp [execOp, hop, resolve, invoke, builtin, hs, hx, hrun, Result.andThen]
  exact hK v' w' r1 r2
set_option maxHeartbeats 4000000 in
set_option maxRecDepth 100000 in
theorem rtake_calls (S : Nat → Prop) (b g : Nat) (v : Value) (l : List S28) (i : Int) (w : World) (h : RB S b w g v l) (hb : b ≤ w.heap.size) (hl : l.length ≤ 200) :
    Calls Try.prog 17 #[.pointer (some ⟨g, 0, none⟩), .int .i64 i] w fun e w' => ∃ v', e = .returned (.tuple #[.agg #[.int .i64 (takeI l i).2.1.f0, .int .i64 (takeI l i).2.1.f1, .string (takeI l i).2.1.f2], .int .i64 (takeI l i).2.2]) ∧ RB (fun k => S k ∨ w.heap.size ≤ k) b w' g v' (takeI l i).1 ∧ Kept w w' S ∧ Below b w w' := by
  obtain ⟨A, c, rfl⟩ := Kd.R_slice h.2.2.2
  have H := Aside0.mk h
  have HBW := Aside0.mk hb
  have HL := Aside0.mk hl
  have hcell : w.cell? ⟨g, 0, none⟩ = some (.slice A l.length c) := (blk_cell h.2.2.1 0).trans rfl
  have hca : ∀ o, (w.alloc o).cell? ⟨g, 0, none⟩ = some (.slice A l.length c) := fun o => Lib.cell?_alloc_some o hcell
  clear h
  by_cases hi0 : i < 0
  · have e : takeI l i = (l, z28, 4) := by unfold takeI; rw [if_pos (.inl hi0)]
    have E := Aside0.mk e
    clear e
    go_enter Try.func17, Try.ntmps17
    go_wp2_with fail
    go_returns
    rw [E.out]
    first | exact ⟨_, rfl, (H.out.step fun k _ hlt => Below.heap_alloc _ _ _ hlt).mono (fun k hk => .inl hk), Kept.of_below (below_alloc (Below.refl w.heap.size w) _) S, (below_alloc (Below.refl w.heap.size w) _).mono HBW.out⟩ | exact ⟨rfl, ⟨_, (H.out.step fun k _ hlt => Below.heap_alloc _ _ _ hlt).mono (fun k hk => .inl hk)⟩, Kept.of_below (below_alloc (Below.refl w.heap.size w) _) S, (below_alloc (Below.refl w.heap.size w) _).mono HBW.out⟩
  · by_cases hi1 : (l.length : Int) ≤ i
    · have e : takeI l i = (l, z28, 4) := by unfold takeI; rw [if_pos (.inr hi1)]
      have E := Aside0.mk e
      clear e
      go_enter Try.func17, Try.ntmps17
      go_wp2_with fail
      go_returns
      rw [E.out]
      first | exact ⟨_, rfl, (H.out.step fun k _ hlt => Below.heap_alloc _ _ _ hlt).mono (fun k hk => .inl hk), Kept.of_below (below_alloc (Below.refl w.heap.size w) _) S, (below_alloc (Below.refl w.heap.size w) _).mono HBW.out⟩ | exact ⟨rfl, ⟨_, (H.out.step fun k _ hlt => Below.heap_alloc _ _ _ hlt).mono (fun k hk => .inl hk)⟩, Kept.of_below (below_alloc (Below.refl w.heap.size w) _) S, (below_alloc (Below.refl w.heap.size w) _).mono HBW.out⟩
    · have e : takeI l i = (l.eraseIdx i.toNat, rd_T28 l i, 0) := by unfold takeI; rw [if_neg (by omega)]
      obtain ⟨j, rfl⟩ : ∃ j : Nat, i = (j : Int) := ⟨i.toNat, by omega⟩
      rw [Int.toNat_natCast] at e
      have hj : j < l.length := by omega
      obtain ⟨m, hm⟩ : ∃ m, l.length = m + 1 := ⟨l.length - 1, by omega⟩
      obtain ⟨x, hx⟩ : ∃ x, x = rd_T28 l (j : Int) := ⟨_, rfl⟩
      have hrd := Kd.R_reads' H.out.2.2.2
      obtain ⟨ad, eA, x0, x1, x2⟩ := at_T28 hrd.2.2 (j : Int) (by omega) (by omega)
      rw [Int.toNat_natCast, ← hx] at x0 x1 x2
      rw [← hx] at e
      have E := Aside0.mk e
      have HX := Aside0.mk (And.intro x0 (And.intro x1 x2))
      have hw1 : IntKind.i64.wrap ((j : Int) + 1) = (j : Int) + 1 := by rw [IntKind.wrap_i64]; have := HL.out; omega
      obtain ⟨q, cur, e1, hq, hcs, hcap, hfl, hqS⟩ : ∃ q cur, A = some ⟨q, 0, none⟩ ∧ w.heap[q]? = some (.cells cur 45 (0, 0)) ∧ cur.size = c * 3 ∧ l.length ≤ c ∧ cur.toList.take (l.length * 3) = flat l ∧ S q ∧ b ≤ q ∧ c ≤ maxLen := by
        obtain ⟨h1, hl', ho⟩ := row_iff.1 H.out.2.2.2
        rcases ho with ⟨_, h2⟩ | ⟨g', cap, cur, a1, a2, a3, a4, a5, a6, a7⟩
        · omega
        · injection a1 with b1 b2 b3
          subst b3
          exact ⟨g', cur, b1, a3, a6, a4, a7, h1 g' (by rw [b1]; rfl), a2, a5⟩
      subst e1
      have HQ := Aside0.mk (And.intro hq (And.intro hcs (And.intro hcap (And.intro hfl hqS))))
      have hgq : g ≠ q := blk_ne H.out.2.2.1 hq (by decide)
      have HGQ := Aside0.mk hgq
      injection eA with eA
      subst eA
      have hjm : (j : Int) ≤ (m : Int) := by omega
      rw [hm] at hcell hi1
      have hca2 : ∀ o, (w.alloc o).cell? ⟨g, 0, none⟩ = some (.slice (some ⟨q, 0, none⟩) (m + 1) c) := fun o => by rw [hca o, hm]
      have hxa : ∀ o, (w.alloc o).cell? ⟨q, j * 3, none⟩ = some (.int .i64 x.f0) ∧ (w.alloc o).cell? ⟨q, j * 3 + 1, none⟩ = some (.int .i64 x.f1) ∧ (w.alloc o).cell? ⟨q, j * 3 + 2, none⟩ = some (.string x.f2) := by
        have hadd : (⟨q, 0, none⟩ : Addr).add (j * 3) = ⟨q, j * 3, none⟩ := by unfold Addr.add; split <;> simp_all
        rw [hadd] at x0 x1 x2
        exact fun o => ⟨Lib.cell?_alloc_some o x0, Lib.cell?_alloc_some o x1, Lib.cell?_alloc_some o x2⟩
      have hca3 : ∀ o o', ((w.alloc o).alloc o').cell? ⟨g, 0, none⟩ = some (.slice (some ⟨q, 0, none⟩) (m + 1) c) := fun o o' => Lib.cell?_alloc_some o' (hca2 o)
      clear hca x0 x1 x2
      have HJ := Aside0.mk hj
      have HM := Aside0.mk hm
      have hi2 : ¬ ((m : Int) + 1 ≤ (j : Int)) := by omega
      clear hi1
      clear e hx hrd hq hcs hcap hfl hqS hj hm hgq
      go_enter Try.func17, Try.ntmps17
      go_wp2_with fail
      have hbl1 := below_alloc (Below.refl w.heap.size w) (.cells #[.int .i64 0, .int .i64 0, .string ⟨#[]⟩] 45)
      have hbl2 := below_alloc hbl1 (.cells #[.int .i64 x.f0, .int .i64 x.f1, .string x.f2] 45)
      have hblk0 := heap_alloc_new w (.cells #[.int .i64 0, .int .i64 0, .string ⟨#[]⟩] 45)
      have hsz1 : (w.alloc (.cells #[.int .i64 0, .int .i64 0, .string ⟨#[]⟩] 45)).heap.size = w.heap.size + 1 := by simp
      have hblk1 := heap_alloc_new (w.alloc (.cells #[.int .i64 0, .int .i64 0, .string ⟨#[]⟩] 45)) (.cells #[.int .i64 x.f0, .int .i64 x.f1, .string x.f2] 45)
      have hblk0' := (Below.heap_alloc (w.alloc (.cells #[.int .i64 0, .int .i64 0, .string ⟨#[]⟩] 45)) (.cells #[.int .i64 x.f0, .int .i64 x.f1, .string x.f2] 45) w.heap.size (by omega)).trans hblk0
      rw [hsz1] at hblk1
      have hq2 := (hbl2.block q (blk_lt HQ.out.1)).trans HQ.out.1
      have hg2 := (hbl2.block g (blk_lt H.out.2.2.1)).trans H.out.2.2.1
      clear hblk0 hsz1
      have hxl := hca3
      clear hca2 hxa hca3 hxl
      generalize (w.alloc (.cells #[.int .i64 0, .int .i64 0, .string ⟨#[]⟩] 45)).alloc (.cells #[.int .i64 x.f0, .int .i64 x.f1, .string x.f2] 45) = W2 at *
      have hlt1 := blk_lt H.out.2.2.1
      have hlt2 := blk_lt HQ.out.1
      obtain ⟨z, hz⟩ : ∃ z, z = w.heap.size := ⟨_, rfl⟩
      rw [← hz] at hlt1 hlt2 hblk0' hblk1 ⊢
      obtain ⟨news1, hn1⟩ : ∃ x, x = (flat l).take (j * 3) := ⟨_, rfl⟩
      obtain ⟨news2, hn2⟩ : ∃ x, x = (flat l).drop ((j + 1) * 3) := ⟨_, rfl⟩
      have hfl := flat_len l
      have hjl := HJ.out
      have hml := HM.out
      have hlc := HQ.out.2.2.1
      have hl1 : news1.length = j * 3 := by rw [hn1, List.length_take, hfl]; omega
      have hl2 : news2.length = (m - j) * 3 := by rw [hn2, List.length_drop, hfl]; omega
      have hcur : ∀ t u, (flat l)[t]? = some u → cur[t]? = some u := fun t u hu => by
        rw [← HQ.out.2.2.2.1, List.getElem?_take] at hu
        split at hu
        · simpa using hu
        · cases hu
      have hr1 : ∀ W : World, W.heap[q]? = some (.cells cur 45 (0, 0)) → ∀ t u, news1[t]? = some u → W.cell? ((⟨q, 0, none⟩ : Addr).add t) = some u := fun W hW t u hu => by
        have hadd : (⟨q, 0, none⟩ : Addr).add t = ⟨q, t, none⟩ := by unfold Addr.add; split <;> simp_all
        rw [hadd, cell_of_row W q t cur 45 (0, 0) hW]
        rw [hn1, List.getElem?_take] at hu
        split at hu
        · exact hcur t u hu
        · cases hu
      obtain ⟨ad, hA, hr2⟩ : ∃ ad : Addr, ((c = j + 1) = True ∧ ad = ⟨q, 0, none⟩ ∨ (c = j + 1) = False ∧ ad = ⟨q, (j + 1) * 3, none⟩) ∧ Aside0 (∀ W : World, W.heap[q]? = some (.cells cur 45 (0, 0)) → ∀ t u, news2[t]? = some u → W.cell? (ad.add t) = some u) := by
        by_cases h : c = j + 1
        · refine ⟨⟨q, 0, none⟩, .inl ⟨eq_true h, rfl⟩, ⟨fun W hW t u hu => ?_⟩⟩
          have := (List.getElem?_eq_some_iff.1 hu).1
          rw [hl2] at this
          omega
        · refine ⟨⟨q, (j + 1) * 3, none⟩, .inr ⟨eq_false h, rfl⟩, ⟨fun W hW t u hu => ?_⟩⟩
          have hadd : (⟨q, (j + 1) * 3, none⟩ : Addr).add t = ⟨q, (j + 1) * 3 + t, none⟩ := by unfold Addr.add; split <;> simp_all
          rw [hadd, cell_of_row W q _ cur 45 (0, 0) hW]
          rw [hn2, List.getElem?_drop] at hu
          exact hcur _ u hu
      have hcat : news1 ++ news2 = flat (l.eraseIdx j) := by rw [hn1, hn2, flat_take, flat_drop, ← flat_app, List.eraseIdx_eq_take_drop_succ]
      have ho1 : ∀ u ∈ news1, u.oneCell' = true := fun u hu => one_cell l u (List.mem_of_mem_take (hn1 ▸ hu))
      have ho2 : ∀ u ∈ news2, u.oneCell' = true := fun u hu => one_cell l u (List.mem_of_mem_drop (hn2 ▸ hu))
      have HN1 := Aside0.mk hl1
      have HN2 := Aside0.mk hl2
      have HR1 := Aside0.mk hr1
      have HO1 := Aside0.mk ho1
      have HO2 := Aside0.mk ho2
      have HCAT := Aside0.mk hcat
      have hq1 : j ≤ c := by omega
      have hq3 : j + 1 ≤ c := by omega
      have hq4 : j ≤ m := by omega
      have hq5 : (0 : Int) ≤ (j : Int) := by omega
      have hq6 : (0 : Int) ≤ (j : Int) + 1 := by omega
      have hbd : m < 200 := by have := HL.out; omega
      have HBD := Aside0.mk (And.intro hbd hq4)
      have hHeld : (fun w' => w'.cell? ⟨g, 0, none⟩ = some (.slice (some ⟨q, 0, none⟩) (m + 1) c)) W2.drew := (blk_cell hg2 0).trans (by rw [hml]; rfl)
      have hlt9 : z + 1 < W2.heap.size := blk_lt hblk1
      have HG2 := Aside0.mk hg2
      have HQ2 := Aside0.mk hq2
      have HB1 := Aside0.mk hblk1
      have HB0 := Aside0.mk hblk0'
      have HLT := Aside0.mk (And.intro hlt1 (And.intro hlt2 hlt9))
      have HBL2 := Aside0.mk hbl2
      have HZ := Aside0.mk hz
      clear hn1 hn2 hfl hjl hml hlc hl1 hl2 hcur hr1 hcat ho1 ho2 hbd hlt9 hq2 hblk1 hblk0' hlt1 hlt2 hbl2 hz hg2 hcell hbl1
      rcases hA with ⟨hcc, rfl⟩ | ⟨hcc, rfl⟩
      refine wp_region_noPanic ?_
      refine wp_region_any (by kernel_rfl) ?_
      change wpAny _ _ _ _ _ _ _ (World.drew _)
      refine wpAny_of_T (S := (fun w' => w'.cell? ⟨g, 0, none⟩ = some (.slice (some ⟨q, 0, none⟩) (m + 1) c))) (t := 18) _ _ _ _ ?_
      refine wpAnyT_take (i := 0) (oi := { dst := some 26, op := Op.move (Operand.tmp 0), type := 40, pos := "ref.go:35", after := #[], guard := none }) (v := ?vq0x1) rfl (by kernel_rfl) (by kernel_rfl) (by kernel_rfl) (by kernel_rfl) (fun _ _ _ h => h) (Or.inl ⟨by rfl, ?hyq0x1⟩) hHeld ?restq0x1
      case hyq0x1 =>
        intro w hSw
        try dsimp only at hSw
        go_simp
        all_goals with_reducible rfl
      (try simp only [Act.put, List.setIfInBounds_toArray, List.set_cons_zero, List.set_cons_succ])
      refine wpAnyT_take (i := 1) (oi := { dst := some 27, op := Op.move (Operand.tmp 0), type := 40, pos := "ref.go:35", after := #[], guard := none }) (v := ?vq1x2) rfl (by kernel_rfl) (by kernel_rfl) (by kernel_rfl) (by kernel_rfl) (fun _ _ _ h => h) (Or.inl ⟨by rfl, ?hyq1x2⟩) hHeld ?restq1x2
      case hyq1x2 =>
        intro w hSw
        try dsimp only at hSw
        go_simp
        all_goals with_reducible rfl
      (try simp only [Act.put, List.setIfInBounds_toArray, List.set_cons_zero, List.set_cons_succ])
      refine wpAnyT_take (i := 2) (oi := { dst := some 28, op := Op.nilCheck (Operand.tmp 27), type := 0, pos := "ref.go:35", after := #[{ on := 1, ground := Ground.data }], guard := none }) (v := ?vq2x3) rfl (by kernel_rfl) (by kernel_rfl) (by kernel_rfl) (by kernel_rfl) (fun _ _ _ h => h) (Or.inl ⟨by rfl, ?hyq2x3⟩) hHeld ?restq2x3
      case hyq2x3 =>
        intro w hSw
        try dsimp only at hSw
        go_simp
        all_goals with_reducible rfl
      (try simp only [Act.put, List.setIfInBounds_toArray, List.set_cons_zero, List.set_cons_succ])
      refine wpAnyT_take (i := 3) (oi := { dst := some 29, op := Op.fieldAddr 43 (Operand.tmp 28) 0, type := 0, pos := "ref.go:35", after := #[{ on := 2, ground := Ground.data }], guard := none }) (v := ?vq3x4) rfl (by kernel_rfl) (by kernel_rfl) (by kernel_rfl) (by kernel_rfl) (fun _ _ _ h => h) (Or.inl ⟨by rfl, ?hyq3x4⟩) hHeld ?restq3x4
      case hyq3x4 =>
        intro w hSw
        try dsimp only at hSw
        go_simp
        all_goals with_reducible rfl
      (try simp only [Act.put, List.setIfInBounds_toArray, List.set_cons_zero, List.set_cons_succ])
      refine wpAnyT_take (i := 4) (oi := { dst := some 30, op := Op.load 41 (Operand.tmp 29), type := 41, pos := "ref.go:35", after := #[{ on := 3, ground := Ground.data }], guard := none }) (v := ?vq4x5) rfl (by kernel_rfl) (by kernel_rfl) (by kernel_rfl) (by kernel_rfl) (fun _ _ _ h => h) (Or.inl ⟨by rfl, ?hyq4x5⟩) hHeld ?restq4x5
      case hyq4x5 =>
        intro w hSw
        try dsimp only at hSw
        go_simp
        all_goals with_reducible rfl
      (try simp only [Act.put, List.setIfInBounds_toArray, List.set_cons_zero, List.set_cons_succ])
      refine wpAnyT_take (i := 5) (oi := { dst := some 31, op := Op.move (Operand.tmp 1), type := 3, pos := "ref.go:35", after := #[], guard := none }) (v := ?vq5x6) rfl (by kernel_rfl) (by kernel_rfl) (by kernel_rfl) (by kernel_rfl) (fun _ _ _ h => h) (Or.inl ⟨by rfl, ?hyq5x6⟩) hHeld ?restq5x6
      case hyq5x6 =>
        intro w hSw
        try dsimp only at hSw
        go_simp
        all_goals with_reducible rfl
      (try simp only [Act.put, List.setIfInBounds_toArray, List.set_cons_zero, List.set_cons_succ])
      refine wpAnyT_take (i := 6) (oi := { dst := some 32, op := Op.slice 41 (Operand.tmp 30) none (some (Operand.tmp 31)) none, type := 41, pos := "ref.go:35", after := #[{ on := 4, ground := Ground.data }, { on := 5, ground := Ground.data }], guard := none }) (v := ?vq6x7) rfl (by kernel_rfl) (by kernel_rfl) (by kernel_rfl) (by kernel_rfl) (fun _ _ _ h => h) (Or.inl ⟨by rfl, ?hyq6x7⟩) hHeld ?restq6x7
      case hyq6x7 =>
        intro w hSw
        try dsimp only at hSw
        go_simp
        all_goals with_reducible rfl
      (try simp only [Act.put, List.setIfInBounds_toArray, List.set_cons_zero, List.set_cons_succ])
      refine wpAnyT_take (i := 8) (oi := { dst := some 34, op := Op.move (Operand.tmp 0), type := 40, pos := "ref.go:35", after := #[], guard := none }) (v := ?vq8x8) rfl (by kernel_rfl) (by kernel_rfl) (by kernel_rfl) (by kernel_rfl) (fun _ _ _ h => h) (Or.inl ⟨by rfl, ?hyq8x8⟩) hHeld ?restq8x8
      case hyq8x8 =>
        intro w hSw
        try dsimp only at hSw
        go_simp
        all_goals with_reducible rfl
      (try simp only [Act.put, List.setIfInBounds_toArray, List.set_cons_zero, List.set_cons_succ])
      refine wpAnyT_take (i := 9) (oi := { dst := some 35, op := Op.nilCheck (Operand.tmp 34), type := 0, pos := "ref.go:35", after := #[{ on := 8, ground := Ground.data }], guard := none }) (v := ?vq9x9) rfl (by kernel_rfl) (by kernel_rfl) (by kernel_rfl) (by kernel_rfl) (fun _ _ _ h => h) (Or.inl ⟨by rfl, ?hyq9x9⟩) hHeld ?restq9x9
      case hyq9x9 =>
        intro w hSw
        try dsimp only at hSw
        go_simp
        all_goals with_reducible rfl
      (try simp only [Act.put, List.setIfInBounds_toArray, List.set_cons_zero, List.set_cons_succ])
      refine wpAnyT_take (i := 10) (oi := { dst := some 36, op := Op.fieldAddr 43 (Operand.tmp 35) 0, type := 0, pos := "ref.go:35", after := #[{ on := 9, ground := Ground.data }], guard := none }) (v := ?vq10x10) rfl (by kernel_rfl) (by kernel_rfl) (by kernel_rfl) (by kernel_rfl) (fun _ _ _ h => h) (Or.inl ⟨by rfl, ?hyq10x10⟩) hHeld ?restq10x10
      case hyq10x10 =>
        intro w hSw
        try dsimp only at hSw
        go_simp
        all_goals with_reducible rfl
      (try simp only [Act.put, List.setIfInBounds_toArray, List.set_cons_zero, List.set_cons_succ])
      refine wpAnyT_take (i := 11) (oi := { dst := some 37, op := Op.load 41 (Operand.tmp 36), type := 41, pos := "ref.go:35", after := #[{ on := 10, ground := Ground.data }], guard := none }) (v := ?vq11x11) rfl (by kernel_rfl) (by kernel_rfl) (by kernel_rfl) (by kernel_rfl) (fun _ _ _ h => h) (Or.inl ⟨by rfl, ?hyq11x11⟩) hHeld ?restq11x11
      case hyq11x11 =>
        intro w hSw
        try dsimp only at hSw
        go_simp
        all_goals with_reducible rfl
      (try simp only [Act.put, List.setIfInBounds_toArray, List.set_cons_zero, List.set_cons_succ])
      refine wpAnyT_take (i := 12) (oi := { dst := some 38, op := Op.move (Operand.tmp 1), type := 3, pos := "ref.go:35", after := #[], guard := none }) (v := ?vq12x12) rfl (by kernel_rfl) (by kernel_rfl) (by kernel_rfl) (by kernel_rfl) (fun _ _ _ h => h) (Or.inl ⟨by rfl, ?hyq12x12⟩) hHeld ?restq12x12
      case hyq12x12 =>
        intro w hSw
        try dsimp only at hSw
        go_simp
        all_goals with_reducible rfl
      (try simp only [Act.put, List.setIfInBounds_toArray, List.set_cons_zero, List.set_cons_succ])
      refine wpAnyT_take (i := 13) (oi := { dst := some 39, op := Op.binOp BinOp.add 3 (Operand.tmp 38) (Operand.const (Value.int IntKind.i64 1)) 3, type := 3, pos := "ref.go:35", after := #[{ on := 12, ground := Ground.data }], guard := none }) (v := ?vq13x13) rfl (by kernel_rfl) (by kernel_rfl) (by kernel_rfl) (by kernel_rfl) (fun _ _ _ h => h) (Or.inl ⟨by rfl, ?hyq13x13⟩) hHeld ?restq13x13
      case hyq13x13 =>
        intro w hSw
        try dsimp only at hSw
        go_simp
        all_goals with_reducible rfl
      (try simp only [Act.put, List.setIfInBounds_toArray, List.set_cons_zero, List.set_cons_succ])
      refine wpAnyT_take (i := 14) (oi := { dst := some 40, op := Op.slice 41 (Operand.tmp 37) (some (Operand.tmp 39)) none none, type := 41, pos := "ref.go:35", after := #[{ on := 11, ground := Ground.data }, { on := 13, ground := Ground.data }], guard := none }) (v := ?vq14x14) rfl (by kernel_rfl) (by kernel_rfl) (by kernel_rfl) (by kernel_rfl) (fun _ _ _ h => h) (Or.inl ⟨by rfl, ?hyq14x14⟩) hHeld ?restq14x14
      case hyq14x14 =>
        intro w hSw
        try dsimp only at hSw
        go_simp
        all_goals with_reducible rfl
      (try simp only [Act.put, List.setIfInBounds_toArray, List.set_cons_zero, List.set_cons_succ])
      refine wpAnyT_one (i := 7) (o := { dst := some 33, op := Op.call { callee := Callee.builtin Builtin.append, args := #[Operand.const (Value.slice none 0 0), Operand.tmp 32], argTypes := #[41, 41] }, type := 41, pos := "ref.go:35", after := #[{ on := 6, ground := Ground.data }], guard := none }) rfl (by kernel_rfl) (fun KK hKK => ?_)
      (refine step_app45 (by rfl) (.const (.slice none 0 0)) (.tmp 32) (by rfl) W2.heap.size (.slice none 0 0) 0 [] (by rfl) (World.ownsRow_nil _ _ 45 3) ⟨q, 0, none⟩ j c news1 (by rfl) HN1.out (HR1.out W2.drew HQ2.out) HO1.out (by have := HBD.out; omega) (Nat.le_refl _) ?_; intro v1 w4 hown1 hg1)
      rw [List.nil_append, Nat.zero_add] at hown1
      have hf4 : ∀ k, k < W2.heap.size → w4.heap[k]? = W2.heap[k]? := fun k hk => hg1.block k hk (by simp [Value.ownBlock])
      have hH7 : (fun w' => w'.cell? ⟨g, 0, none⟩ = some (.slice (some ⟨q, 0, none⟩) (m + 1) c)) w4 := (blk_cell ((hf4 g (blk_lt HG2.out)).trans HG2.out) 0).trans (by rw [HM.out]; rfl)
      have HOWN1 := Aside0.mk hown1
      have HF4 := Aside0.mk hf4
      have HG1 := Aside0.mk hg1
      clear hown1 hf4 hg1
      refine hKK _ _ (fun _ => hH7) ?_
      clear hKK KK
      (try simp only [Act.put, List.setIfInBounds_toArray, List.set_cons_zero, List.set_cons_succ])
      refine wpAnyT_one (i := 15) (o := { dst := some 41, op := Op.call { callee := Callee.builtin Builtin.append, args := #[Operand.tmp 33, Operand.tmp 40], argTypes := #[41, 41] }, type := 41, pos := "ref.go:35", after := #[{ on := 7, ground := Ground.data }, { on := 14, ground := Ground.data }, { on := 7, ground := Ground.chain }], guard := none }) rfl (by kernel_rfl) (fun KK hKK => ?_)
      (refine step_app45 (by rfl) (.tmp 33) (.tmp 40) (by rfl) W2.heap.size v1 j news1 (by rfl) HOWN1.out _ (m - j) (c - (j + 1)) news2 (by rfl) HN2.out (hr2.out w4 ((HF4.out q (blk_lt HQ2.out)).trans HQ2.out)) HO2.out (by have := HBD.out; omega) HG1.out.size ?_; intro v2 w3 hown2 hg2)
      rw [show j + (m - j) = m by have := HBD.out; omega] at hown2
      obtain ⟨A2, c2, e2⟩ : ∃ A2 c2, v2 = .slice A2 m c2 := (by obtain ⟨_, ho⟩ := hown2; rcases ho with ⟨h1, h2⟩ | ⟨g', cap, cur, h1, _⟩; exact ⟨none, 0, by rw [h1, h2]⟩; exact ⟨_, _, h1⟩)
      subst e2
      have hf5 : ∀ k, k < W2.heap.size → w3.heap[k]? = W2.heap[k]? := fun k hk => (hg2.block k (Nat.lt_of_lt_of_le hk HG1.out.size) (fun e => by have := own_base HOWN1.out k e.symm; omega)).trans (HF4.out k hk)
      have g0 := (hf5 g (blk_lt HG2.out)).trans HG2.out
      have hH15 : (fun w' => w'.cell? ⟨g, 0, none⟩ = some (.slice (some ⟨q, 0, none⟩) (m + 1) c)) w3 := (blk_cell g0 0).trans (by rw [HM.out]; rfl)
      have hgF : w3.frozen? ⟨g, 0, none⟩ = false := blk_frozen g0 0
      have HF5 := Aside0.mk hf5
      have HG5 := Aside0.mk hg2
      have HOWN2 := Aside0.mk hown2
      have G0 := Aside0.mk g0
      clear hf5 hg2 hown2 g0
      refine hKK _ _ (fun _ => hH15) ?_
      clear hKK KK
      (try simp only [Act.put, List.setIfInBounds_toArray, List.set_cons_zero, List.set_cons_succ])
      refine wpAnyT_one (i := 16) (o := { dst := some 42, op := Op.nilCheck (Operand.tmp 26), type := 0, pos := "ref.go:35", after := #[{ on := 0, ground := Ground.data }, { on := 0, ground := Ground.phase }, { on := 1, ground := Ground.phase }, { on := 2, ground := Ground.phase }, { on := 3, ground := Ground.phase }, { on := 4, ground := Ground.phase }, { on := 5, ground := Ground.phase }, { on := 6, ground := Ground.phase }, { on := 7, ground := Ground.phase }, { on := 8, ground := Ground.phase }, { on := 9, ground := Ground.phase }, { on := 10, ground := Ground.phase }, { on := 11, ground := Ground.phase }, { on := 12, ground := Ground.phase }, { on := 13, ground := Ground.phase }, { on := 14, ground := Ground.phase }, { on := 15, ground := Ground.phase }], guard := none }) rfl (by kernel_rfl) (fun KK hKK => ?_)
      go_simp
      refine hKK _ _ (fun _ => hH15) ?_
      clear hKK KK
      (try simp only [Act.put, List.setIfInBounds_toArray, List.set_cons_zero, List.set_cons_succ])
      refine wpAnyT_take (i := 17) (oi := { dst := some 43, op := Op.fieldAddr 43 (Operand.tmp 42) 0, type := 0, pos := "ref.go:35", after := #[{ on := 16, ground := Ground.data }, { on := 0, ground := Ground.phase }, { on := 1, ground := Ground.phase }, { on := 2, ground := Ground.phase }, { on := 3, ground := Ground.phase }, { on := 4, ground := Ground.phase }, { on := 5, ground := Ground.phase }, { on := 6, ground := Ground.phase }, { on := 7, ground := Ground.phase }, { on := 8, ground := Ground.phase }, { on := 9, ground := Ground.phase }, { on := 10, ground := Ground.phase }, { on := 11, ground := Ground.phase }, { on := 12, ground := Ground.phase }, { on := 13, ground := Ground.phase }, { on := 14, ground := Ground.phase }, { on := 15, ground := Ground.phase }], guard := none }) (v := ?vq17x15) rfl (by kernel_rfl) (by kernel_rfl) (by kernel_rfl) (by kernel_rfl) (fun _ _ _ h => h) (Or.inl ⟨by rfl, ?hyq17x15⟩) hH15 ?restq17x15
      case hyq17x15 =>
        intro w hSw
        try dsimp only at hSw
        go_simp
        all_goals with_reducible rfl
      (try simp only [Act.put, List.setIfInBounds_toArray, List.set_cons_zero, List.set_cons_succ])
      refine wpAnyT_one (i := 18) (o := { dst := none, op := Op.store 41 (Operand.tmp 43) (Operand.tmp 41), type := 0, pos := "ref.go:35", after := #[{ on := 17, ground := Ground.data }, { on := 15, ground := Ground.data }, { on := 15, ground := Ground.chain }, { on := 0, ground := Ground.phase }, { on := 1, ground := Ground.phase }, { on := 2, ground := Ground.phase }, { on := 3, ground := Ground.phase }, { on := 4, ground := Ground.phase }, { on := 5, ground := Ground.phase }, { on := 6, ground := Ground.phase }, { on := 7, ground := Ground.phase }, { on := 8, ground := Ground.phase }, { on := 9, ground := Ground.phase }, { on := 10, ground := Ground.phase }, { on := 11, ground := Ground.phase }, { on := 12, ground := Ground.phase }, { on := 13, ground := Ground.phase }, { on := 14, ground := Ground.phase }, { on := 15, ground := Ground.phase }], guard := none }) rfl (by kernel_rfl) (fun KK hKK => ?_)
      go_simp
      refine hKK _ _ (fun h => absurd rfl h) ?_
      clear hKK KK
      (try simp only [Act.put, List.setIfInBounds_toArray, List.set_cons_zero, List.set_cons_succ])
      refine wpAnyT_done (by kernel_rfl) ?_ _
      refine NoPanic.normal ?_
      rotate_left 1
      refine wp_region_noPanic ?_
      refine wp_region_any (by kernel_rfl) ?_
      change wpAny _ _ _ _ _ _ _ (World.drew _)
      refine wpAny_of_T (S := (fun w' => w'.cell? ⟨g, 0, none⟩ = some (.slice (some ⟨q, 0, none⟩) (m + 1) c))) (t := 18) _ _ _ _ ?_
      refine wpAnyT_take (i := 0) (oi := { dst := some 26, op := Op.move (Operand.tmp 0), type := 40, pos := "ref.go:35", after := #[], guard := none }) (v := ?vp0x1) rfl (by kernel_rfl) (by kernel_rfl) (by kernel_rfl) (by kernel_rfl) (fun _ _ _ h => h) (Or.inl ⟨by rfl, ?hyp0x1⟩) hHeld ?restp0x1
      case hyp0x1 =>
        intro w hSw
        try dsimp only at hSw
        go_simp
        all_goals with_reducible rfl
      (try simp only [Act.put, List.setIfInBounds_toArray, List.set_cons_zero, List.set_cons_succ])
      refine wpAnyT_take (i := 1) (oi := { dst := some 27, op := Op.move (Operand.tmp 0), type := 40, pos := "ref.go:35", after := #[], guard := none }) (v := ?vp1x2) rfl (by kernel_rfl) (by kernel_rfl) (by kernel_rfl) (by kernel_rfl) (fun _ _ _ h => h) (Or.inl ⟨by rfl, ?hyp1x2⟩) hHeld ?restp1x2
      case hyp1x2 =>
        intro w hSw
        try dsimp only at hSw
        go_simp
        all_goals with_reducible rfl
      (try simp only [Act.put, List.setIfInBounds_toArray, List.set_cons_zero, List.set_cons_succ])
      refine wpAnyT_take (i := 2) (oi := { dst := some 28, op := Op.nilCheck (Operand.tmp 27), type := 0, pos := "ref.go:35", after := #[{ on := 1, ground := Ground.data }], guard := none }) (v := ?vp2x3) rfl (by kernel_rfl) (by kernel_rfl) (by kernel_rfl) (by kernel_rfl) (fun _ _ _ h => h) (Or.inl ⟨by rfl, ?hyp2x3⟩) hHeld ?restp2x3
      case hyp2x3 =>
        intro w hSw
        try dsimp only at hSw
        go_simp
        all_goals with_reducible rfl
      (try simp only [Act.put, List.setIfInBounds_toArray, List.set_cons_zero, List.set_cons_succ])
      refine wpAnyT_take (i := 3) (oi := { dst := some 29, op := Op.fieldAddr 43 (Operand.tmp 28) 0, type := 0, pos := "ref.go:35", after := #[{ on := 2, ground := Ground.data }], guard := none }) (v := ?vp3x4) rfl (by kernel_rfl) (by kernel_rfl) (by kernel_rfl) (by kernel_rfl) (fun _ _ _ h => h) (Or.inl ⟨by rfl, ?hyp3x4⟩) hHeld ?restp3x4
      case hyp3x4 =>
        intro w hSw
        try dsimp only at hSw
        go_simp
        all_goals with_reducible rfl
      (try simp only [Act.put, List.setIfInBounds_toArray, List.set_cons_zero, List.set_cons_succ])
      refine wpAnyT_take (i := 4) (oi := { dst := some 30, op := Op.load 41 (Operand.tmp 29), type := 41, pos := "ref.go:35", after := #[{ on := 3, ground := Ground.data }], guard := none }) (v := ?vp4x5) rfl (by kernel_rfl) (by kernel_rfl) (by kernel_rfl) (by kernel_rfl) (fun _ _ _ h => h) (Or.inl ⟨by rfl, ?hyp4x5⟩) hHeld ?restp4x5
      case hyp4x5 =>
        intro w hSw
        try dsimp only at hSw
        go_simp
        all_goals with_reducible rfl
      (try simp only [Act.put, List.setIfInBounds_toArray, List.set_cons_zero, List.set_cons_succ])
      refine wpAnyT_take (i := 5) (oi := { dst := some 31, op := Op.move (Operand.tmp 1), type := 3, pos := "ref.go:35", after := #[], guard := none }) (v := ?vp5x6) rfl (by kernel_rfl) (by kernel_rfl) (by kernel_rfl) (by kernel_rfl) (fun _ _ _ h => h) (Or.inl ⟨by rfl, ?hyp5x6⟩) hHeld ?restp5x6
      case hyp5x6 =>
        intro w hSw
        try dsimp only at hSw
        go_simp
        all_goals with_reducible rfl
      (try simp only [Act.put, List.setIfInBounds_toArray, List.set_cons_zero, List.set_cons_succ])
      refine wpAnyT_take (i := 6) (oi := { dst := some 32, op := Op.slice 41 (Operand.tmp 30) none (some (Operand.tmp 31)) none, type := 41, pos := "ref.go:35", after := #[{ on := 4, ground := Ground.data }, { on := 5, ground := Ground.data }], guard := none }) (v := ?vp6x7) rfl (by kernel_rfl) (by kernel_rfl) (by kernel_rfl) (by kernel_rfl) (fun _ _ _ h => h) (Or.inl ⟨by rfl, ?hyp6x7⟩) hHeld ?restp6x7
      case hyp6x7 =>
        intro w hSw
        try dsimp only at hSw
        go_simp
        all_goals with_reducible rfl
      (try simp only [Act.put, List.setIfInBounds_toArray, List.set_cons_zero, List.set_cons_succ])
      refine wpAnyT_take (i := 8) (oi := { dst := some 34, op := Op.move (Operand.tmp 0), type := 40, pos := "ref.go:35", after := #[], guard := none }) (v := ?vp8x8) rfl (by kernel_rfl) (by kernel_rfl) (by kernel_rfl) (by kernel_rfl) (fun _ _ _ h => h) (Or.inl ⟨by rfl, ?hyp8x8⟩) hHeld ?restp8x8
      case hyp8x8 =>
        intro w hSw
        try dsimp only at hSw
        go_simp
        all_goals with_reducible rfl
      (try simp only [Act.put, List.setIfInBounds_toArray, List.set_cons_zero, List.set_cons_succ])
      refine wpAnyT_take (i := 9) (oi := { dst := some 35, op := Op.nilCheck (Operand.tmp 34), type := 0, pos := "ref.go:35", after := #[{ on := 8, ground := Ground.data }], guard := none }) (v := ?vp9x9) rfl (by kernel_rfl) (by kernel_rfl) (by kernel_rfl) (by kernel_rfl) (fun _ _ _ h => h) (Or.inl ⟨by rfl, ?hyp9x9⟩) hHeld ?restp9x9
      case hyp9x9 =>
        intro w hSw
        try dsimp only at hSw
        go_simp
        all_goals with_reducible rfl
      (try simp only [Act.put, List.setIfInBounds_toArray, List.set_cons_zero, List.set_cons_succ])
      refine wpAnyT_take (i := 10) (oi := { dst := some 36, op := Op.fieldAddr 43 (Operand.tmp 35) 0, type := 0, pos := "ref.go:35", after := #[{ on := 9, ground := Ground.data }], guard := none }) (v := ?vp10x10) rfl (by kernel_rfl) (by kernel_rfl) (by kernel_rfl) (by kernel_rfl) (fun _ _ _ h => h) (Or.inl ⟨by rfl, ?hyp10x10⟩) hHeld ?restp10x10
      case hyp10x10 =>
        intro w hSw
        try dsimp only at hSw
        go_simp
        all_goals with_reducible rfl
      (try simp only [Act.put, List.setIfInBounds_toArray, List.set_cons_zero, List.set_cons_succ])
      refine wpAnyT_take (i := 11) (oi := { dst := some 37, op := Op.load 41 (Operand.tmp 36), type := 41, pos := "ref.go:35", after := #[{ on := 10, ground := Ground.data }], guard := none }) (v := ?vp11x11) rfl (by kernel_rfl) (by kernel_rfl) (by kernel_rfl) (by kernel_rfl) (fun _ _ _ h => h) (Or.inl ⟨by rfl, ?hyp11x11⟩) hHeld ?restp11x11
      case hyp11x11 =>
        intro w hSw
        try dsimp only at hSw
        go_simp
        all_goals with_reducible rfl
      (try simp only [Act.put, List.setIfInBounds_toArray, List.set_cons_zero, List.set_cons_succ])
      refine wpAnyT_take (i := 12) (oi := { dst := some 38, op := Op.move (Operand.tmp 1), type := 3, pos := "ref.go:35", after := #[], guard := none }) (v := ?vp12x12) rfl (by kernel_rfl) (by kernel_rfl) (by kernel_rfl) (by kernel_rfl) (fun _ _ _ h => h) (Or.inl ⟨by rfl, ?hyp12x12⟩) hHeld ?restp12x12
      case hyp12x12 =>
        intro w hSw
        try dsimp only at hSw
        go_simp
        all_goals with_reducible rfl
      (try simp only [Act.put, List.setIfInBounds_toArray, List.set_cons_zero, List.set_cons_succ])
      refine wpAnyT_take (i := 13) (oi := { dst := some 39, op := Op.binOp BinOp.add 3 (Operand.tmp 38) (Operand.const (Value.int IntKind.i64 1)) 3, type := 3, pos := "ref.go:35", after := #[{ on := 12, ground := Ground.data }], guard := none }) (v := ?vp13x13) rfl (by kernel_rfl) (by kernel_rfl) (by kernel_rfl) (by kernel_rfl) (fun _ _ _ h => h) (Or.inl ⟨by rfl, ?hyp13x13⟩) hHeld ?restp13x13
      case hyp13x13 =>
        intro w hSw
        try dsimp only at hSw
        go_simp
        all_goals with_reducible rfl
      (try simp only [Act.put, List.setIfInBounds_toArray, List.set_cons_zero, List.set_cons_succ])
      refine wpAnyT_take (i := 14) (oi := { dst := some 40, op := Op.slice 41 (Operand.tmp 37) (some (Operand.tmp 39)) none none, type := 41, pos := "ref.go:35", after := #[{ on := 11, ground := Ground.data }, { on := 13, ground := Ground.data }], guard := none }) (v := ?vp14x14) rfl (by kernel_rfl) (by kernel_rfl) (by kernel_rfl) (by kernel_rfl) (fun _ _ _ h => h) (Or.inl ⟨by rfl, ?hyp14x14⟩) hHeld ?restp14x14
      case hyp14x14 =>
        intro w hSw
        try dsimp only at hSw
        go_simp
        all_goals with_reducible rfl
      (try simp only [Act.put, List.setIfInBounds_toArray, List.set_cons_zero, List.set_cons_succ])
      refine wpAnyT_one (i := 7) (o := { dst := some 33, op := Op.call { callee := Callee.builtin Builtin.append, args := #[Operand.const (Value.slice none 0 0), Operand.tmp 32], argTypes := #[41, 41] }, type := 41, pos := "ref.go:35", after := #[{ on := 6, ground := Ground.data }], guard := none }) rfl (by kernel_rfl) (fun KK hKK => ?_)
      (refine step_app45 (by rfl) (.const (.slice none 0 0)) (.tmp 32) (by rfl) W2.heap.size (.slice none 0 0) 0 [] (by rfl) (World.ownsRow_nil _ _ 45 3) ⟨q, 0, none⟩ j c news1 (by rfl) HN1.out (HR1.out W2.drew HQ2.out) HO1.out (by have := HBD.out; omega) (Nat.le_refl _) ?_; intro v1 w4 hown1 hg1)
      rw [List.nil_append, Nat.zero_add] at hown1
      have hf4 : ∀ k, k < W2.heap.size → w4.heap[k]? = W2.heap[k]? := fun k hk => hg1.block k hk (by simp [Value.ownBlock])
      have hH7 : (fun w' => w'.cell? ⟨g, 0, none⟩ = some (.slice (some ⟨q, 0, none⟩) (m + 1) c)) w4 := (blk_cell ((hf4 g (blk_lt HG2.out)).trans HG2.out) 0).trans (by rw [HM.out]; rfl)
      have HOWN1 := Aside0.mk hown1
      have HF4 := Aside0.mk hf4
      have HG1 := Aside0.mk hg1
      clear hown1 hf4 hg1
      refine hKK _ _ (fun _ => hH7) ?_
      clear hKK KK
      (try simp only [Act.put, List.setIfInBounds_toArray, List.set_cons_zero, List.set_cons_succ])
      refine wpAnyT_one (i := 15) (o := { dst := some 41, op := Op.call { callee := Callee.builtin Builtin.append, args := #[Operand.tmp 33, Operand.tmp 40], argTypes := #[41, 41] }, type := 41, pos := "ref.go:35", after := #[{ on := 7, ground := Ground.data }, { on := 14, ground := Ground.data }, { on := 7, ground := Ground.chain }], guard := none }) rfl (by kernel_rfl) (fun KK hKK => ?_)
      (refine step_app45 (by rfl) (.tmp 33) (.tmp 40) (by rfl) W2.heap.size v1 j news1 (by rfl) HOWN1.out _ (m - j) (c - (j + 1)) news2 (by rfl) HN2.out (hr2.out w4 ((HF4.out q (blk_lt HQ2.out)).trans HQ2.out)) HO2.out (by have := HBD.out; omega) HG1.out.size ?_; intro v2 w3 hown2 hg2)
      rw [show j + (m - j) = m by have := HBD.out; omega] at hown2
      obtain ⟨A2, c2, e2⟩ : ∃ A2 c2, v2 = .slice A2 m c2 := (by obtain ⟨_, ho⟩ := hown2; rcases ho with ⟨h1, h2⟩ | ⟨g', cap, cur, h1, _⟩; exact ⟨none, 0, by rw [h1, h2]⟩; exact ⟨_, _, h1⟩)
      subst e2
      have hf5 : ∀ k, k < W2.heap.size → w3.heap[k]? = W2.heap[k]? := fun k hk => (hg2.block k (Nat.lt_of_lt_of_le hk HG1.out.size) (fun e => by have := own_base HOWN1.out k e.symm; omega)).trans (HF4.out k hk)
      have g0 := (hf5 g (blk_lt HG2.out)).trans HG2.out
      have hH15 : (fun w' => w'.cell? ⟨g, 0, none⟩ = some (.slice (some ⟨q, 0, none⟩) (m + 1) c)) w3 := (blk_cell g0 0).trans (by rw [HM.out]; rfl)
      have hgF : w3.frozen? ⟨g, 0, none⟩ = false := blk_frozen g0 0
      have HF5 := Aside0.mk hf5
      have HG5 := Aside0.mk hg2
      have HOWN2 := Aside0.mk hown2
      have G0 := Aside0.mk g0
      clear hf5 hg2 hown2 g0
      refine hKK _ _ (fun _ => hH15) ?_
      clear hKK KK
      (try simp only [Act.put, List.setIfInBounds_toArray, List.set_cons_zero, List.set_cons_succ])
      refine wpAnyT_one (i := 16) (o := { dst := some 42, op := Op.nilCheck (Operand.tmp 26), type := 0, pos := "ref.go:35", after := #[{ on := 0, ground := Ground.data }, { on := 0, ground := Ground.phase }, { on := 1, ground := Ground.phase }, { on := 2, ground := Ground.phase }, { on := 3, ground := Ground.phase }, { on := 4, ground := Ground.phase }, { on := 5, ground := Ground.phase }, { on := 6, ground := Ground.phase }, { on := 7, ground := Ground.phase }, { on := 8, ground := Ground.phase }, { on := 9, ground := Ground.phase }, { on := 10, ground := Ground.phase }, { on := 11, ground := Ground.phase }, { on := 12, ground := Ground.phase }, { on := 13, ground := Ground.phase }, { on := 14, ground := Ground.phase }, { on := 15, ground := Ground.phase }], guard := none }) rfl (by kernel_rfl) (fun KK hKK => ?_)
      go_simp
      refine hKK _ _ (fun _ => hH15) ?_
      clear hKK KK
      (try simp only [Act.put, List.setIfInBounds_toArray, List.set_cons_zero, List.set_cons_succ])
      refine wpAnyT_take (i := 17) (oi := { dst := some 43, op := Op.fieldAddr 43 (Operand.tmp 42) 0, type := 0, pos := "ref.go:35", after := #[{ on := 16, ground := Ground.data }, { on := 0, ground := Ground.phase }, { on := 1, ground := Ground.phase }, { on := 2, ground := Ground.phase }, { on := 3, ground := Ground.phase }, { on := 4, ground := Ground.phase }, { on := 5, ground := Ground.phase }, { on := 6, ground := Ground.phase }, { on := 7, ground := Ground.phase }, { on := 8, ground := Ground.phase }, { on := 9, ground := Ground.phase }, { on := 10, ground := Ground.phase }, { on := 11, ground := Ground.phase }, { on := 12, ground := Ground.phase }, { on := 13, ground := Ground.phase }, { on := 14, ground := Ground.phase }, { on := 15, ground := Ground.phase }], guard := none }) (v := ?vp17x15) rfl (by kernel_rfl) (by kernel_rfl) (by kernel_rfl) (by kernel_rfl) (fun _ _ _ h => h) (Or.inl ⟨by rfl, ?hyp17x15⟩) hH15 ?restp17x15
      case hyp17x15 =>
        intro w hSw
        try dsimp only at hSw
        go_simp
        all_goals with_reducible rfl
      (try simp only [Act.put, List.setIfInBounds_toArray, List.set_cons_zero, List.set_cons_succ])
      refine wpAnyT_one (i := 18) (o := { dst := none, op := Op.store 41 (Operand.tmp 43) (Operand.tmp 41), type := 0, pos := "ref.go:35", after := #[{ on := 17, ground := Ground.data }, { on := 15, ground := Ground.data }, { on := 15, ground := Ground.chain }, { on := 0, ground := Ground.phase }, { on := 1, ground := Ground.phase }, { on := 2, ground := Ground.phase }, { on := 3, ground := Ground.phase }, { on := 4, ground := Ground.phase }, { on := 5, ground := Ground.phase }, { on := 6, ground := Ground.phase }, { on := 7, ground := Ground.phase }, { on := 8, ground := Ground.phase }, { on := 9, ground := Ground.phase }, { on := 10, ground := Ground.phase }, { on := 11, ground := Ground.phase }, { on := 12, ground := Ground.phase }, { on := 13, ground := Ground.phase }, { on := 14, ground := Ground.phase }, { on := 15, ground := Ground.phase }], guard := none }) rfl (by kernel_rfl) (fun KK hKK => ?_)
      go_simp
      refine hKK _ _ (fun h => absurd rfl h) ?_
      clear hKK KK
      (try simp only [Act.put, List.setIfInBounds_toArray, List.set_cons_zero, List.set_cons_succ])
      refine wpAnyT_done (by kernel_rfl) ?_ _
      refine NoPanic.normal ?_
      all_goals
        (have hlt := HLT.out
         have z0 := (HF5.out z (by omega)).trans HB0.out
         have y0 := (HF5.out (z + 1) (by omega)).trans HB1.out
         have z4 : ∀ u, (w3.setCell ⟨g, 0, none⟩ u).heap[z]? = some (.cells #[.int .i64 0, .int .i64 0, .string ⟨#[]⟩] 45 (0, 0)) := fun u => (Below.heap_setCell w3 ⟨g, 0, none⟩ u z (by show z ≠ g; omega)).trans z0
         have y4 : ∀ u, (w3.setCell ⟨g, 0, none⟩ u).heap[z + 1]? = some (.cells #[.int .i64 x.f0, .int .i64 x.f1, .string x.f2] 45 (0, 0)) := fun u => (Below.heap_setCell w3 ⟨g, 0, none⟩ u (z + 1) (by show z + 1 ≠ g; omega)).trans y0
         have za : ∀ u, (w3.setCell ⟨g, 0, none⟩ u).cell? ⟨z, 0, none⟩ = some (.int .i64 0) ∧ (w3.setCell ⟨g, 0, none⟩ u).cell? ⟨z, 1, none⟩ = some (.int .i64 0) ∧ (w3.setCell ⟨g, 0, none⟩ u).cell? ⟨z, 2, none⟩ = some (.string ⟨#[]⟩) := fun u => ⟨(blk_cell (z4 u) 0).trans rfl, (blk_cell (z4 u) 1).trans rfl, (blk_cell (z4 u) 2).trans rfl⟩
         have zf : ∀ u k, (w3.setCell ⟨g, 0, none⟩ u).frozen? ⟨z, k, none⟩ = false := fun u k => blk_frozen (z4 u) k
         have ya : ∀ u, (w3.setCell ⟨g, 0, none⟩ u).cell? ⟨z + 1, 0, none⟩ = some (.int .i64 x.f0) ∧ (w3.setCell ⟨g, 0, none⟩ u).cell? ⟨z + 1, 1, none⟩ = some (.int .i64 x.f1) ∧ (w3.setCell ⟨g, 0, none⟩ u).cell? ⟨z + 1, 2, none⟩ = some (.string x.f2) := fun u => ⟨(blk_cell (y4 u) 0).trans rfl, (blk_cell (y4 u) 1).trans rfl, (blk_cell (y4 u) 2).trans rfl⟩
         have Z4 := Aside0.mk z4
         clear z0 y0 z4 y4 hlt
         go_wp2_with fail
         have z5 : ((((w3.setCell ⟨g, 0, none⟩ (.slice A2 m c2)).setCell ⟨z, 0, none⟩ (.int .i64 x.f0)).setCell ⟨z, 1, none⟩ (.int .i64 x.f1)).setCell ⟨z, 2, none⟩ (.string x.f2)).heap[z]? = some (.cells #[.int .i64 x.f0, .int .i64 x.f1, .string x.f2] 45 (0, 0)) := by simpa using blk_set (blk_set (blk_set (Z4.out (.slice A2 m c2)) 0 (.int .i64 x.f0)) 1 (.int .i64 x.f1)) 2 (.string x.f2)
         have f5 : ∀ k, k ≠ z → ((((w3.setCell ⟨g, 0, none⟩ (.slice A2 m c2)).setCell ⟨z, 0, none⟩ (.int .i64 x.f0)).setCell ⟨z, 1, none⟩ (.int .i64 x.f1)).setCell ⟨z, 2, none⟩ (.string x.f2)).heap[k]? = (w3.setCell ⟨g, 0, none⟩ (.slice A2 m c2)).heap[k]? := fun k hk => ((Below.heap_setCell _ ⟨z, 2, none⟩ _ k hk).trans (Below.heap_setCell _ ⟨z, 1, none⟩ _ k hk)).trans (Below.heap_setCell _ ⟨z, 0, none⟩ _ k hk)
         have s5 : ((((w3.setCell ⟨g, 0, none⟩ (.slice A2 m c2)).setCell ⟨z, 0, none⟩ (.int .i64 x.f0)).setCell ⟨z, 1, none⟩ (.int .i64 x.f1)).setCell ⟨z, 2, none⟩ (.string x.f2)).heap.size = w3.heap.size ∧ ((((w3.setCell ⟨g, 0, none⟩ (.slice A2 m c2)).setCell ⟨z, 0, none⟩ (.int .i64 x.f0)).setCell ⟨z, 1, none⟩ (.int .i64 x.f1)).setCell ⟨z, 2, none⟩ (.string x.f2)).os = w3.os ∧ ((((w3.setCell ⟨g, 0, none⟩ (.slice A2 m c2)).setCell ⟨z, 0, none⟩ (.int .i64 x.f0)).setCell ⟨z, 1, none⟩ (.int .i64 x.f1)).setCell ⟨z, 2, none⟩ (.string x.f2)).tape = w3.tape ∧ ((((w3.setCell ⟨g, 0, none⟩ (.slice A2 m c2)).setCell ⟨z, 0, none⟩ (.int .i64 x.f0)).setCell ⟨z, 1, none⟩ (.int .i64 x.f1)).setCell ⟨z, 2, none⟩ (.string x.f2)).output = w3.output := ⟨by simp [World.setCell], rfl, rfl, rfl⟩
         generalize ((((w3.setCell ⟨g, 0, none⟩ (.slice A2 m c2)).setCell ⟨z, 0, none⟩ (.int .i64 x.f0)).setCell ⟨z, 1, none⟩ (.int .i64 x.f1)).setCell ⟨z, 2, none⟩ (.string x.f2)) = W5 at *
         have d0 : W5.cell? ⟨z, 0, none⟩ = some (.int .i64 x.f0) := (blk_cell z5 0).trans rfl
         have d1 : W5.cell? ⟨z, 1, none⟩ = some (.int .i64 x.f1) := (blk_cell z5 1).trans rfl
         have d2 : W5.cell? ⟨z, 2, none⟩ = some (.string x.f2) := (blk_cell z5 2).trans rfl
         have F5 := Aside0.mk f5
         have S5 := Aside0.mk s5
         clear z5 f5 s5 za zf ya
         (try simp only [Exit.inBlock, Exit.then])
         refine bodyPost_ret (v := .tuple #[.agg #[.int .i64 x.f0, .int .i64 x.f1, .string x.f2], .int .i64 0]) (by simp [results, Try.results17, go_sem, d0, d1, d2]) rfl ?_
         rw [E.out]
         have hlen : (l.eraseIdx j).length = m := by rw [List.length_eraseIdx, if_pos HJ.out, HM.out]; rfl
         have hlt := HLT.out
         have hzz := HZ.out
         have hk5 : ∀ k, k < w.heap.size → k ≠ g → W5.heap[k]? = w.heap[k]? := fun k h1 h2 => (F5.out k (by omega)).trans ((Below.heap_setCell w3 ⟨g, 0, none⟩ _ k h2).trans ((HF5.out k (by omega)).trans (HBL2.out.block k h1)))
         have hsz : w.heap.size ≤ W5.heap.size := by have := S5.out.1; have := HG5.out.size; have := HG1.out.size; have h3 : W2.drew.heap.size = W2.heap.size := rfl; have := HBL2.out.size; omega
         have hg5 : W5.heap[g]? = some (.cells #[.slice A2 m c2] 43 (0, 0)) := (F5.out g (by omega)).trans (by simpa using blk_set G0.out 0 (.slice A2 m c2))
         have hrow3 : Kd.R k28 45 w3 b (fun k => S k ∨ w.heap.size ≤ k) (.slice A2 m c2) (l.eraseIdx j) := by
           refine row_iff.2 ⟨fun k hk => .inr ?_, ?_⟩
           · have := own_base HOWN2.out k hk
             have := HBL2.out.size
             omega
           · rw [hlen, ← HCAT.out]
             exact own_less HOWN2.out (by have := HBW.out; have := HBL2.out.size; omega)
         have hnb : RB (fun k => S k ∨ w.heap.size ≤ k) b W5 g (.slice A2 m c2) (l.eraseIdx j) := by
           refine ⟨.inl H.out.1, H.out.2.1, hg5, ?_⟩
           have h4 := Kd.R_set hrow3 G0.out (by decide) 0 (.slice A2 m c2)
           refine row_iff.2 ⟨(row_iff.1 h4).1, own_move (row_iff.1 h4).2 (fun k hk => F5.out k (fun e => ?_))⟩
           have := own_base HOWN2.out k hk
           omega
         have hkept : Kept w W5 S := ⟨hsz, fun k h1 h2 => hk5 k h1 (fun e => h2 (e ▸ H.out.1))⟩
         have hbel : Below b w W5 := ⟨((S5.out.2.1.trans HG5.out.os).trans HG1.out.os).trans HBL2.out.os, ((S5.out.2.2.1.trans HG5.out.tape).trans HG1.out.tape).trans HBL2.out.tape, ((S5.out.2.2.2.trans HG5.out.output).trans HG1.out.output).trans HBL2.out.output, hsz, fun k hk => hk5 k (Nat.lt_of_lt_of_le hk HBW.out) (fun e => by have := H.out.2.1; omega)⟩
         first | exact ⟨_, rfl, hnb, hkept, hbel⟩ | exact ⟨rfl, ⟨_, hnb⟩, hkept, hbel⟩)
end Go.Proofs.Ytpnbeifbapcmdaa.Nt
