/- The stream laws' example (live); a reader in use, with the row that gathers its frames. -/
import Derived.Test.YtpnbeifbapcmdaaStA
namespace Go.Proofs.Ytpnbeifbapcmdaa.St
open Go.RowKit Go.Proofs.Ytpnbeifbapcmdaa.PStreamFeeds Go.Proofs.YtpnbeifbapcmdaaW.PrintWords Go.Proofs.YtpnbeifbapcmdaaW.PrintLast Go.Proofs.YtpnbeifbapcmdaaW.PrintMore
set_option linter.unusedVariables false
set_option linter.unusedSimpArgs false
set_option maxRecDepth 100000 in
theorem live_calls (w : World) :
    Calls Try.prog 21 #[] w fun e w' => e = .returned (.bool true) ∧ Below w.heap.size w w' := by
  have hcc := fun (W : World) (C : Array Value) (n c : Nat) => conv_const W C n c
  go_enter Try.func21, Try.ntmps21
  go_wp2_with fail
  refine (new_calls w).mono ?_
  rintro _ w1 ⟨g, rfl, hg0, hg1, hr, hb⟩
  have HR1 : Aside0 (RdrS (fun k => k = g) w.heap.size w1.heap.size w1 g ⟨0, 0, [], []⟩ (.slice none 0 0) (.slice none 0 0)) := ⟨hr _⟩
  have HS1 : Aside0 (∀ k, k = g → k < w1.heap.size) := ⟨fun k hk => by rw [hk]; exact hg1⟩
  have HB1 := Aside0.mk hb
  clear hr hb hg0 hg1
  go_wp2_with fail
  have hf1 := feed_at (fun k => k = g) w.heap.size w1.heap.size g ⟨0, 0, [], []⟩ (.slice none 0 0) w1.heap.size 2 [66, 81] [] (2, 2 + 1) w1 (w1.alloc (.cells #[.int .u8 66, .int .u8 81] 5 (2, 2 + 1))) HR1.out HS1.out rfl (by unfold okS; decide) HB1.out.size (below_alloc (Below.refl _ _) _) (Nat.le_refl _) (by simpa using heap_alloc_new w1 _) (Nat.le_refl _) (by decide) (by decide)
  rw [show runS ⟨0, 0, [], []⟩ [66, 81] = ⟨1, 0, [], [⟨66, ⟨#[]⟩⟩]⟩ from by rfl] at hf1
  refine Calls.mono (show Calls Try.prog 23 #[.pointer (some ⟨g, 0, none⟩), .slice (some ⟨w1.heap.size, 0, none⟩) 2 2] _ _ from hf1) ?_
  clear hf1
  rintro _ w2 ⟨v2, vt2, S2, rfl, hs2, hz2, hr2, ho2, hk2, hb2⟩
  obtain ⟨A2, n2, e2⟩ := Kd.R_slice ho2
  subst e2
  have HR2 : Aside0 (RdrS S2 w.heap.size w2.heap.size w2 g ⟨1, 0, [], []⟩ vt2 (.slice none 0 0)) := ⟨⟨hr2.1, hr2.2.1, hr2.2.2.1, hr2.2.2.2.1, Kd.R_nil _ _ _ _ _⟩⟩
  have HS2 := Aside0.mk hz2
  have HO2 := Aside0.mk ho2
  have HB2 := Aside0.mk (HB1.out.trans hb2)
  have HK2 := Aside0.mk hk2
  clear hs2 hz2 hr2 ho2 hk2 hb2
  go_wp2_with fail
  refine (left_calls S2 w.heap.size w2.heap.size g ⟨1, 0, [], []⟩ vt2 _ w2 HR2.out (by unfold okS; decide)).mono ?_
  rintro _ w2' ⟨rfl, rfl⟩
  rw [show leftI ⟨1, 0, [], []⟩ = 1 from rfl]
  go_wp2_with fail
  have hf2 := feed_at S2 w.heap.size w2.heap.size g ⟨1, 0, [], []⟩ vt2 w2.heap.size 2 [2, 104] [] (2, 2 + 1) w2 (w2.alloc (.cells #[.int .u8 2, .int .u8 104] 5 (2, 2 + 1))) HR2.out HS2.out rfl (by unfold okS; decide) HB2.out.size (below_alloc (Below.refl _ _) _) (Nat.le_refl _) (by simpa using heap_alloc_new w2 _) (Nat.le_refl _) (by decide) (by decide)
  rw [show runS ⟨1, 0, [], []⟩ [2, 104] = ⟨2, 1, [104], []⟩ from by rfl] at hf2
  refine Calls.mono (show Calls Try.prog 23 #[.pointer (some ⟨g, 0, none⟩), .slice (some ⟨w2.heap.size, 0, none⟩) 2 2] _ _ from hf2) ?_
  clear hf2
  rintro _ w3 ⟨v3, vt3, S3, rfl, hs3, hz3, hr3, ho3, hk3, hb3⟩
  obtain ⟨A3, n3, e3⟩ := Kd.R_slice ho3
  subst e3
  have HR3 : Aside0 (RdrS S3 w.heap.size w3.heap.size w3 g ⟨2, 1, [104], []⟩ vt3 (.slice none 0 0)) := ⟨⟨hr3.1, hr3.2.1, hr3.2.2.1, hr3.2.2.2.1, Kd.R_nil _ _ _ _ _⟩⟩
  have HS3 := Aside0.mk hz3
  have HO3 := Aside0.mk ho3
  have HB3 := Aside0.mk (HB2.out.trans hb3)
  have HK3 := Aside0.mk hk3
  clear hs3 hz3 hr3 ho3 hk3 hb3
  go_wp2_with fail
  have hf3 := feed_at S3 w.heap.size w3.heap.size g ⟨2, 1, [104], []⟩ vt3 w3.heap.size 2 [105, 69] [] (2, 2 + 1) w3 (w3.alloc (.cells #[.int .u8 105, .int .u8 69] 5 (2, 2 + 1))) HR3.out HS3.out rfl (by unfold okS; decide) HB3.out.size (below_alloc (Below.refl _ _) _) (Nat.le_refl _) (by simpa using heap_alloc_new w3 _) (Nat.le_refl _) (by decide) (by decide)
  rw [show runS ⟨2, 1, [104], []⟩ [105, 69] = ⟨0, 0, [104, 105], [⟨81, strOfNums [104, 105]⟩, ⟨69, ⟨#[]⟩⟩]⟩ from by rfl] at hf3
  refine Calls.mono (show Calls Try.prog 23 #[.pointer (some ⟨g, 0, none⟩), .slice (some ⟨w3.heap.size, 0, none⟩) 2 2] _ _ from hf3) ?_
  clear hf3
  rintro _ w4 ⟨v4, vt4, S4, rfl, hs4, hz4, hr4, ho4, hk4, hb4⟩
  obtain ⟨A4, n4, e4⟩ := Kd.R_slice ho4
  subst e4
  have HR4 : Aside0 (RdrS S4 w.heap.size w4.heap.size w4 g ⟨0, 0, [104, 105], []⟩ vt4 (.slice none 0 0)) := ⟨⟨hr4.1, hr4.2.1, hr4.2.2.1, hr4.2.2.2.1, Kd.R_nil _ _ _ _ _⟩⟩
  have HS4 := Aside0.mk hz4
  have HO4 := Aside0.mk ho4
  have HB4 := Aside0.mk (HB3.out.trans hb4)
  have HK4 := Aside0.mk hk4
  clear hs4 hz4 hr4 ho4 hk4 hb4
  go_wp2_with fail
  have hf4 := feed_at S4 w.heap.size w4.heap.size g ⟨0, 0, [104, 105], []⟩ vt4 w4.heap.size 1 [120] [] (1, 1 + 1) w4 (w4.alloc (.cells #[.int .u8 120] 5 (1, 1 + 1))) HR4.out HS4.out rfl (by unfold okS; decide) HB4.out.size (below_alloc (Below.refl _ _) _) (Nat.le_refl _) (by simpa using heap_alloc_new w4 _) (Nat.le_refl _) (by decide) (by decide)
  rw [show runS ⟨0, 0, [104, 105], []⟩ [120] = ⟨3, 0, [104, 105], []⟩ from by rfl] at hf4
  refine Calls.mono (show Calls Try.prog 23 #[.pointer (some ⟨g, 0, none⟩), .slice (some ⟨w4.heap.size, 0, none⟩) 1 1] _ _ from hf4) ?_
  clear hf4
  rintro _ w5 ⟨v5, vt5, S5, rfl, hs5, hz5, hr5, ho5, hk5, hb5⟩
  obtain ⟨A5, n5, e5⟩ := Kd.R_slice ho5
  subst e5
  have HR5 : Aside0 (RdrS S5 w.heap.size w5.heap.size w5 g ⟨3, 0, [104, 105], []⟩ vt5 (.slice none 0 0)) := ⟨⟨hr5.1, hr5.2.1, hr5.2.2.1, hr5.2.2.2.1, Kd.R_nil _ _ _ _ _⟩⟩
  have HS5 := Aside0.mk hz5
  have HO5 := Aside0.mk ho5
  have HB5 := Aside0.mk (HB4.out.trans hb5)
  have HK5 := Aside0.mk hk5
  clear hs5 hz5 hr5 ho5 hk5 hb5
  have hc5 := Kd.R_kept HO4.out HK5.out (fun k hk => hk)
  obtain ⟨ad, eA, x0, x1⟩ := at_T64 (Kd.R_reads' hc5).2.2 0 (by decide) (by decide)
  obtain ⟨ad', eA', y0, y1⟩ := at_T64 (Kd.R_reads' hc5).2.2 1 (by decide) (by decide)
  obtain rfl : ad = ad' := by rw [eA] at eA'; exact Option.some.inj eA'
  subst eA
  simp only [show (0 : Int).toNat = 0 from rfl, show (1 : Int).toNat = 1 from rfl, Nat.zero_mul, Nat.one_mul, Addr.add_zero', Go.Addr.add, Nat.reduceEqDiff, ↓reduceIte, Nat.add_assoc, Nat.reduceAdd] at x0 x1 y0 y1
  have r0 : rd_T64 [⟨81, strOfNums [104, 105]⟩, ⟨69, ⟨#[]⟩⟩] 0 = ⟨81, strOfNums [104, 105]⟩ := rfl
  have r1 : rd_T64 [⟨81, strOfNums [104, 105]⟩, ⟨69, ⟨#[]⟩⟩] 1 = ⟨69, ⟨#[]⟩⟩ := rfl
  rw [r0] at x0 x1
  rw [r1] at y0
  clear hc5 eA' r0 r1 y1
  have hhi : strOfNums [104, 105] = ⟨#[104, 105]⟩ := by decide +kernel
  rw [hhi] at x1
  go_wp2_with fail
  refine (broken_calls S5 w.heap.size w5.heap.size g 3 0 vt5 _ _ _ w5 HR5.out).mono ?_
  rintro _ _ ⟨rfl, rfl⟩
  go_wp2_with fail
  go_ret
  exact ⟨rfl, HB5.out⟩
def nums (s : ByteArray) : List Int := s.data.toList.map fun c => (c.toNat : Int)
theorem nums_len (s : ByteArray) : (nums s).length = s.size := by unfold nums; rw [List.length_map, Array.length_toList]; rfl
theorem nums_by (s : ByteArray) : ∀ x ∈ nums s, 0 ≤ x ∧ x < 256 := by
  intro x hx
  obtain ⟨c, _, rfl⟩ := List.mem_map.1 hx
  have := c.toNat_lt
  omega
theorem conv_str (W : World) (s : ByteArray) : (convert 9 54 (.string s)).run Try.prog W = .ok (.slice (some ⟨W.heap.size, 0, none⟩) s.size (grownCap W s.size 0 5)) (Lib.bytesWorld W 5 s) :=
  Lib.run_convert_string_bytes W 9 54 5 s Try.underlying9 Try.underlying54 Try.underlying5
theorem bw_below (W : World) (s : ByteArray) : Below W.heap.size W (Lib.bytesWorld W 5 s) :=
  ⟨rfl, rfl, rfl, by rw [Lib.bytesWorld_size]; omega, fun k hk => Lib.bytesWorld_at_old W 5 s k hk⟩
theorem bw_row (W : World) (s : ByteArray) : ∃ rest fr, (Lib.bytesWorld W 5 s).heap[W.heap.size]? = some (.cells ((nums s).map (Value.int .u8) ++ rest).toArray 5 fr) := by
  refine ⟨(List.replicate (grownCap W s.size 0 5 - s.size) (.int .u8 0)), ((Lib.bytesCells W 5 s).size, (Lib.bytesCells W 5 s).size + 1), ?_⟩
  rw [Lib.bytesWorld_at_new]
  congr 2
  apply Array.ext'
  simp only [Lib.bytesCells, nums, Array.toList_append, Array.toList_map, Array.toList_replicate, List.map_map, List.toList_toArray]
  rfl
/-- A reader in use: what it was given, and the row that gathers its frames; all but its block is as in W0. -/
def Ph (W0 : World) (S : Nat → Prop) (b g : Nat) (w : World) (s : RS) (vp : Value) (ps : List S64) : Prop :=
  ∃ vt, s.out = [] ∧ okS s ∧ b ≤ W0.heap.size ∧ (∀ k, S k → k = g ∨ W0.heap.size ≤ k) ∧ (∀ k, S k → k < w.heap.size) ∧ RdrS S b w.heap.size w g s vt (.slice none 0 0) ∧ Kd.R k64 64 w W0.heap.size (fun k => ¬ S k) vp ps ∧ Kept W0 w (fun k => k = g)
def emptied (s : RS) : RS := { s with out := [] }
theorem feed_ph (W0 : World) (S : Nat → Prop) (b g : Nat) (s : RS) (vp : Value) (ps : List S64) (k c0 n : Nat) (l : List Int) (rest : List Value) (fr : Nat × Nat) (w W : World) (h : Ph W0 S b g w s vp ps) (hB : Below w.heap.size w W) (hk : w.heap.size ≤ k) (hrow : W.heap[k]? = some (.cells (l.map (Value.int .u8) ++ rest).toArray 5 fr)) (hn : n = l.length) (hc0 : n ≤ c0) (hby : ∀ x ∈ l, 0 ≤ x ∧ x < 256) (hl : l.length ≤ 900000000) :
    Calls Try.prog 23 #[.pointer (some ⟨g, 0, none⟩), .slice (some ⟨k, 0, none⟩) n c0] W fun e w' => ∃ v S', e = .returned v ∧ Ph W0 S' b g w' (emptied (runS s l)) vp ps ∧ Kd.R k64 64 w' w.heap.size (fun k => ¬ S' k) v (runS s l).out ∧ Below b w w' := by
  obtain ⟨vt, hso, hok, hb0, hS, hSz, hr, hp, hK⟩ := h
  subst hn
  refine (feed_at S b w.heap.size g s vt k c0 l rest fr w W hr hSz hso hok (Nat.le_trans hb0 hK.1) hB hk hrow hc0 hby hl).mono ?_
  rintro e w' ⟨v, vt', S', he, h1, h2, h3, h4, h5, h6⟩
  refine ⟨v, S', he, ⟨vt', rfl, ⟨(run_okS hok l hby).1, (run_okS hok l hby).2⟩, hb0, fun j hj => ?_, h2, ⟨h3.1, h3.2.1, h3.2.2.1, h3.2.2.2.1, Kd.R_nil _ _ _ _ _⟩, ?_, hK.then_ h5 (fun j hj => ?_)⟩, h4, h6⟩
  · rcases h1 j hj with hj | hj
    · exact hS j hj
    · exact .inr (Nat.le_trans hK.1 hj)
  · refine Kd.R_mono (Kd.R_kept (Kd.R_bound hp) h5 (fun j hj => hj.1)) (fun j hj hn => ?_)
    rcases h1 j hn with hn | hn
    · exact hj.1 hn
    · have := hj.2.2.1
      omega
  · exact hS j hj
/-- The gathered row has grown. -/
theorem Ph.app {W0 : World} {S : Nat → Prop} {b g : Nat} {w w1 : World} {s : RS} {vp v1 : Value} {ps qs : List S64} (h : Ph W0 S b g w s vp ps) (ho : Kd.R k64 64 w1 W0.heap.size (fun k => ¬ S k) v1 qs) (hg : w.grownBy w1 vp.ownBlock) : Ph W0 S b g w1 s v1 qs := by
  obtain ⟨vt, hso, hok, hb0, hS, hSz, hr, hp, hK⟩ := h
  have hne : ∀ k, S k → some k ≠ vp.ownBlock := fun k hk he => hp.1 k he.symm hk
  have hr1 := Rdr.step (w1 := w1) hr fun k hk hlt => hg.block k hlt (hne k hk)
  refine ⟨vt, hso, hok, hb0, hS, fun k hk => Nat.lt_of_lt_of_le (hSz k hk) hg.size, ⟨hr1.1, hr1.2.1, hr1.2.2.1, hr1.2.2.2.1, by rw [hso]; exact Kd.R_nil _ _ _ _ _⟩, ho, Kept.of_grown hg hK (fun k hk => .inr ?_)⟩
  obtain ⟨inner, hown⟩ := Kd.R_own hp
  exact own_base hown k hk
theorem Ph.fresh {W0 : World} {S : Nat → Prop} {b g : Nat} {w : World} {s : RS} {vp : Value} {ps : List S64} (h : Ph W0 S b g w s vp ps) : ∀ k, w.heap.size ≤ k → ¬ S k := fun k hk hn => by
  obtain ⟨vt, hso, hok, hb0, hS, hSz, _⟩ := h
  have := hSz k hn
  omega
theorem step_split (s : RS) (c : Int) : stepS s c = ⟨(stepS (emptied s) c).at_, (stepS (emptied s) c).lacks, (stepS (emptied s) c).text, s.out ++ (stepS (emptied s) c).out⟩ := by
  unfold stepS emptied
  simp only []
  split
  · split <;> simp
  · split
    · split <;> simp
    · split
      · split <;> simp
      · simp
theorem run_split (l : List Int) : ∀ s : RS, runS s l = ⟨(runS (emptied s) l).at_, (runS (emptied s) l).lacks, (runS (emptied s) l).text, s.out ++ (runS (emptied s) l).out⟩ := by
  induction l with
  | nil => intro s; simp [runS, emptied]
  | cons c r ih =>
    intro s
    show runS (stepS s c) r = ⟨(runS (stepS (emptied s) c) r).at_, (runS (stepS (emptied s) c) r).lacks, (runS (stepS (emptied s) c) r).text, s.out ++ (runS (stepS (emptied s) c) r).out⟩
    have e : emptied (stepS s c) = emptied (stepS (emptied s) c) := by rw [step_split s c]; rfl
    rw [ih (stepS s c), ih (stepS (emptied s) c), e]
    have eo : (stepS s c).out = s.out ++ (stepS (emptied s) c).out := by rw [step_split s c]
    simp [eo]
theorem run_app (s : RS) (l m : List Int) : runS s (l ++ m) = runS (runS s l) m := List.foldl_append ..
theorem emp_app (s : RS) (l m : List Int) : emptied (runS s (l ++ m)) = emptied (runS (emptied (runS s l)) m) ∧ (runS s (l ++ m)).out = (runS s l).out ++ (runS (emptied (runS s l)) m).out := by
  rw [run_app, run_split m (runS s l)]
  exact ⟨rfl, rfl⟩
theorem nums_extract (s : ByteArray) (i j : Nat) : nums (s.extract i j) = ((nums s).take j).drop i := by
  unfold nums
  rw [← List.map_take, ← List.map_drop]
  congr 1
  rw [ByteArray.data_extract, Array.toList_extract, List.extract_eq_drop_take']
end Go.Proofs.Ytpnbeifbapcmdaa.St
