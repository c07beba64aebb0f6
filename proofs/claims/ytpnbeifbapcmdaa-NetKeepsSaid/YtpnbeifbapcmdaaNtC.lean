/- slices.Delete at letters, and the net's Take, walked. -/
import Derived.Test.YtpnbeifbapcmdaaNtB
import Derived.Deep.RegionLawGrows
import Derived.Handy
import Derived.Deep.RegionLaw
import Derived.Lib.SliceRun
import Derived.Lib.Bytes
namespace Go.Proofs.Ytpnbeifbapcmdaa.Nt
open Go.RowKit Go.Proofs.Ytpnbeifbapcmdaa.PNetGoes Go.Proofs.YtpnbeifbapcmdaaW.PrintWords Go.Proofs.YtpnbeifbapcmdaaW.PrintLast Go.Proofs.YtpnbeifbapcmdaaW.PrintMore
set_option linter.unusedVariables false
set_option linter.unusedSimpArgs false
attribute [local go_sem] max2_int min2_int max_two min_two
theorem run_clear3 (w : World) (ty : TypeId) (b o c : Nat) 
    (hc : ∀ j, j < 3 → (w.cell? ⟨b, o + j, none⟩).isSome = true) (hf : ∀ j, j < 3 → w.frozen? ⟨b, o + j, none⟩ = false) :
    (Builtin.clear_ #[35] ty #[.slice (some ⟨b, o, none⟩) 1 c]).run Try.prog w = .ok (.tuple #[]) (w.setCells b o [.int .i64 0, .int .i64 0, .string ⟨#[]⟩]) := by
  have hst := run_storeCells_cells (P := Try.prog) b o [.int .i64 0, .int .i64 0, .string ⟨#[]⟩] 0 w (by simpa using hc) (by simpa using hf) (by intro v hv; simp at hv; rcases hv with rfl | rfl | rfl <;> rfl)
  simp only [Nat.add_zero] at hst
  have hu := Try.underlying35
  have hz : ∀ w, (zeroValue 28).run Try.prog w = .ok (.agg #[.int .i64 0, .int .i64 0, .string ⟨#[]⟩]) w := fun w => by kernel_rfl
  have hzc : (Builtin.zeroCells (Value.agg #[.int .i64 0, .int .i64 0, .string ⟨#[]⟩]).cells 1).toList = [.int .i64 0, .int .i64 0, .string ⟨#[]⟩] := by kernel_rfl
  simp [Builtin.clear_, run_underlying hu, hz, hzc, hst]
def zs : List Value := [.int .i64 0, .int .i64 0, .string ⟨#[]⟩]
theorem del_list (i n : Nat) (cur cur1 cur2 : List Value) (l : List S28) (hn : n = l.length) (hi : i < n) (hc : cur.take (n * 3) = flat l) (h1 : cur1 = cur.take (i * 3) ++ (flat l).drop ((i + 1) * 3) ++ cur.drop (i * 3 + ((flat l).drop ((i + 1) * 3)).length)) (h2 : cur2 = cur1.take ((n - 1) * 3) ++ zs ++ cur1.drop ((n - 1) * 3 + 3)) :
    cur2.take ((n - 1) * 3) = flat (l.eraseIdx i) := by
  have hfl := flat_len l
  have hcl : n * 3 ≤ cur.length := by
    have := congrArg List.length hc
    rw [List.length_take, hfl, ← hn] at this
    omega
  have hnl : ((flat l).drop ((i + 1) * 3)).length = (n - (i + 1)) * 3 := by rw [List.length_drop, hfl, ← hn]; omega
  have htk : cur.take (i * 3) = (flat l).take (i * 3) := by rw [← hc, List.take_take, Nat.min_eq_left (by omega)]
  have htl : ((flat l).take (i * 3)).length = i * 3 := by rw [List.length_take, hfl]; omega
  have e1 : cur1.take ((n - 1) * 3) = (flat l).take (i * 3) ++ (flat l).drop ((i + 1) * 3) := by
    rw [h1, htk, List.take_append_of_le_length (by rw [List.length_append, htl, hnl]; omega), List.take_of_length_le (by rw [List.length_append, htl, hnl]; omega)]
  have e2 : (cur1.take ((n - 1) * 3)).length = (n - 1) * 3 := by rw [e1, List.length_append, htl, hnl]; omega
  rw [h2, List.append_assoc, List.take_append_of_le_length (by omega), List.take_of_length_le (by omega), e1, flat_take, flat_drop, ← flat_app, List.eraseIdx_eq_take_drop_succ]
set_option maxHeartbeats 4000000 in
set_option maxRecDepth 1000000 in
theorem delete_calls (q c i m : Nat) (l : List S28) (w : World) (cur : Array Value) (hq : w.heap[q]? = some (.cells cur 28 (0, 0))) (hn : l.length ≤ c) (hm : c ≤ maxLen) (hcs : cur.size = c * 3) (hfl : cur.toList.take (l.length * 3) = flat l) (hi : i < l.length) (hlm : l.length = m + 1) :
    Calls Try.prog 33 #[.slice (some ⟨q, 0, none⟩) (m + 1) c, .int .i64 (i : Int), .int .i64 ((i : Int) + 1)] w fun e w' => e = .returned (.slice (some ⟨q, 0, none⟩) m c) ∧ (∃ cur', w'.heap[q]? = some (.cells cur' 28 (0, 0)) ∧ cur'.size = c * 3 ∧ cur'.toList.take (m * 3) = flat (l.eraseIdx i)) ∧ (∀ k, k ≠ q → w'.heap[k]? = w.heap[k]?) ∧ w'.heap.size = w.heap.size ∧ w'.os = w.os ∧ w'.tape = w.tape ∧ w'.output = w.output := by
  have hfl2 := flat_len l
  have hlm1 : l.length - 1 = m := by omega
  obtain ⟨news, hnews⟩ : ∃ news, news = (flat l).drop ((i + 1) * 3) := ⟨_, rfl⟩
  have hnl : news.length = (l.length - (i + 1)) * 3 := by rw [hnews, List.length_drop, hfl2]; omega
  have hget : ∀ j u, news[j]? = some u → cur[(i + 1) * 3 + j]? = some u := fun j u hu => by
    rw [hnews, ← hfl, List.getElem?_drop, List.getElem?_take] at hu
    split at hu
    · simpa using hu
    · cases hu
  obtain ⟨ad, hA, hsrc⟩ : ∃ ad : Addr, (if c = i + 1 then (⟨q, 0, none⟩ : Addr) else ⟨q, (i + 1) * 3, none⟩) = ad ∧ Aside0 (∀ j u, news[j]? = some u → w.drew.cell? (ad.add j) = some u) := by
    by_cases h : c = i + 1
    · refine ⟨⟨q, 0, none⟩, by rw [if_pos h], ⟨fun j u hu => ?_⟩⟩
      have := (List.getElem?_eq_some_iff.1 hu).1
      rw [hnl] at this
      omega
    · refine ⟨⟨q, (i + 1) * 3, none⟩, by rw [if_neg h], ⟨fun j u hu => ?_⟩⟩
      have hadd : (⟨q, (i + 1) * 3, none⟩ : Addr).add j = ⟨q, (i + 1) * 3 + j, none⟩ := by unfold Addr.add; split <;> simp_all
      rw [hadd]
      exact (cell_of_row w q _ cur 28 (0, 0) hq).trans (hget j u hu)
  have hold : ∀ j, j < c * 3 → ∀ W : World, W.heap[q]? = some (.cells cur 28 (0, 0)) → (W.cell? ⟨q, j, none⟩).isSome = true := fun j hj W hW => by
    rw [cell_of_row W q j cur 28 (0, 0) hW, Array.getElem?_eq_getElem (by omega)]
    rfl
  have hsp : Aside0 (∀ j, j < news.length → (w.drew.cell? ⟨q, 0 + i * 3 + j, none⟩).isSome = true ∧ w.drew.frozen? ⟨q, 0 + i * 3 + j, none⟩ = false) := ⟨fun j hj => by
    rw [hnl] at hj
    exact ⟨hold _ (by omega) w.drew hq, blk_frozen (w := w.drew) hq _⟩⟩
  obtain ⟨W1, hW1⟩ : ∃ W1, W1 = w.drew.setCells q (0 + i * 3) news := ⟨_, rfl⟩
  obtain ⟨cur1, hc1, hs1, hl1⟩ := setCells_row news (0 + i * 3) w.drew cur hq (by rw [hnl, hcs]; omega)
  rw [← hW1] at hc1
  obtain ⟨cur2, hc2, hs2, hl2⟩ := setCells_row zs (m * 3) W1 cur1 hc1 (by rw [hs1, hcs]; simp [zs]; omega)
  obtain ⟨a1, a2, a3, a4⟩ := setCells_same q news (0 + i * 3) w.drew
  obtain ⟨b1, b2, b3, b4⟩ := setCells_same q zs (m * 3) W1
  have hfar : ∀ k, k ≠ q → (W1.setCells q (m * 3) zs).heap[k]? = w.heap[k]? := fun k hk => (setCells_far zs _ k hk).trans (by rw [hW1]; exact setCells_far news _ k hk)
  have hlast := del_list i l.length cur.toList cur1.toList cur2.toList l rfl hi hfl (by rw [hl1, hnews, Nat.zero_add]) (by rw [hl2, hlm1]; rfl)
  rw [hlm1] at hlast
  have hcl : ∀ ty c', (Builtin.clear_ #[35] ty #[.slice (some ⟨q, m * 3, none⟩) 1 c']).run Try.prog W1 = .ok (.tuple #[]) (W1.setCells q (m * 3) zs) := fun ty c' => run_clear3 W1 ty q _ c' (fun j hj => by
    rw [cell_of_row W1 q _ cur1 28 (0, 0) hc1, Array.getElem?_eq_getElem (by omega)]
    rfl) (fun j hj => blk_frozen hc1 _)
  have HF := Aside0.mk (And.intro hc2 (And.intro (hs2.trans (hs1.trans hcs)) hlast))
  have HFAR := Aside0.mk hfar
  rw [← hW1] at a1 a2 a3 a4
  have HS := Aside0.mk (And.intro (b4.trans a4) (And.intro (b1.trans a1) (And.intro (b2.trans a2) (b3.trans a3))))
  have HW1 := Aside0.mk hW1
  have HNE := Aside0.mk hnews
  obtain ⟨i0, hi0, hz0, hz1, hz2⟩ := info_parts info28
  have I0 := Aside0.mk hi0
  have I1 := Aside0.mk hz1
  have h1 : i ≤ c := by omega
  have h2 : i + 1 ≤ c := by omega
  have h3 : (i : Int) ≠ (i : Int) + 1 := by omega
  have h4 : (0 : Int) ≤ (i : Int) := by omega
  have h5 : (i : Int) ≤ (i : Int) + 1 := by omega
  have h6 : (i : Int) ≤ (m : Int) := by omega
  have h7 : (0 : Int) ≤ (i : Int) + 1 := by omega
  have h8 : m ≤ c := by omega
  have h9 : m + 1 ≤ c := by omega
  have e9 : i + (l.length - (i + 1)) = m := by omega
  have e8 : l.length - (i + 1) = m - i := by omega
  rw [e8] at hnl
  have HNL := Aside0.mk hnl
  have E9 : Aside0 (i + (m - i) = m) := ⟨by omega⟩
  have HLM := Aside0.mk hlm
  have HI := Aside0.mk hi
  have HN := Aside0.mk hn
  clear e9 e8 hlm1 hlm hfl2 hnl hget hold hfl hq hcs hW1 hc1 hs1 hl1 hc2 hs2 hl2 a1 a2 a3 a4 b1 b2 b3 b4 hfar hlast hi0 hz0 hz1 hz2 hnews hm hi hn
  have hAA : (c = i + 1) = True ∧ ad = ⟨q, 0, none⟩ ∨ (c = i + 1) = False ∧ ad = ⟨q, (i + 1) * 3, none⟩ := by
    by_cases h : c = i + 1
    · rw [if_pos h] at hA
      exact .inl ⟨eq_true h, hA.symm⟩
    · rw [if_neg h] at hA
      exact .inr ⟨eq_false h, hA.symm⟩
  clear hA
  rcases hAA with ⟨hcc, rfl⟩ | ⟨hcc, rfl⟩
  all_goals
    (go_enter Try.func33, Try.ntmps33
     go_wp2_with fail
     go_region_held3 (fun _ => True) (trivial) ((refine step_append_room (by rfl) (.tmp 22) (.tmp 25) 35 (by rfl) 28 i0 3 Try.underlying35 I0.out I1.out q 0 i c (by rfl) _ (m - i) (c - (i + 1)) news (by rfl) HNL.out hsrc.out (by rw [HNE.out]; exact fun u hu => one_cell l u (List.mem_of_mem_drop hu)) (by have := HI.out; have := HN.out; have := HLM.out; omega) hsp.out ?_; rw [← HW1.out]))
     rw [E9.out]
     go_wp2_with fail
     go_ret
     exact ⟨rfl, ⟨cur2, HF.out⟩, HFAR.out, HS.out⟩)
set_option maxHeartbeats 4000000 in
set_option maxRecDepth 100000 in
theorem take_calls (S : Nat → Prop) (b g : Nat) (v : Value) (l : List S28) (i : Int) (w : World) (h : NB S b w g v l) (hb : b ≤ w.heap.size) (hl : l.length ≤ 200) :
    Calls Try.prog 12 #[.pointer (some ⟨g, 0, none⟩), .int .i64 i] w fun e w' => ∃ v', e = .returned (.tuple #[.agg #[.int .i64 (takeI l i).2.1.f0, .int .i64 (takeI l i).2.1.f1, .string (takeI l i).2.1.f2], .int .i64 (takeI l i).2.2]) ∧ NB S b w' g v' (takeI l i).1 ∧ Kept w w' S ∧ Below b w w' := by
  obtain ⟨A, c, rfl⟩ := Kd.R_slice h.2.2.2
  have H := Aside0.mk h
  have HBW := Aside0.mk hb
  have HL := Aside0.mk hl
  have hcell : w.cell? ⟨g, 0, none⟩ = some (.slice A l.length c) := (blk_cell h.2.2.1 0).trans rfl
  have hca : ∀ o, (w.alloc o).cell? ⟨g, 0, none⟩ = some (.slice A l.length c) := fun o => Lib.cell?_alloc_some o hcell
  clear h
  by_cases hi0 : i < 0
  · have e : takeI l i = (l, z28, 4) := by unfold takeI; rw [if_pos (.inl hi0)]
    have E := Aside0.mk e
    clear e
    go_enter Try.func12, Try.ntmps12
    go_wp2_with fail
    go_returns
    rw [E.out]
    first | exact ⟨_, rfl, H.out.step fun k _ hlt => Below.heap_alloc _ _ _ hlt, Kept.of_below (below_alloc (Below.refl w.heap.size w) _) S, (below_alloc (Below.refl w.heap.size w) _).mono HBW.out⟩ | exact ⟨rfl, ⟨_, H.out.step fun k _ hlt => Below.heap_alloc _ _ _ hlt⟩, Kept.of_below (below_alloc (Below.refl w.heap.size w) _) S, (below_alloc (Below.refl w.heap.size w) _).mono HBW.out⟩
  · by_cases hi1 : (l.length : Int) ≤ i
    · have e : takeI l i = (l, z28, 4) := by unfold takeI; rw [if_pos (.inr hi1)]
      have E := Aside0.mk e
      clear e
      go_enter Try.func12, Try.ntmps12
      go_wp2_with fail
      go_returns
      rw [E.out]
      first | exact ⟨_, rfl, H.out.step fun k _ hlt => Below.heap_alloc _ _ _ hlt, Kept.of_below (below_alloc (Below.refl w.heap.size w) _) S, (below_alloc (Below.refl w.heap.size w) _).mono HBW.out⟩ | exact ⟨rfl, ⟨_, H.out.step fun k _ hlt => Below.heap_alloc _ _ _ hlt⟩, Kept.of_below (below_alloc (Below.refl w.heap.size w) _) S, (below_alloc (Below.refl w.heap.size w) _).mono HBW.out⟩
    · have e : takeI l i = (l.eraseIdx i.toNat, rd_T28 l i, 0) := by unfold takeI; rw [if_neg (by omega)]
      obtain ⟨j, rfl⟩ : ∃ j : Nat, i = (j : Int) := ⟨i.toNat, by omega⟩
      rw [Int.toNat_natCast] at e
      have hj : j < l.length := by omega
      obtain ⟨m, hm⟩ : ∃ m, l.length = m + 1 := ⟨l.length - 1, by omega⟩
      obtain ⟨x, hx⟩ : ∃ x, x = rd_T28 l (j : Int) := ⟨_, rfl⟩
      have hrd := Kd.R_reads' H.out.2.2.2
      obtain ⟨ad, eA, x0, x1, x2⟩ := at_T28 hrd.2.2 (j : Int) (by omega) (by omega)
      rw [Int.toNat_natCast, ← hx] at x0 x1 x2
      rw [← hx] at e
      have E := Aside0.mk e
      have HX := Aside0.mk (And.intro x0 (And.intro x1 x2))
      have hw1 : IntKind.i64.wrap ((j : Int) + 1) = (j : Int) + 1 := by rw [IntKind.wrap_i64]; have := HL.out; omega
      obtain ⟨q, cur, e1, hq, hcs, hcap, hfl, hqS⟩ : ∃ q cur, A = some ⟨q, 0, none⟩ ∧ w.heap[q]? = some (.cells cur 28 (0, 0)) ∧ cur.size = c * 3 ∧ l.length ≤ c ∧ cur.toList.take (l.length * 3) = flat l ∧ S q ∧ b ≤ q ∧ c ≤ maxLen := by
        obtain ⟨h1, hl', ho⟩ := row_iff.1 H.out.2.2.2
        rcases ho with ⟨_, h2⟩ | ⟨g', cap, cur, a1, a2, a3, a4, a5, a6, a7⟩
        · omega
        · injection a1 with b1 b2 b3
          subst b3
          exact ⟨g', cur, b1, a3, a6, a4, a7, h1 g' (by rw [b1]; rfl), a2, a5⟩
      subst e1
      have HQ := Aside0.mk (And.intro hq (And.intro hcs (And.intro hcap (And.intro hfl hqS))))
      have hgq : g ≠ q := blk_ne H.out.2.2.1 hq (by decide)
      have HGQ := Aside0.mk hgq
      injection eA with eA
      subst eA
      have hjm : (j : Int) ≤ (m : Int) := by omega
      rw [hm] at hcell hi1
      have hca2 : ∀ o, (w.alloc o).cell? ⟨g, 0, none⟩ = some (.slice (some ⟨q, 0, none⟩) (m + 1) c) := fun o => by rw [hca o, hm]
      have hxa : ∀ o, (w.alloc o).cell? ⟨q, j * 3, none⟩ = some (.int .i64 x.f0) ∧ (w.alloc o).cell? ⟨q, j * 3 + 1, none⟩ = some (.int .i64 x.f1) ∧ (w.alloc o).cell? ⟨q, j * 3 + 2, none⟩ = some (.string x.f2) := by
        have hadd : (⟨q, 0, none⟩ : Addr).add (j * 3) = ⟨q, j * 3, none⟩ := by unfold Addr.add; split <;> simp_all
        rw [hadd] at x0 x1 x2
        exact fun o => ⟨Lib.cell?_alloc_some o x0, Lib.cell?_alloc_some o x1, Lib.cell?_alloc_some o x2⟩
      have hca3 : ∀ o o', ((w.alloc o).alloc o').cell? ⟨g, 0, none⟩ = some (.slice (some ⟨q, 0, none⟩) (m + 1) c) := fun o o' => Lib.cell?_alloc_some o' (hca2 o)
      clear hca x0 x1 x2
      have HJ := Aside0.mk hj
      have HM := Aside0.mk hm
      have hi2 : ¬ ((m : Int) + 1 ≤ (j : Int)) := by omega
      clear hi1
      clear e hx hrd hq hcs hcap hfl hqS hj hm hgq
      go_enter Try.func12, Try.ntmps12
      go_wp2_with fail
      have hbl1 := below_alloc (Below.refl w.heap.size w) (.cells #[.int .i64 0, .int .i64 0, .string ⟨#[]⟩] 28)
      have hbl2 := below_alloc hbl1 (.cells #[.int .i64 x.f0, .int .i64 x.f1, .string x.f2] 28)
      have hblk0 := heap_alloc_new w (.cells #[.int .i64 0, .int .i64 0, .string ⟨#[]⟩] 28)
      have hsz1 : (w.alloc (.cells #[.int .i64 0, .int .i64 0, .string ⟨#[]⟩] 28)).heap.size = w.heap.size + 1 := by simp
      have hblk1 := heap_alloc_new (w.alloc (.cells #[.int .i64 0, .int .i64 0, .string ⟨#[]⟩] 28)) (.cells #[.int .i64 x.f0, .int .i64 x.f1, .string x.f2] 28)
      have hblk0' := (Below.heap_alloc (w.alloc (.cells #[.int .i64 0, .int .i64 0, .string ⟨#[]⟩] 28)) (.cells #[.int .i64 x.f0, .int .i64 x.f1, .string x.f2] 28) w.heap.size (by omega)).trans hblk0
      rw [hsz1] at hblk1
      have hq2 := (hbl2.block q (blk_lt HQ.out.1)).trans HQ.out.1
      have hg2 := (hbl2.block g (blk_lt H.out.2.2.1)).trans H.out.2.2.1
      clear hblk0 hsz1
      have hxl := hca3
      clear hca2 hxa hca3 hxl
      generalize (w.alloc (.cells #[.int .i64 0, .int .i64 0, .string ⟨#[]⟩] 28)).alloc (.cells #[.int .i64 x.f0, .int .i64 x.f1, .string x.f2] 28) = W2 at *
      have hlt1 := blk_lt H.out.2.2.1
      have hlt2 := blk_lt HQ.out.1
      obtain ⟨z, hz⟩ : ∃ z, z = w.heap.size := ⟨_, rfl⟩
      rw [← hz] at hlt1 hlt2 hblk0' hblk1 ⊢
      refine (delete_calls q c j m l W2 cur hq2 HQ.out.2.2.1 HQ.out.2.2.2.2.2.2 HQ.out.2.1 HQ.out.2.2.2.1 HJ.out HM.out).mono ?_
      rintro _ w3 ⟨rfl, ⟨cur', hq', hs', hl'⟩, hfar, hsz, hos, htp, hout⟩
      have n1 : g ≠ q := HGQ.out
      have g0 := (hfar g n1).trans hg2
      have z0 := (hfar z (by omega)).trans hblk0'
      have y0 := (hfar (z + 1) (by omega)).trans hblk1
      have hgC : w3.cell? ⟨g, 0, none⟩ = some (.slice (some ⟨q, 0, none⟩) l.length c) := (blk_cell g0 0).trans rfl
      have hgF : w3.frozen? ⟨g, 0, none⟩ = false := blk_frozen g0 0
      have z4 : ∀ u, (w3.setCell ⟨g, 0, none⟩ u).heap[z]? = some (.cells #[.int .i64 0, .int .i64 0, .string ⟨#[]⟩] 28 (0, 0)) := fun u => (Below.heap_setCell w3 ⟨g, 0, none⟩ u z (by show z ≠ g; omega)).trans z0
      have y4 : ∀ u, (w3.setCell ⟨g, 0, none⟩ u).heap[z + 1]? = some (.cells #[.int .i64 x.f0, .int .i64 x.f1, .string x.f2] 28 (0, 0)) := fun u => (Below.heap_setCell w3 ⟨g, 0, none⟩ u (z + 1) (by show z + 1 ≠ g; omega)).trans y0
      have za : ∀ u, (w3.setCell ⟨g, 0, none⟩ u).cell? ⟨z, 0, none⟩ = some (.int .i64 0) ∧ (w3.setCell ⟨g, 0, none⟩ u).cell? ⟨z, 1, none⟩ = some (.int .i64 0) ∧ (w3.setCell ⟨g, 0, none⟩ u).cell? ⟨z, 2, none⟩ = some (.string ⟨#[]⟩) := fun u => ⟨(blk_cell (z4 u) 0).trans rfl, (blk_cell (z4 u) 1).trans rfl, (blk_cell (z4 u) 2).trans rfl⟩
      have zf : ∀ u k, (w3.setCell ⟨g, 0, none⟩ u).frozen? ⟨z, k, none⟩ = false := fun u k => blk_frozen (z4 u) k
      have ya : ∀ u, (w3.setCell ⟨g, 0, none⟩ u).cell? ⟨z + 1, 0, none⟩ = some (.int .i64 x.f0) ∧ (w3.setCell ⟨g, 0, none⟩ u).cell? ⟨z + 1, 1, none⟩ = some (.int .i64 x.f1) ∧ (w3.setCell ⟨g, 0, none⟩ u).cell? ⟨z + 1, 2, none⟩ = some (.string x.f2) := fun u => ⟨(blk_cell (y4 u) 0).trans rfl, (blk_cell (y4 u) 1).trans rfl, (blk_cell (y4 u) 2).trans rfl⟩
      have G0 := Aside0.mk g0
      have Z4 := Aside0.mk z4
      have HQ3 := Aside0.mk (And.intro hq' (And.intro hs' hl'))
      have HFAR := Aside0.mk hfar
      have HBL2 := Aside0.mk hbl2
      have HSAME := Aside0.mk (And.intro hsz (And.intro hos (And.intro htp hout)))
      have HZ := Aside0.mk hz
      have HLT := Aside0.mk (And.intro hlt1 hlt2)
      clear g0 z0 y0 z4 y4 hq' hs' hl' hfar hbl1 hbl2 hsz hos htp hout hq2 hg2 hblk1 hblk0' hcell hz n1
      go_wp2_with fail
      have z5 : ((((w3.setCell ⟨g, 0, none⟩ (.slice (some ⟨q, 0, none⟩) m c)).setCell ⟨z, 0, none⟩ (.int .i64 x.f0)).setCell ⟨z, 1, none⟩ (.int .i64 x.f1)).setCell ⟨z, 2, none⟩ (.string x.f2)).heap[z]? = some (.cells #[.int .i64 x.f0, .int .i64 x.f1, .string x.f2] 28 (0, 0)) := by simpa using blk_set (blk_set (blk_set (Z4.out (.slice (some ⟨q, 0, none⟩) m c)) 0 (.int .i64 x.f0)) 1 (.int .i64 x.f1)) 2 (.string x.f2)
      have f5 : ∀ k, k ≠ z → ((((w3.setCell ⟨g, 0, none⟩ (.slice (some ⟨q, 0, none⟩) m c)).setCell ⟨z, 0, none⟩ (.int .i64 x.f0)).setCell ⟨z, 1, none⟩ (.int .i64 x.f1)).setCell ⟨z, 2, none⟩ (.string x.f2)).heap[k]? = (w3.setCell ⟨g, 0, none⟩ (.slice (some ⟨q, 0, none⟩) m c)).heap[k]? := fun k hk => ((Below.heap_setCell _ ⟨z, 2, none⟩ _ k hk).trans (Below.heap_setCell _ ⟨z, 1, none⟩ _ k hk)).trans (Below.heap_setCell _ ⟨z, 0, none⟩ _ k hk)
      have s5 : ((((w3.setCell ⟨g, 0, none⟩ (.slice (some ⟨q, 0, none⟩) m c)).setCell ⟨z, 0, none⟩ (.int .i64 x.f0)).setCell ⟨z, 1, none⟩ (.int .i64 x.f1)).setCell ⟨z, 2, none⟩ (.string x.f2)).heap.size = w3.heap.size ∧ ((((w3.setCell ⟨g, 0, none⟩ (.slice (some ⟨q, 0, none⟩) m c)).setCell ⟨z, 0, none⟩ (.int .i64 x.f0)).setCell ⟨z, 1, none⟩ (.int .i64 x.f1)).setCell ⟨z, 2, none⟩ (.string x.f2)).os = w3.os ∧ ((((w3.setCell ⟨g, 0, none⟩ (.slice (some ⟨q, 0, none⟩) m c)).setCell ⟨z, 0, none⟩ (.int .i64 x.f0)).setCell ⟨z, 1, none⟩ (.int .i64 x.f1)).setCell ⟨z, 2, none⟩ (.string x.f2)).tape = w3.tape ∧ ((((w3.setCell ⟨g, 0, none⟩ (.slice (some ⟨q, 0, none⟩) m c)).setCell ⟨z, 0, none⟩ (.int .i64 x.f0)).setCell ⟨z, 1, none⟩ (.int .i64 x.f1)).setCell ⟨z, 2, none⟩ (.string x.f2)).output = w3.output := ⟨by simp [World.setCell], rfl, rfl, rfl⟩
      generalize ((((w3.setCell ⟨g, 0, none⟩ (.slice (some ⟨q, 0, none⟩) m c)).setCell ⟨z, 0, none⟩ (.int .i64 x.f0)).setCell ⟨z, 1, none⟩ (.int .i64 x.f1)).setCell ⟨z, 2, none⟩ (.string x.f2)) = W5 at *
      have c0 : W5.cell? ⟨z, 0, none⟩ = some (.int .i64 x.f0) := (blk_cell z5 0).trans rfl
      have c1 : W5.cell? ⟨z, 1, none⟩ = some (.int .i64 x.f1) := (blk_cell z5 1).trans rfl
      have c2 : W5.cell? ⟨z, 2, none⟩ = some (.string x.f2) := (blk_cell z5 2).trans rfl
      have F5 := Aside0.mk f5
      have S5 := Aside0.mk s5
      clear z5 f5 s5 za zf ya hgC hgF
      (try simp only [Exit.inBlock, Exit.then])
      refine bodyPost_ret (v := .tuple #[.agg #[.int .i64 x.f0, .int .i64 x.f1, .string x.f2], .int .i64 0]) (by simp [results, Try.results12, go_sem, c0, c1, c2]) rfl ?_
      rw [E.out]
      have hlen : (l.eraseIdx j).length = m := by rw [List.length_eraseIdx, if_pos HJ.out, HM.out]; rfl
      have hgq := HGQ.out
      have hlt := HLT.out
      have hzz := HZ.out
      have hk5 : ∀ k, k < w.heap.size → k ≠ g → k ≠ q → W5.heap[k]? = w.heap[k]? := fun k h1 h2 h3 => (F5.out k (by omega)).trans ((Below.heap_setCell w3 ⟨g, 0, none⟩ _ k h2).trans ((HFAR.out k h3).trans (HBL2.out.block k h1)))
      have hsz : w.heap.size ≤ W5.heap.size := by have := S5.out.1; have := HSAME.out.1; have := HBL2.out.size; omega
      have hq5 : W5.heap[q]? = some (.cells cur' 28 (0, 0)) := (F5.out q (by omega)).trans ((Below.heap_setCell w3 ⟨g, 0, none⟩ _ q (fun e => hgq e.symm)).trans HQ3.out.1)
      have hg5 : W5.heap[g]? = some (.cells #[.slice (some ⟨q, 0, none⟩) m c] 72 (0, 0)) := (F5.out g (by omega)).trans (by simpa using blk_set G0.out 0 (.slice (some ⟨q, 0, none⟩) m c))
      have hnb : NB S b W5 g (.slice (some ⟨q, 0, none⟩) m c) (l.eraseIdx j) := by
        refine ⟨H.out.1, H.out.2.1, hg5, row_iff.2 ⟨fun k hk => ?_, ?_⟩⟩
        · have hk : q = k := by simpa [Value.ownBlock] using hk
          rw [← hk]
          exact HQ.out.2.2.2.2.1
        · rw [hlen]
          refine ⟨by rw [flat_len, hlen], .inr ⟨q, c, cur', rfl, HQ.out.2.2.2.2.2.1, hq5, by have := HQ.out.2.2.1; have := HM.out; omega, HQ.out.2.2.2.2.2.2, HQ3.out.2.1, HQ3.out.2.2⟩⟩
      have hkept : Kept w W5 S := ⟨hsz, fun k h1 h2 => hk5 k h1 (fun e => h2 (e ▸ H.out.1)) (fun e => h2 (e ▸ HQ.out.2.2.2.2.1))⟩
      have hbel : Below b w W5 := ⟨(S5.out.2.1.trans HSAME.out.2.1).trans HBL2.out.os, (S5.out.2.2.1.trans HSAME.out.2.2.1).trans HBL2.out.tape, (S5.out.2.2.2.trans HSAME.out.2.2.2).trans HBL2.out.output, hsz, fun k hk => hk5 k (Nat.lt_of_lt_of_le hk HBW.out) (fun e => by have := H.out.2.1; omega) (fun e => by have := HQ.out.2.2.2.2.2.1; omega)⟩
      first | exact ⟨_, rfl, hnb, hkept, hbel⟩ | exact ⟨rfl, ⟨_, hnb⟩, hkept, hbel⟩
end Go.Proofs.Ytpnbeifbapcmdaa.Nt
