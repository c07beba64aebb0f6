/- The law StreamFeeds' function, walked: any bytes in any pieces, against the document's reader. -/
import Derived.Test.YtpnbeifbapcmdaaStG
namespace Go.Proofs.Ytpnbeifbapcmdaa.St
open Go.RowKit Go.Proofs.Ytpnbeifbapcmdaa.PStreamFeeds Go.Proofs.YtpnbeifbapcmdaaW.PrintWords Go.Proofs.YtpnbeifbapcmdaaW.PrintLast Go.Proofs.YtpnbeifbapcmdaaW.PrintMore
set_option linter.unusedVariables false
set_option linter.unusedSimpArgs false
attribute [local go_sem] max2_int min2_int max_two min_two
theorem few_calls (A0 : Option Addr) (c0 : Nat) (l : List ByteArray) (w : World) (hr0 : Kd.C Kd.string w A0 l.length l) (hc0 : l.length ≤ c0) :
    Calls Try.prog 27 #[.slice A0 l.length c0] w fun e w' => e = .returned (.slice A0 (l.take 100).length c0) ∧ w = w' := by
  by_cases h : 100 < l.length
  · have k1 : ((100 : Int) < (l.length : Int)) := by omega
    have hl : (l.take 100).length = 100 := by rw [List.length_take]; omega
    obtain ⟨i9, hi9, _, hsz9, _⟩ := info_parts info9
    have hcut := cut_to (P := Try.prog) 57 9 .i64 Try.underlying57 hi9 A0 l.length c0 100 (by omega) (by omega) hc0
    rw [hl]
    go_enter Try.func27, Try.ntmps27
    go_wp2_with fail
    go_ret
    exact ⟨rfl, rfl⟩
  · have k1 : ¬ ((100 : Int) < (l.length : Int)) := by omega
    have hl : (l.take 100).length = l.length := by rw [List.length_take]; omega
    rw [hl]
    go_enter Try.func27, Try.ntmps27
    go_wp2_with fail
    go_ret
    exact ⟨rfl, rfl⟩
theorem blk_setF {w : World} {g : Nat} {t : TypeId} {cs : Array Value} {fr : Nat × Nat} (h : w.heap[g]? = some (.cells cs t fr)) (i : Nat) (u : Value) : (w.setCell ⟨g, i, none⟩ u).heap[g]? = some (.cells (cs.setIfInBounds i u) t fr) := by
  simp [World.setCell, Array.getElem?_modify, h]
theorem own_row {S : Nat → Prop} {w : World} {b n c : Nat} {A : Option Addr} {xs : List S64} (h : Kd.R k64 64 w b S (.slice A n c) xs) : n = 0 ∨ ∃ q cs, A = some ⟨q, 0, none⟩ ∧ w.heap[q]? = some (.cells cs 64 (0, 0)) ∧ 2 * n ≤ cs.size ∧ S q ∧ b ≤ q := by
  obtain ⟨inner, ho⟩ := Kd.R_own h
  rcases ho.2 with ⟨h1, h2⟩ | ⟨g, cap, cur, h1, h2, h3, h4⟩
  · injection h1 with _ h1 _
    exact .inl h1
  · injection h1 with h5 h6 h7
    exact .inr ⟨g, cur, h5, h3, by have : k64.sz = 2 := rfl; rw [this] at h4; omega, h.1 g (by rw [h5]; rfl), h2⟩
theorem step_txt {s : RS} (h : okS s) (ht : s.text.length ≤ 48) (c : Int) : (stepS s c).text.length ≤ 48 := by
  unfold stepS
  split
  · split
    · exact ht
    · exact ht
  · split
    · split <;> simp
    · split
      · rename_i h2
        have := h.2 h2
        split
        · simp only [List.length_append, List.length_singleton]; omega
        · simp only [List.length_append, List.length_singleton]; omega
      · exact ht
theorem run_txt : ∀ (l : List Int) (s : RS), okS s → s.text.length ≤ 48 → (∀ x ∈ l, 0 ≤ x ∧ x < 256) → (runS s l).text.length ≤ 48 := by
  intro l
  induction l with
  | nil => intro s _ h _; exact h
  | cons c r ih => intro s h ht hb; exact ih (stepS s c) (step_ok h (hb c (List.mem_cons_self ..)).1) (step_txt h ht c) (fun x hx => hb x (List.mem_cons_of_mem _ hx))
structure FI (w0 : World) (S : Nat → Prop) (vt : Value) (g gx : Nat) (s : RS) (w : World) : Prop where
  rd : RdrS S w0.heap.size w0.heap.size w g s vt (.slice none 0 0)
  lt : ∀ k, S k → k < w.heap.size
  out : s.out = []
  txt : s.text.length ≤ 48
  ok : okS s
  by_ : By (keptS s)
  ref : IsS60 w0 w gx (strOfNums (keptS s)) (s.at_ == 3)
  nx : ¬ S gx
  bel : Below w0.heap.size w0 w
theorem FI.set {w0 : World} {S : Nat → Prop} {vt : Value} {g gx : Nat} {s : RS} {w : World} (h : FI w0 S vt g gx s w) {q : Nat} (hq : ¬ S q) (hx : gx ≠ q) (hb : w0.heap.size ≤ q) (i : Nat) (u : Value) : FI w0 S vt g gx s (w.setCell ⟨q, i, none⟩ u) :=
  ⟨Rdr.step h.rd fun k hk _ => Below.heap_setCell w ⟨q, i, none⟩ u k (fun e => hq (by have e : k = q := e; exact e ▸ hk)), fun k hk => by simpa [World.setCell] using h.lt k hk, h.out, h.txt, h.ok, h.by_, IsS60.far h.ref hx u, h.nx, below_set h.bel hb⟩
theorem str_back {W1 w7 : World} {k c : Nat} {s : ByteArray} {rest : List Value} {fr : Nat × Nat} {T : Nat → Prop} (hrow : W1.heap[k]? = some (.cells ((nums s).map (Value.int .u8) ++ rest).toArray 5 fr)) (hT : ¬ T k) (hs : s.size ≤ 10000) (hk : Kept W1 w7 T) : (convert 54 9 (.slice (some ⟨k, 0, none⟩) s.size c)).run Try.prog w7 = .ok (.string s) w7 := by
  have h := Kd.C_string (P := Try.prog) (c := c) Try.underlying54 Try.underlying5 Try.underlying9 (row_kept hrow hT (by rw [nums_len]; omega) w7 hk)
  rw [nums_len, show strOfNums (nums s) = s from son_bytes s] at h
  exact h
theorem bw_row2 (W : World) (s : ByteArray) : ∃ rest lo hi, (Lib.bytesWorld W 5 s).heap[W.heap.size]? = some (.cells ((nums s).map (Value.int .u8) ++ rest).toArray 5 (lo, hi)) ∧ s.size ≤ lo := by
  refine ⟨(List.replicate (grownCap W s.size 0 5 - s.size) (.int .u8 0)), (Lib.bytesCells W 5 s).size, (Lib.bytesCells W 5 s).size + 1, ?_, ?_⟩
  · rw [Lib.bytesWorld_at_new]
    congr 2
    apply Array.ext'
    simp only [Lib.bytesCells, nums, Array.toList_append, Array.toList_map, Array.toList_replicate, List.map_map, List.toList_toArray]
    rfl
  · simp only [Lib.bytesCells, Array.size_append, Array.size_map]
    exact Nat.le_add_right _ _
theorem blk_some {w : World} {g : Nat} {t : TypeId} {cs : Array Value} {fr : Nat × Nat} (h : w.heap[g]? = some (.cells cs t fr)) (i : Nat) (hi : i < cs.size) : ∃ u, w.cell? ⟨g, i, none⟩ = some u :=
  ⟨_, (cell_of_row w g i cs t fr h).trans (Array.getElem?_eq_getElem hi)⟩
theorem blk_froz {w : World} {g : Nat} {t : TypeId} {cs : Array Value} {lo hi : Nat} (h : w.heap[g]? = some (.cells cs t (lo, hi))) (i : Nat) (hi : i < lo) : w.frozen? ⟨g, i, none⟩ = false := by
  simp [World.frozen?, h]
  omega
/-- A block of so many cells, of which the first may be written. -/
def Blk (t n : Nat) (q : Nat) (w : World) : Prop := ∃ cs lo hi, w.heap[q]? = some (.cells cs t (lo, hi)) ∧ n ≤ cs.size ∧ (n ≤ lo ∨ hi = 0)
theorem Blk.cell {t n q : Nat} {w : World} (h : Blk t n q w) (i : Nat) (hi : i < n) : (∃ u, w.cell? ⟨q, i, none⟩ = some u) ∧ w.frozen? ⟨q, i, none⟩ = false := by
  obtain ⟨cs, lo, hi', hb, h1, h2⟩ := h
  refine ⟨blk_some hb i (by omega), ?_⟩
  simp [World.frozen?, hb]
  omega
theorem Blk.set {t n q : Nat} {w : World} (h : Blk t n q w) (g i : Nat) (u : Value) : Blk t n q (w.setCell ⟨g, i, none⟩ u) := by
  obtain ⟨cs, lo, hi', hb, h1, h2⟩ := h
  by_cases e : q = g
  · subst e
    exact ⟨_, lo, hi', blk_setF hb i u, by simpa using h1, h2⟩
  · exact ⟨cs, lo, hi', (Below.heap_setCell w ⟨g, i, none⟩ u q e).trans hb, h1, h2⟩
theorem Blk.heap {t n q : Nat} {w w1 : World} (h : Blk t n q w) (e : w1.heap[q]? = w.heap[q]?) : Blk t n q w1 := by
  obtain ⟨cs, lo, hi', hb, h1, h2⟩ := h
  exact ⟨cs, lo, hi', e.trans hb, h1, h2⟩
set_option maxHeartbeats 8000000 in
set_option maxRecDepth 100000 in
theorem feeds_calls (A0 : Option Addr) (c0 : Nat) (l0 : List ByteArray) (cl : Int) (w : World) (hr0 : Kd.C Kd.string w A0 l0.length l0) (hc0 : l0.length ≤ c0) :
    Calls Try.prog 6 #[.slice A0 l0.length c0, .int .i64 cl] w fun e w' => e = .returned (.bool true) ∧ Below w.heap.size w w' := by
  have hcs := fun (W : World) (s : ByteArray) => conv_str W s
  have hcc := fun (W : World) (C : Array Value) (n c : Nat) => conv_const W C n c
  have HR := Aside0.mk hr0
  have HC := Aside0.mk hc0
  clear hr0 hc0
  go_enter Try.func6, Try.ntmps6
  go_wp2_with fail
  refine (live_calls w).mono ?_
  rintro _ w1 ⟨rfl, hb1⟩
  have HB1 := Aside0.mk hb1
  clear hb1
  go_wp2_with fail
  refine (new_calls w1).mono ?_
  rintro _ w2 ⟨g0, rfl, hg0, hg1, hgr, hb2⟩
  have HG := Aside0.mk hgr
  have HB2 := Aside0.mk (HB1.out.trans (hb2.mono HB1.out.size))
  have HG1 := Aside0.mk hg1
  have HG0 := Aside0.mk hg0
  have HB12 := Aside0.mk hb2
  clear hgr hb2 hg0 hg1
  go_wp2_with fail
  have h0 : FI w (fun k => k = g0) (.slice none 0 0) g0 w2.heap.size ⟨0, 0, [], []⟩ (w2.alloc (.cells #[.string ⟨#[]⟩, .bool false] 60)) := by
    have hz : w.heap.size ≤ g0 := Nat.le_trans HB1.out.size HG0.out
    have hr : RdrS (fun k => k = g0) w.heap.size w.heap.size w2 g0 ⟨0, 0, [], []⟩ (.slice none 0 0) (.slice none 0 0) := ⟨rfl, hz, (HG.out 0).2.2.1, Kd.R_nil _ _ _ _ _, Kd.R_nil _ _ _ _ _⟩
    refine ⟨Rdr.step hr fun k hk hlt => Below.heap_alloc _ _ _ hlt, fun k hk => by rw [hk]; have := HG1.out; simp; omega, rfl, by decide, by unfold okS; decide, fun x hx => by simp [keptS] at hx, IsS60.new w w2 ⟨#[]⟩ false HB2.out, fun h => by have := HG1.out; omega, below_alloc HB2.out _⟩
  have H0 := Aside0.mk h0
  have HBL := Aside0.mk (below_alloc HB2.out (.cells #[.string ⟨#[]⟩, .bool false] 60))
  clear h0
  refine (few_calls A0 c0 l0 _ (Kd.C_below HR.out HBL.out) HC.out).mono ?_
  rintro _ _ ⟨rfl, rfl⟩
  have HRl : Aside0 (Kd.C Kd.string w A0 (l0.take 100).length (l0.take 100)) := ⟨by
    by_cases h : l0.length ≤ 100
    · rw [List.take_of_length_le h]; exact HR.out
    · have h := Kd.C_take (m := 100) HR.out (by omega)
      exact h⟩
  have HGX : Aside0 (w.heap.size ≤ w2.heap.size) := ⟨HB2.out.size⟩
  generalize hgx : w2.heap.size = gx at *
  generalize hwx : w2.alloc (.cells #[.string ⟨#[]⟩, .bool false] 60) = w3 at *
  have HLL : Aside0 ((l0.take 100).length ≤ 100) := ⟨by rw [List.length_take]; omega⟩
  generalize l0.take 100 = l at *
  clear hgx hwx HBL HB2 HB12 HG HG0 HG1 HR HC HB1
  go_wp2_with fail
  go_loopg [6, 24] l.length (fun kq v6 v24 w' => ∃ (i g : Nat) (st : RS) (S : Nat → Prop) (vt : Value), i ≤ l.length ∧ kq = l.length - i ∧ v6 = .pointer (some ⟨g, 0, none⟩) ∧ v24 = .int .i64 (i : Int) ∧ Aside0 (FI w S vt g gx st w'))
  case atStart => exact ⟨0, g0, _, _, _, by omega, rfl, rfl, rfl, H0⟩
  case round =>
    clear H0
    obtain ⟨i, g, st, S, vt, hi, rfl, rfl, rfl, HI⟩ := hrel
    by_cases c1 : i < l.length
    · obtain ⟨ad, eA, x0⟩ := Kd.at_string (Kd.C_below HRl.out HI.out.bel) (i : Int) (by omega) (by omega)
      subst eA
      obtain ⟨s, hs⟩ : ∃ s, s = rdOf ByteArray.empty l (i : Int) := ⟨_, rfl⟩
      rw [← hs, Int.toNat_natCast] at x0
      have C1 := Aside0.mk c1
      clear hs
      by_cases c2 : s.size ≤ 10000
      · have k2 : ¬ ((10000 : Int) < (s.size : Int)) := by omega
        have C2 := Aside0.mk c2
        clear c2
        by_cases c3 : ((i : Int) == cl) = true
        · go_wp2_with fail
          obtain ⟨At, ct, et⟩ := Kd.R_slice HI.out.rd.2.2.2.1
          have hrd := HI.out.rd
          rw [et] at hrd
          refine (rclone_calls S w.heap.size w.heap.size g st.at_ st.lacks At ct (.slice none 0 0) st.text st.out wr hrd (Nat.le_trans HI.out.txt (by decide))).mono ?_
          clear hrd et
          rintro _ wc ⟨g2, v2, rfl, hg2, hr2, hb2⟩
          have HR2 := Aside0.mk hr2
          have HB2 := Aside0.mk hb2
          have HG2 := Aside0.mk hg2
          clear hr2 hb2 hg2
          go_wp2_with fail
          have hfo := feed_at S w.heap.size w.heap.size g st vt wc.heap.size 3 [81, 120, 66] [] (3, 3 + 1) wc (wc.alloc (.cells #[.int .u8 81, .int .u8 120, .int .u8 66] 5 (3, 3 + 1))) (Rdr.step HI.out.rd fun k hk hlt => HB2.out.block k hlt) (fun k hk => Nat.lt_of_lt_of_le (HI.out.lt k hk) HB2.out.size) HI.out.out HI.out.ok (Nat.le_trans HI.out.bel.size HB2.out.size) (below_alloc (Below.refl _ _) _) (Nat.le_refl _) (by simpa using heap_alloc_new wc _) (Nat.le_refl _) (by decide) (by decide)
          refine Calls.mono (show Calls Try.prog 23 #[.pointer (some ⟨g, 0, none⟩), .slice (some ⟨wc.heap.size, 0, none⟩) 3 3] _ _ from hfo) ?_
          clear hfo
          rintro _ we ⟨ve, vte, Se, rfl, _, _, _, _, hke, hbe⟩
          have hgr : gx < wr.heap.size := HI.out.ref.lt
          have hfi2 : FI w (fun k => wr.heap.size ≤ k ∧ k < wc.heap.size) v2 g2 gx st we := by
            have hz := HI.out.bel.size
            have hz2 := HB2.out.size
            have r2 := HR2.out 0
            have r3 : Rdr (fun k => wr.heap.size ≤ k ∧ k < wc.heap.size) w.heap.size w.heap.size wc g2 st.at_ st.lacks v2 (.slice none 0 0) st.text [] := ⟨r2.1, Nat.le_trans hz r2.2.1, r2.2.2.1, Kd.R_lower r2.2.2.2.1 hz, Kd.R_nil _ _ _ _ _⟩
            have r4 := Rdr.step (w1 := we) r3 fun k hk hlt => hke.2 k hlt (fun h => by have := HI.out.lt k h; omega)
            refine ⟨by have := HI.out.out; unfold RdrS; rw [this]; exact r4, fun k hk => Nat.lt_of_lt_of_le hk.2 hke.1, HI.out.out, HI.out.txt, HI.out.ok, HI.out.by_, (HI.out.ref.below HB2.out).kept hke HI.out.nx, fun h => by omega, (HI.out.bel.trans (HB2.out.mono hz)).trans hbe⟩
          have HI2 := Aside0.mk hfi2
          clear hfi2 hgr hke hbe HR2 HG2
          go_wp2_with fail
          have hbw := bw_below we s
          obtain ⟨rest, lo, hi', row0, hlo⟩ := bw_row2 we s
          have HLO := Aside0.mk hlo
          clear hlo
          have hSW : ¬ ((fun k => wr.heap.size ≤ k ∧ k < wc.heap.size) we.heap.size ∨ we.heap.size = gx) := fun h => h.elim (fun h => by have := HI2.out.lt _ h; omega) (fun h => by have := HI2.out.ref.lt; omega)
          have hf5 := feed_calls (fun k => wr.heap.size ≤ k ∧ k < wc.heap.size) w.heap.size w.heap.size g2 st v2 (some ⟨we.heap.size, 0, none⟩) (grownCap we s.size 0 5) (nums s) (Lib.bytesWorld we 5 s) (Rdr.step HI2.out.rd fun k hk hlt => hbw.block k hlt) HI2.out.out HI2.out.ok (Nat.le_trans HI2.out.bel.size hbw.size) (row_kept row0 (fun h => hSW (.inl h)) (by rw [nums_len]; have := C2.out; omega)) (by rw [nums_len]; exact grownCap_ge _ _ _ _) (nums_by s) (by rw [nums_len]; have := C2.out; omega)
          rw [nums_len] at hf5
          refine Calls.mono hf5 ?_
          clear hf5
          rintro _ w5 ⟨v5, vt5, S5, rfl, hs5, hz5, hrd5, hro5, hk5, hb5⟩
          obtain ⟨A5, n5, e5⟩ := Kd.R_slice hro5
          subst e5
          obtain ⟨hfr, hby5⟩ := feed_ref st HI2.out.ok HI2.out.out HI2.out.by_ s C2.out
          have hok5 := run_okS HI2.out.ok (nums s) (nums_by s)
          have htx := run_txt (nums s) st HI2.out.ok HI2.out.txt (nums_by s)
          have hol := run_out_len (nums s) st
          rw [HI2.out.out, nums_len] at hol
          have hgx : gx < we.heap.size := HI2.out.ref.lt
          have hnx5 : ¬ S5 gx := fun h => (hs5 gx h).elim HI2.out.nx (fun h => by have := hbw.size; omega)
          have hb5' : Below w.heap.size w w5 := (HI2.out.bel.trans (hbw.mono HI2.out.bel.size)).trans hb5
          have hi5 : IsS60 w w5 gx (strOfNums (keptS st)) (st.at_ == 3) := (HI2.out.ref.below hbw).kept hk5 HI2.out.nx
          obtain ⟨st5, hst5⟩ : ∃ st5, st5 = runS st (nums s) := ⟨_, rfl⟩
          rw [← hst5] at hfr hby5 hok5 htx hol hrd5 hro5 ⊢
          have HTX := Aside0.mk htx
          clear htx
          obtain ⟨fs, hfs⟩ : ∃ fs, fs = st5.out := ⟨_, rfl⟩
          rw [← hfs] at hfr hol hro5 ⊢
          have hro5' := hi5.apart hro5 (by decide)
          have hst3 : (st5.at_ == 3) = decide (st5.at_ = 3) := rfl
          obtain ⟨bd, hbd⟩ : ∃ bd, bd = (st5.at_ == 3) := ⟨_, rfl⟩
          obtain ⟨y5, hy5⟩ : ∃ y5, y5 = strOfNums (keptS st5) := ⟨_, rfl⟩
          have hleft : leftI st5 = (y5.size : Int) := by rw [left_kept st5 hok5, hy5, strOfNums_size]
          rw [← hst3, ← hbd, ← hy5, show decide (st.at_ = 3) = (st.at_ == 3) from rfl] at hfr
          obtain ⟨K, hK⟩ : ∃ K : Nat, K = 40000 := ⟨_, rfl⟩
          rw [← hK] at hfr
          clear hK
          have HFR := Aside0.mk hfr
          have HBY := Aside0.mk hby5
          have HOK := Aside0.mk hok5
          have hol : fs.length ≤ 10000 := by have := C2.out; simp only [List.length_nil] at hol; omega
          have HOL := Aside0.mk hol
          have HRD := Aside0.mk hrd5
          have HRO := Aside0.mk hro5'
          have HNX := Aside0.mk hnx5
          have HB5 := Aside0.mk hb5'
          have HI5 := Aside0.mk hi5
          have HZ5 := Aside0.mk hz5
          have HK5 := Aside0.mk hk5
          have HBD := Aside0.mk hbd
          have HY5 := Aside0.mk hy5
          have HLF := Aside0.mk hleft
          have HROW := Aside0.mk row0
          have HSW := Aside0.mk hSW
          have HS5 := Aside0.mk hs5
          have HBW := Aside0.mk hbw
          have HGX0 := Aside0.mk hgx
          clear hfr hby5 hok5 hol hrd5 hro5 hro5' hnx5 hb5' hi5 hz5 hk5 hbd hy5 hleft row0 hSW hs5 hb5 hbw hgx hst5 hfs hst3
          go_wp2_with fail
          refine wp_region_noPanic ?_
          refine wp_region_any (by kernel_rfl) ?_
          change wpAny _ _ _ _ _ _ _ (World.drew _)
          refine wpAny_take (i := 0) (oi := { dst := some 49, op := Op.move (Operand.tmp 12), type := 52, pos := "law.go:54", after := #[], guard := none }) (v := ?vb0) rfl (by kernel_rfl) (by kernel_rfl) (by kernel_rfl) (fun _ _ _ h => h) (Or.inl ⟨by rfl, ?hyb0⟩) ?restb0
          case hyb0 =>
            intro w
            go_simp
            all_goals with_reducible rfl
          (try simp only [Act.put, List.setIfInBounds_toArray, List.set_cons_zero, List.set_cons_succ])
          refine wpAny_take (i := 1) (oi := { dst := some 50, op := Op.move (Operand.tmp 7), type := 58, pos := "law.go:54", after := #[], guard := none }) (v := ?vb1) rfl (by kernel_rfl) (by kernel_rfl) (by kernel_rfl) (fun _ _ _ h => h) (Or.inl ⟨by rfl, ?hyb1⟩) ?restb1
          case hyb1 =>
            intro w
            go_simp
            all_goals with_reducible rfl
          (try simp only [Act.put, List.setIfInBounds_toArray, List.set_cons_zero, List.set_cons_succ])
          refine wpAny_take (i := 2) (oi := { dst := some 51, op := Op.move (Operand.tmp 9), type := 9, pos := "law.go:54", after := #[], guard := none }) (v := ?vb2) rfl (by kernel_rfl) (by kernel_rfl) (by kernel_rfl) (fun _ _ _ h => h) (Or.inl ⟨by rfl, ?hyb2⟩) ?restb2
          case hyb2 =>
            intro w
            go_simp
            all_goals with_reducible rfl
          (try simp only [Act.put, List.setIfInBounds_toArray, List.set_cons_zero, List.set_cons_succ])
          refine wpAny_ready (rs := [3]) (by kernel_rfl) (by simp) ?_
          refine AllReady.cons (o := { dst := some 52, op := Op.call { callee := Callee.value (Operand.func 29), args := #[Operand.tmp 50, Operand.tmp 51], argTypes := #[58, 9] }, type := 52, pos := "law.go:54", after := #[{ on := 1, ground := Ground.data }, { on := 2, ground := Ground.data }], guard := none }) rfl (fun KK hKK => ?_) AllReady.nil
          go_simp
          (refine (stopcockref09_Reader_Feed.calls K gx (strOfNums (keptS st)) (st.at_ == 3) s fs y5 bd w w5.drew HI5.out.drew HB5.out.drew HFR.out).mono ?_; rintro _ w6 ⟨v6, rfl, ho6, hi6, hb6, hk6⟩; obtain ⟨A6, n6, e6⟩ := Kd.R_slice ho6; subst e6; have HO6 := Aside0.mk ho6; have HI6 := Aside0.mk hi6; have HB6 := Aside0.mk hb6; have hk6' : Kept w5 w6 (fun k => k = gx) := ⟨hk6.1, fun i hi hn => hk6.2 i hi hn (by simp)⟩; have HK6 := Aside0.mk hk6'; have HR6 := Aside0.mk (Kd.R_kept HRO.out hk6' (fun k hk => hk.2)); clear ho6 hi6 hb6 hk6 hk6')
          (try dsimp only)
          refine hKK _ _ ?_
          clear hKK KK
          (try simp only [Act.put, List.setIfInBounds_toArray, List.set_cons_zero, List.set_cons_succ])
          refine wpAny_ready (rs := [4]) (by kernel_rfl) (by simp) ?_
          refine AllReady.cons (o := { dst := some 53, op := Op.call { callee := Callee.value (Operand.func 24), args := #[Operand.tmp 49, Operand.tmp 52], argTypes := #[52, 52] }, type := 4, pos := "law.go:54", after := #[{ on := 0, ground := Ground.data }, { on := 3, ground := Ground.data }, { on := 3, ground := Ground.chain }], guard := none }) rfl (fun KK hKK => ?_) AllReady.nil
          go_simp
          (refine (stopcockref09_Same.calls (fs.length + 1) A5 n5 fs A6 n6 fs true w6 (Kd.R_reads' HR6.out).2.2 (Kd.R_reads' HR6.out).2.1 (Kd.R_reads' HO6.out).2.2 (Kd.R_reads' HO6.out).2.1 (same_refl fs (Nat.le_trans HOL.out (by decide)))).mono ?_; rintro _ w7 ⟨rfl, hd7⟩; have e7 : w7.heap = w6.heap := (by obtain ⟨n7, hw7⟩ := hd7.out; rw [hw7]; rfl); have hb7 : Below w.heap.size w w7 := (by obtain ⟨n7, hw7⟩ := hd7.out; rw [hw7]; exact pw_below_drewN HB6.out n7); have HB7 := Aside0.mk hb7; have HRD7 : Aside0 (Rdr S5 w.heap.size (Lib.bytesWorld we 5 s).heap.size w7 g2 st5.at_ st5.lacks vt5 (.slice none 0 0) st5.text []) := ⟨Rdr.step HRD.out fun k hk hlt => (by rw [e7]; exact HK6.out.2 k hlt (fun e => HNX.out (e ▸ hk)))⟩; have HI7 : Aside0 (IsS60 w w7 gx y5 bd) := ⟨by rw [e7]; exact HI6.out.1, HI6.out.2⟩; have q0 : w7.cell? ⟨gx, 0, none⟩ = some (.string y5) := (blk_cell HI7.out.1 0).trans rfl; have q1 : w7.cell? ⟨gx, 1, none⟩ = some (.bool bd) := (blk_cell HI7.out.1 1).trans rfl; have hk7 : Kept (Lib.bytesWorld we 5 s) w7 (fun k => (fun k => wr.heap.size ≤ k ∧ k < wc.heap.size) k ∨ k = gx) := (by have h := (HK5.out.mono (S' := fun k => (fun k => wr.heap.size ≤ k ∧ k < wc.heap.size) k ∨ k = gx) (fun _ h => .inl h)).then_ HK6.out (fun _ h => .inl (.inr h)); exact ⟨by rw [e7]; exact h.1, fun i hi hn => by rw [e7]; exact h.2 i hi hn⟩); have hcv := fun c => str_back (c := c) HROW.out HSW.out C2.out hk7; have HK7 := Aside0.mk hk7; have E7 := Aside0.mk e7; clear e7 hb7 hd7 hk7)
          (try dsimp only)
          refine hKK _ _ ?_
          clear hKK KK
          (try simp only [Act.put, List.setIfInBounds_toArray, List.set_cons_zero, List.set_cons_succ])
          have hHeld : (fun w' => w'.cell? ⟨gx, 0, none⟩ = some (.string y5) ∧ w'.cell? ⟨gx, 1, none⟩ = some (.bool bd) ∧ ∀ c : Nat, (convert 54 9 (.slice (some ⟨we.heap.size, 0, none⟩) s.size c)).run Try.prog w' = .ok (.string s) w') w7 := ⟨q0, q1, hcv⟩
          refine wpAny_of_held (S := (fun w' => w'.cell? ⟨gx, 0, none⟩ = some (.string y5) ∧ w'.cell? ⟨gx, 1, none⟩ = some (.bool bd) ∧ ∀ c : Nat, (convert 54 9 (.slice (some ⟨we.heap.size, 0, none⟩) s.size c)).run Try.prog w' = .ok (.string s) w')) _ _ _ _ ?_
          refine wpAnyH_take (i := 5) (oi := { dst := some 54, op := Op.unOp UnOp.not 4 (Operand.tmp 53), type := 4, pos := "law.go:54", after := #[{ on := 4, ground := Ground.data }], guard := none }) (v := ?vb5) rfl (by kernel_rfl) (by kernel_rfl) (by kernel_rfl) (fun _ _ _ h => h) (Or.inl ⟨by rfl, ?hyb5⟩) hHeld ?restb5
          case hyb5 =>
            intro w hSw
            try dsimp only at hSw
            go_simp
            all_goals with_reducible rfl
          (try simp only [Act.put, List.setIfInBounds_toArray, List.set_cons_zero, List.set_cons_succ])
          refine wpAnyH_take (i := 6) (oi := { dst := some 55, op := Op.move (Operand.tmp 54), type := 4, pos := "law.go:54", after := #[{ on := 5, ground := Ground.data }, { on := 4, ground := Ground.chain }], guard := none }) (v := ?vb6) rfl (by kernel_rfl) (by kernel_rfl) (by kernel_rfl) (fun _ _ _ h => h) (Or.inl ⟨by rfl, ?hyb6⟩) hHeld ?restb6
          case hyb6 =>
            intro w hSw
            try dsimp only at hSw
            go_simp
            all_goals with_reducible rfl
          (try simp only [Act.put, List.setIfInBounds_toArray, List.set_cons_zero, List.set_cons_succ])
          refine wpAnyH_take (i := 7) (oi := { dst := some 56, op := Op.move (Operand.tmp 6), type := 50, pos := "law.go:54", after := #[{ on := 6, ground := Ground.guard }], guard := some (6, false) }) (v := ?vb7) rfl (by kernel_rfl) (by kernel_rfl) (by kernel_rfl) (fun _ _ _ h => h) (Or.inl ⟨by rfl, ?hyb7⟩) hHeld ?restb7
          case hyb7 =>
            intro w hSw
            try dsimp only at hSw
            go_simp
            all_goals with_reducible rfl
          (try simp only [Act.put, List.setIfInBounds_toArray, List.set_cons_zero, List.set_cons_succ])
          refine wpAnyH_take (i := 9) (oi := { dst := some 58, op := Op.move (Operand.tmp 7), type := 58, pos := "law.go:54", after := #[{ on := 6, ground := Ground.guard }], guard := some (6, false) }) (v := ?vb9) rfl (by kernel_rfl) (by kernel_rfl) (by kernel_rfl) (fun _ _ _ h => h) (Or.inl ⟨by rfl, ?hyb9⟩) hHeld ?restb9
          case hyb9 =>
            intro w hSw
            try dsimp only at hSw
            go_simp
            all_goals with_reducible rfl
          (try simp only [Act.put, List.setIfInBounds_toArray, List.set_cons_zero, List.set_cons_succ])
          refine wpAnyH_take (i := 10) (oi := { dst := some 59, op := Op.nilCheck (Operand.tmp 58), type := 0, pos := "law.go:54", after := #[{ on := 9, ground := Ground.data }, { on := 6, ground := Ground.guard }], guard := some (6, false) }) (v := ?vb10) rfl (by kernel_rfl) (by kernel_rfl) (by kernel_rfl) (fun _ _ _ h => h) (Or.inl ⟨by rfl, ?hyb10⟩) hHeld ?restb10
          case hyb10 =>
            intro w hSw
            try dsimp only at hSw
            go_simp
            all_goals with_reducible rfl
          (try simp only [Act.put, List.setIfInBounds_toArray, List.set_cons_zero, List.set_cons_succ])
          refine wpAnyH_take (i := 11) (oi := { dst := some 60, op := Op.fieldAddr 60 (Operand.tmp 59) 1, type := 0, pos := "law.go:54", after := #[{ on := 10, ground := Ground.data }, { on := 6, ground := Ground.guard }], guard := some (6, false) }) (v := ?vb11) rfl (by kernel_rfl) (by kernel_rfl) (by kernel_rfl) (fun _ _ _ h => h) (Or.inl ⟨by rfl, ?hyb11⟩) hHeld ?restb11
          case hyb11 =>
            intro w hSw
            try dsimp only at hSw
            go_simp
            all_goals with_reducible rfl
          (try simp only [Act.put, List.setIfInBounds_toArray, List.set_cons_zero, List.set_cons_succ])
          refine wpAnyH_take (i := 12) (oi := { dst := some 61, op := Op.load 4 (Operand.tmp 60), type := 4, pos := "law.go:54", after := #[{ on := 11, ground := Ground.data }, { on := 6, ground := Ground.guard }], guard := some (6, false) }) (v := ?vb12) rfl (by kernel_rfl) (by kernel_rfl) (by kernel_rfl) (fun _ _ _ h => h) (Or.inl ⟨by rfl, ?hyb12⟩) hHeld ?restb12
          case hyb12 =>
            intro w hSw
            try dsimp only at hSw
            go_simp
            all_goals with_reducible rfl
          (try simp only [Act.put, List.setIfInBounds_toArray, List.set_cons_zero, List.set_cons_succ])
          refine wpAnyH_ready (rs := [8]) (by kernel_rfl) (by simp) ?_
          refine AllReadyH.cons (o := { dst := some 57, op := Op.call { callee := Callee.value (Operand.func 25), args := #[Operand.tmp 56], argTypes := #[50] }, type := 4, pos := "law.go:54", after := #[{ on := 7, ground := Ground.data }, { on := 6, ground := Ground.chain }, { on := 6, ground := Ground.guard }], guard := some (6, false) }) rfl (fun KK hKK => ?_) AllReadyH.nil
          go_simp
          (refine (broken_calls S5 w.heap.size _ g2 st5.at_ st5.lacks vt5 (.slice none 0 0) st5.text [] w7 HRD7.out).mono ?_; rintro _ _ ⟨rfl, rfl⟩; rw [← HBD.out])
          (try dsimp only)
          refine hKK.out _ _ hHeld (fun hX => ?_)
          clear hX
          clear hKK KK
          (try simp only [Act.put, List.setIfInBounds_toArray, List.set_cons_zero, List.set_cons_succ])
          refine wpAnyH_take (i := 13) (oi := { dst := some 62, op := Op.binOp BinOp.neq 4 (Operand.tmp 57) (Operand.tmp 61) 4, type := 4, pos := "law.go:54", after := #[{ on := 8, ground := Ground.data }, { on := 12, ground := Ground.data }, { on := 6, ground := Ground.guard }], guard := some (6, false) }) (v := ?vb13) rfl (by kernel_rfl) (by kernel_rfl) (by kernel_rfl) (fun _ _ _ h => h) (Or.inl ⟨by rfl, ?hyb13⟩) hHeld ?restb13
          case hyb13 =>
            intro w hSw
            try dsimp only at hSw
            go_simp
            all_goals with_reducible rfl
          (try simp only [Act.put, List.setIfInBounds_toArray, List.set_cons_zero, List.set_cons_succ])
          refine wpAnyH_take (i := 14) (oi := { dst := some 63, op := Op.pick (Operand.tmp 55) (Operand.const (Value.bool true)) (Operand.tmp 62), type := 4, pos := "law.go:54", after := #[{ on := 6, ground := Ground.data }, { on := 13, ground := Ground.data }], guard := none }) (v := ?vb14) rfl (by kernel_rfl) (by kernel_rfl) (by kernel_rfl) (fun _ _ _ h => h) (Or.inl ⟨by rfl, ?hyb14⟩) hHeld ?restb14
          case hyb14 =>
            intro w hSw
            try dsimp only at hSw
            go_simp
            all_goals with_reducible rfl
          (try simp only [Act.put, List.setIfInBounds_toArray, List.set_cons_zero, List.set_cons_succ])
          refine wpAnyH_take (i := 15) (oi := { dst := some 64, op := Op.move (Operand.tmp 63), type := 4, pos := "law.go:54", after := #[{ on := 14, ground := Ground.data }, { on := 8, ground := Ground.chain }], guard := none }) (v := ?vb15) rfl (by kernel_rfl) (by kernel_rfl) (by kernel_rfl) (fun _ _ _ h => h) (Or.inl ⟨by rfl, ?hyb15⟩) hHeld ?restb15
          case hyb15 =>
            intro w hSw
            try dsimp only at hSw
            go_simp
            all_goals with_reducible rfl
          (try simp only [Act.put, List.setIfInBounds_toArray, List.set_cons_zero, List.set_cons_succ])
          refine wpAnyH_take (i := 16) (oi := { dst := some 65, op := Op.move (Operand.tmp 6), type := 50, pos := "law.go:54", after := #[{ on := 15, ground := Ground.guard }], guard := some (15, false) }) (v := ?vb16) rfl (by kernel_rfl) (by kernel_rfl) (by kernel_rfl) (fun _ _ _ h => h) (Or.inl ⟨by rfl, ?hyb16⟩) hHeld ?restb16
          case hyb16 =>
            intro w hSw
            try dsimp only at hSw
            go_simp
            all_goals with_reducible rfl
          (try simp only [Act.put, List.setIfInBounds_toArray, List.set_cons_zero, List.set_cons_succ])
          refine wpAnyH_take (i := 18) (oi := { dst := some 67, op := Op.move (Operand.tmp 7), type := 58, pos := "law.go:54", after := #[{ on := 15, ground := Ground.guard }], guard := some (15, false) }) (v := ?vb18) rfl (by kernel_rfl) (by kernel_rfl) (by kernel_rfl) (fun _ _ _ h => h) (Or.inl ⟨by rfl, ?hyb18⟩) hHeld ?restb18
          case hyb18 =>
            intro w hSw
            try dsimp only at hSw
            go_simp
            all_goals with_reducible rfl
          (try simp only [Act.put, List.setIfInBounds_toArray, List.set_cons_zero, List.set_cons_succ])
          refine wpAnyH_take (i := 19) (oi := { dst := some 68, op := Op.nilCheck (Operand.tmp 67), type := 0, pos := "law.go:54", after := #[{ on := 18, ground := Ground.data }, { on := 15, ground := Ground.guard }], guard := some (15, false) }) (v := ?vb19) rfl (by kernel_rfl) (by kernel_rfl) (by kernel_rfl) (fun _ _ _ h => h) (Or.inl ⟨by rfl, ?hyb19⟩) hHeld ?restb19
          case hyb19 =>
            intro w hSw
            try dsimp only at hSw
            go_simp
            all_goals with_reducible rfl
          (try simp only [Act.put, List.setIfInBounds_toArray, List.set_cons_zero, List.set_cons_succ])
          refine wpAnyH_take (i := 20) (oi := { dst := some 69, op := Op.fieldAddr 60 (Operand.tmp 68) 0, type := 0, pos := "law.go:54", after := #[{ on := 19, ground := Ground.data }, { on := 15, ground := Ground.guard }], guard := some (15, false) }) (v := ?vb20) rfl (by kernel_rfl) (by kernel_rfl) (by kernel_rfl) (fun _ _ _ h => h) (Or.inl ⟨by rfl, ?hyb20⟩) hHeld ?restb20
          case hyb20 =>
            intro w hSw
            try dsimp only at hSw
            go_simp
            all_goals with_reducible rfl
          (try simp only [Act.put, List.setIfInBounds_toArray, List.set_cons_zero, List.set_cons_succ])
          refine wpAnyH_take (i := 21) (oi := { dst := some 70, op := Op.load 9 (Operand.tmp 69), type := 9, pos := "law.go:54", after := #[{ on := 20, ground := Ground.data }, { on := 15, ground := Ground.guard }], guard := some (15, false) }) (v := ?vb21) rfl (by kernel_rfl) (by kernel_rfl) (by kernel_rfl) (fun _ _ _ h => h) (Or.inl ⟨by rfl, ?hyb21⟩) hHeld ?restb21
          case hyb21 =>
            intro w hSw
            try dsimp only at hSw
            go_simp
            all_goals with_reducible rfl
          (try simp only [Act.put, List.setIfInBounds_toArray, List.set_cons_zero, List.set_cons_succ])
          refine wpAnyH_take (i := 22) (oi := { dst := some 71, op := Op.call { callee := Callee.builtin Builtin.len, args := #[Operand.tmp 70], argTypes := #[9] }, type := 3, pos := "law.go:54", after := #[{ on := 21, ground := Ground.data }, { on := 15, ground := Ground.guard }], guard := some (15, false) }) (v := ?vb22) rfl (by kernel_rfl) (by kernel_rfl) (by kernel_rfl) (fun _ _ _ h => h) (Or.inl ⟨by rfl, ?hyb22⟩) hHeld ?restb22
          case hyb22 =>
            intro w hSw
            try dsimp only at hSw
            go_simp
            all_goals with_reducible rfl
          (try simp only [Act.put, List.setIfInBounds_toArray, List.set_cons_zero, List.set_cons_succ])
          refine wpAnyH_ready (rs := [17]) (by kernel_rfl) (by simp) ?_
          refine AllReadyH.cons (o := { dst := some 66, op := Op.call { callee := Callee.value (Operand.func 26), args := #[Operand.tmp 65], argTypes := #[50] }, type := 3, pos := "law.go:54", after := #[{ on := 16, ground := Ground.data }, { on := 15, ground := Ground.chain }, { on := 15, ground := Ground.guard }], guard := some (15, false) }) rfl (fun KK hKK => ?_) AllReadyH.nil
          go_simp
          (refine (left_calls S5 w.heap.size _ g2 ⟨st5.at_, st5.lacks, st5.text, []⟩ vt5 (.slice none 0 0) w7 HRD7.out HOK.out).mono ?_; rintro _ _ ⟨rfl, rfl⟩; rw [show leftI ⟨st5.at_, st5.lacks, st5.text, []⟩ = (y5.size : Int) from HLF.out])
          (try dsimp only)
          refine hKK.out _ _ hHeld (fun hX => ?_)
          clear hX
          clear hKK KK
          (try simp only [Act.put, List.setIfInBounds_toArray, List.set_cons_zero, List.set_cons_succ])
          refine wpAnyH_take (i := 23) (oi := { dst := some 72, op := Op.binOp BinOp.neq 3 (Operand.tmp 66) (Operand.tmp 71) 3, type := 4, pos := "law.go:54", after := #[{ on := 17, ground := Ground.data }, { on := 22, ground := Ground.data }, { on := 15, ground := Ground.guard }], guard := some (15, false) }) (v := ?vb23) rfl (by kernel_rfl) (by kernel_rfl) (by kernel_rfl) (fun _ _ _ h => h) (Or.inl ⟨by rfl, ?hyb23⟩) hHeld ?restb23
          case hyb23 =>
            intro w hSw
            try dsimp only at hSw
            go_simp
            all_goals with_reducible rfl
          (try simp only [Act.put, List.setIfInBounds_toArray, List.set_cons_zero, List.set_cons_succ])
          refine wpAnyH_take (i := 24) (oi := { dst := some 73, op := Op.pick (Operand.tmp 64) (Operand.const (Value.bool true)) (Operand.tmp 72), type := 4, pos := "law.go:54", after := #[{ on := 15, ground := Ground.data }, { on := 23, ground := Ground.data }], guard := none }) (v := ?vb24) rfl (by kernel_rfl) (by kernel_rfl) (by kernel_rfl) (fun _ _ _ h => h) (Or.inl ⟨by rfl, ?hyb24⟩) hHeld ?restb24
          case hyb24 =>
            intro w hSw
            try dsimp only at hSw
            go_simp
            all_goals with_reducible rfl
          (try simp only [Act.put, List.setIfInBounds_toArray, List.set_cons_zero, List.set_cons_succ])
          refine wpAnyH_take (i := 25) (oi := { dst := some 74, op := Op.move (Operand.tmp 73), type := 4, pos := "law.go:54", after := #[{ on := 24, ground := Ground.data }, { on := 17, ground := Ground.chain }], guard := none }) (v := ?vb25) rfl (by kernel_rfl) (by kernel_rfl) (by kernel_rfl) (fun _ _ _ h => h) (Or.inl ⟨by rfl, ?hyb25⟩) hHeld ?restb25
          case hyb25 =>
            intro w hSw
            try dsimp only at hSw
            go_simp
            all_goals with_reducible rfl
          (try simp only [Act.put, List.setIfInBounds_toArray, List.set_cons_zero, List.set_cons_succ])
          refine wpAnyH_take (i := 26) (oi := { dst := some 75, op := Op.move (Operand.tmp 11), type := 54, pos := "law.go:54", after := #[{ on := 25, ground := Ground.guard }], guard := some (25, false) }) (v := ?vb26) rfl (by kernel_rfl) (by kernel_rfl) (by kernel_rfl) (fun _ _ _ h => h) (Or.inl ⟨by rfl, ?hyb26⟩) hHeld ?restb26
          case hyb26 =>
            intro w hSw
            try dsimp only at hSw
            go_simp
            all_goals with_reducible rfl
          (try simp only [Act.put, List.setIfInBounds_toArray, List.set_cons_zero, List.set_cons_succ])
          refine wpAnyH_take (i := 27) (oi := { dst := some 76, op := Op.convert 54 9 (Operand.tmp 75), type := 9, pos := "law.go:54", after := #[{ on := 26, ground := Ground.data }, { on := 25, ground := Ground.guard }], guard := some (25, false) }) (v := ?vb27) rfl (by kernel_rfl) (by kernel_rfl) (by kernel_rfl) (fun _ _ _ h => h) (Or.inl ⟨by rfl, ?hyb27⟩) hHeld ?restb27
          case hyb27 =>
            intro w hSw
            try dsimp only at hSw
            go_simp
            all_goals with_reducible rfl
          (try simp only [Act.put, List.setIfInBounds_toArray, List.set_cons_zero, List.set_cons_succ])
          refine wpAnyH_take (i := 28) (oi := { dst := some 77, op := Op.move (Operand.tmp 9), type := 9, pos := "law.go:54", after := #[{ on := 25, ground := Ground.guard }], guard := some (25, false) }) (v := ?vb28) rfl (by kernel_rfl) (by kernel_rfl) (by kernel_rfl) (fun _ _ _ h => h) (Or.inl ⟨by rfl, ?hyb28⟩) hHeld ?restb28
          case hyb28 =>
            intro w hSw
            try dsimp only at hSw
            go_simp
            all_goals with_reducible rfl
          (try simp only [Act.put, List.setIfInBounds_toArray, List.set_cons_zero, List.set_cons_succ])
          refine wpAnyH_take (i := 29) (oi := { dst := some 78, op := Op.binOp BinOp.neq 9 (Operand.tmp 76) (Operand.tmp 77) 9, type := 4, pos := "law.go:54", after := #[{ on := 27, ground := Ground.data }, { on := 28, ground := Ground.data }, { on := 25, ground := Ground.guard }], guard := some (25, false) }) (v := ?vb29) rfl (by kernel_rfl) (by kernel_rfl) (by kernel_rfl) (fun _ _ _ h => h) (Or.inl ⟨by rfl, ?hyb29⟩) hHeld ?restb29
          case hyb29 =>
            intro w hSw
            try dsimp only at hSw
            go_simp
            all_goals with_reducible rfl
          (try simp only [Act.put, List.setIfInBounds_toArray, List.set_cons_zero, List.set_cons_succ])
          refine wpAnyH_take (i := 30) (oi := { dst := some 79, op := Op.pick (Operand.tmp 74) (Operand.const (Value.bool true)) (Operand.tmp 78), type := 4, pos := "law.go:54", after := #[{ on := 25, ground := Ground.data }, { on := 29, ground := Ground.data }], guard := none }) (v := ?vb30) rfl (by kernel_rfl) (by kernel_rfl) (by kernel_rfl) (fun _ _ _ h => h) (Or.inl ⟨by rfl, ?hyb30⟩) hHeld ?restb30
          case hyb30 =>
            intro w hSw
            try dsimp only at hSw
            go_simp
            all_goals with_reducible rfl
          (try simp only [Act.put, List.setIfInBounds_toArray, List.set_cons_zero, List.set_cons_succ])
          refine wpAnyH_done (by kernel_rfl) ?_ _
          refine NoPanic.normal ?_
          all_goals
            (clear q0 q1 hcv hHeld
             have hw1 : IntKind.i64.wrap ((i : Int) + 1) = (i : Int) + 1 := by rw [IntKind.wrap_i64]; have := C1.out; have := HLL.out; omega
             have hfi : FI w S5 vt5 g2 gx ⟨st5.at_, st5.lacks, st5.text, []⟩ w7 := ⟨⟨HRD7.out.1, HRD7.out.2.1, HRD7.out.2.2.1, HRD7.out.2.2.2.1, Kd.R_nil _ _ _ _ _⟩, fun k hk => by rw [E7.out]; exact Nat.lt_of_lt_of_le (HZ5.out k hk) HK6.out.1, rfl, HTX.out, HOK.out, HBY.out, by have h := HI7.out; rw [HY5.out, HBD.out] at h; exact h, HNX.out, HB7.out⟩
             have hfr : fs.length = 0 ∨ ∃ q, A5 = some ⟨q, 0, none⟩ ∧ Blk 64 (2 * fs.length) q w7 ∧ ¬ S5 q ∧ gx ≠ q ∧ w.heap.size ≤ q := by
               rcases own_row HR6.out with h | ⟨q, cs, h1, h2, h3, h4, h5⟩
               · exact .inl h
               · exact .inr ⟨q, h1, ⟨cs, 0, 0, by rw [E7.out]; exact h2, h3, .inr rfl⟩, h4.1, fun e => h4.2 e.symm, Nat.le_trans (Nat.le_trans HI2.out.bel.size HBW.out.size) h5⟩
             have hbb : Blk 5 s.size we.heap.size w7 := Blk.heap (w := Lib.bytesWorld we 5 s) ⟨_, lo, hi', HROW.out, by simp [nums_len], .inl HLO.out⟩ (HK7.out.2 _ (blk_lt HROW.out) HSW.out)
             have hs5 : ¬ S5 we.heap.size := fun h => (HS5.out _ h).elim (fun h => HSW.out (.inl h)) (fun h => by have := blk_lt HROW.out; omega)
             have hx5 : gx ≠ we.heap.size := fun h => HSW.out (.inr h.symm)
             have HFI := Aside0.mk hfi
             have HFR := Aside0.mk hfr
             have HBB := Aside0.mk hbb
             have HS5' := Aside0.mk hs5
             have HX5 := Aside0.mk hx5
             clear hfi hfr hbb hs5 hx5
             have HWZ : Aside0 (w.heap.size ≤ we.heap.size) := ⟨HI2.out.bel.size⟩
             generalize hwz : we.heap.size = wz at HBB HS5' HX5 HWZ ⊢
             clear hwz
             go_wp2_with fail
             go_loopg [82] fs.length (fun kq v82 w' => ∃ j : Nat, j ≤ fs.length ∧ kq = fs.length - j ∧ v82 = .int .i64 (j : Int) ∧ Aside0 (FI w S5 vt5 g2 gx ⟨st5.at_, st5.lacks, st5.text, []⟩ w' ∧ (fs.length = 0 ∨ ∃ q, A5 = some ⟨q, 0, none⟩ ∧ Blk 64 (2 * fs.length) q w' ∧ ¬ S5 q ∧ gx ≠ q ∧ w.heap.size ≤ q) ∧ Blk 5 s.size wz w'))
             case atStart => exact ⟨0, by omega, rfl, rfl, ⟨HFI.out, HFR.out, HBB.out⟩⟩
             case round =>
               obtain ⟨j, hj, rfl, rfl, HJ⟩ := hrel
               by_cases d1 : j < fs.length
               · have hw2 : IntKind.i64.wrap ((j : Int) + 1) = (j : Int) + 1 := by rw [IntKind.wrap_i64]; have := HOL.out; omega
                 obtain ⟨q, hA, hbk, hq1, hq2, hq3⟩ := HJ.out.2.1.resolve_left (by omega)
                 subst hA
                 obtain ⟨⟨u, hu⟩, hfz⟩ := hbk.cell (j * 2 + 1) (by omega)
                 have D1 := Aside0.mk d1
                 have HBK := Aside0.mk hbk
                 have HQ := Aside0.mk (And.intro hq1 (And.intro hq2 hq3))
                 clear hbk hq1 hq2 hq3
                 go_wp2_with fail
                 go_roundg (fs.length - (j + 1))
                 case measure =>
                   have := D1.out
                   omega
                 case rel => exact ⟨j + 1, by have := D1.out; omega, rfl, rfl, ⟨HJ.out.1.set HQ.out.1 HQ.out.2.1 HQ.out.2.2 _ _, .inr ⟨q, rfl, HBK.out.set _ _ _, HQ.out.1, HQ.out.2.1, HQ.out.2.2⟩, HJ.out.2.2.set _ _ _⟩⟩
               · obtain rfl : j = fs.length := by omega
                 have HJ1 := Aside0.mk HJ.out.1
                 have HJ2 := Aside0.mk HJ.out.2.2
                 go_wp2_with fail
                 go_loopg [92] s.size (fun kq v92 w' => ∃ j2 : Nat, j2 ≤ s.size ∧ kq = s.size - j2 ∧ v92 = .int .i64 (j2 : Int) ∧ Aside0 (FI w S5 vt5 g2 gx ⟨st5.at_, st5.lacks, st5.text, []⟩ w' ∧ Blk 5 s.size wz w'))
                 case atStart => exact ⟨0, by omega, rfl, rfl, ⟨HJ1.out, HJ2.out⟩⟩
                 case round =>
                   obtain ⟨j2, hj2, rfl, rfl, HM⟩ := hrel
                   by_cases d2 : j2 < s.size
                   · have hw3 : IntKind.i64.wrap ((j2 : Int) + 1) = (j2 : Int) + 1 := by rw [IntKind.wrap_i64]; have := C2.out; omega
                     obtain ⟨⟨u, hu⟩, hfz⟩ := HM.out.2.cell j2 d2
                     have D2 := Aside0.mk d2
                     go_wp2_with fail
                     go_roundg (s.size - (j2 + 1))
                     case measure =>
                       have := D2.out
                       omega
                     case rel => exact ⟨j2 + 1, by have := D2.out; omega, rfl, rfl, ⟨HM.out.1.set HS5'.out HX5.out HWZ.out _ _, HM.out.2.set _ _ _⟩⟩
                   · go_wp2_with fail
                     go_roundg (l.length - (i + 1))
                     case measure =>
                       have := C1.out
                       omega
                     case rel => exact ⟨i + 1, g2, ⟨st5.at_, st5.lacks, st5.text, []⟩, S5, vt5, by have := C1.out; omega, rfl, rfl, rfl, ⟨HM.out.1⟩⟩)

        · have c3 : ((i : Int) == cl) = false := by simpa using c3
          go_wp2_with fail
          have hbw := bw_below wr s
          obtain ⟨rest, lo, hi', row0, hlo⟩ := bw_row2 wr s
          have HLO := Aside0.mk hlo
          clear hlo
          have hSW : ¬ (S wr.heap.size ∨ wr.heap.size = gx) := fun h => h.elim (fun h => by have := HI.out.lt _ h; omega) (fun h => by have := HI.out.ref.lt; omega)
          have hf5 := feed_calls S w.heap.size w.heap.size g st vt (some ⟨wr.heap.size, 0, none⟩) (grownCap wr s.size 0 5) (nums s) (Lib.bytesWorld wr 5 s) (Rdr.step HI.out.rd fun k hk hlt => hbw.block k hlt) HI.out.out HI.out.ok (Nat.le_trans HI.out.bel.size hbw.size) (row_kept row0 (fun h => hSW (.inl h)) (by rw [nums_len]; have := C2.out; omega)) (by rw [nums_len]; exact grownCap_ge _ _ _ _) (nums_by s) (by rw [nums_len]; have := C2.out; omega)
          rw [nums_len] at hf5
          refine Calls.mono hf5 ?_
          clear hf5
          rintro _ w5 ⟨v5, vt5, S5, rfl, hs5, hz5, hrd5, hro5, hk5, hb5⟩
          obtain ⟨A5, n5, e5⟩ := Kd.R_slice hro5
          subst e5
          obtain ⟨hfr, hby5⟩ := feed_ref st HI.out.ok HI.out.out HI.out.by_ s C2.out
          have hok5 := run_okS HI.out.ok (nums s) (nums_by s)
          have htx := run_txt (nums s) st HI.out.ok HI.out.txt (nums_by s)
          have hol := run_out_len (nums s) st
          rw [HI.out.out, nums_len] at hol
          have hgx : gx < wr.heap.size := HI.out.ref.lt
          have hnx5 : ¬ S5 gx := fun h => (hs5 gx h).elim HI.out.nx (fun h => by have := hbw.size; omega)
          have hb5' : Below w.heap.size w w5 := (HI.out.bel.trans (hbw.mono HI.out.bel.size)).trans hb5
          have hi5 : IsS60 w w5 gx (strOfNums (keptS st)) (st.at_ == 3) := (HI.out.ref.below hbw).kept hk5 HI.out.nx
          obtain ⟨st5, hst5⟩ : ∃ st5, st5 = runS st (nums s) := ⟨_, rfl⟩
          rw [← hst5] at hfr hby5 hok5 htx hol hrd5 hro5 ⊢
          have HTX := Aside0.mk htx
          clear htx
          obtain ⟨fs, hfs⟩ : ∃ fs, fs = st5.out := ⟨_, rfl⟩
          rw [← hfs] at hfr hol hro5 ⊢
          have hro5' := hi5.apart hro5 (by decide)
          have hst3 : (st5.at_ == 3) = decide (st5.at_ = 3) := rfl
          obtain ⟨bd, hbd⟩ : ∃ bd, bd = (st5.at_ == 3) := ⟨_, rfl⟩
          obtain ⟨y5, hy5⟩ : ∃ y5, y5 = strOfNums (keptS st5) := ⟨_, rfl⟩
          have hleft : leftI st5 = (y5.size : Int) := by rw [left_kept st5 hok5, hy5, strOfNums_size]
          rw [← hst3, ← hbd, ← hy5, show decide (st.at_ = 3) = (st.at_ == 3) from rfl] at hfr
          obtain ⟨K, hK⟩ : ∃ K : Nat, K = 40000 := ⟨_, rfl⟩
          rw [← hK] at hfr
          clear hK
          have HFR := Aside0.mk hfr
          have HBY := Aside0.mk hby5
          have HOK := Aside0.mk hok5
          have hol : fs.length ≤ 10000 := by have := C2.out; simp only [List.length_nil] at hol; omega
          have HOL := Aside0.mk hol
          have HRD := Aside0.mk hrd5
          have HRO := Aside0.mk hro5'
          have HNX := Aside0.mk hnx5
          have HB5 := Aside0.mk hb5'
          have HI5 := Aside0.mk hi5
          have HZ5 := Aside0.mk hz5
          have HK5 := Aside0.mk hk5
          have HBD := Aside0.mk hbd
          have HY5 := Aside0.mk hy5
          have HLF := Aside0.mk hleft
          have HROW := Aside0.mk row0
          have HSW := Aside0.mk hSW
          have HS5 := Aside0.mk hs5
          have HBW := Aside0.mk hbw
          have HGX0 := Aside0.mk hgx
          clear hfr hby5 hok5 hol hrd5 hro5 hro5' hnx5 hb5' hi5 hz5 hk5 hbd hy5 hleft row0 hSW hs5 hb5 hbw hgx hst5 hfs hst3
          go_wp2_with fail
          refine wp_region_noPanic ?_
          refine wp_region_any (by kernel_rfl) ?_
          change wpAny _ _ _ _ _ _ _ (World.drew _)
          refine wpAny_take (i := 0) (oi := { dst := some 49, op := Op.move (Operand.tmp 12), type := 52, pos := "law.go:54", after := #[], guard := none }) (v := ?va0) rfl (by kernel_rfl) (by kernel_rfl) (by kernel_rfl) (fun _ _ _ h => h) (Or.inl ⟨by rfl, ?hya0⟩) ?resta0
          case hya0 =>
            intro w
            go_simp
            all_goals with_reducible rfl
          (try simp only [Act.put, List.setIfInBounds_toArray, List.set_cons_zero, List.set_cons_succ])
          refine wpAny_take (i := 1) (oi := { dst := some 50, op := Op.move (Operand.tmp 7), type := 58, pos := "law.go:54", after := #[], guard := none }) (v := ?va1) rfl (by kernel_rfl) (by kernel_rfl) (by kernel_rfl) (fun _ _ _ h => h) (Or.inl ⟨by rfl, ?hya1⟩) ?resta1
          case hya1 =>
            intro w
            go_simp
            all_goals with_reducible rfl
          (try simp only [Act.put, List.setIfInBounds_toArray, List.set_cons_zero, List.set_cons_succ])
          refine wpAny_take (i := 2) (oi := { dst := some 51, op := Op.move (Operand.tmp 9), type := 9, pos := "law.go:54", after := #[], guard := none }) (v := ?va2) rfl (by kernel_rfl) (by kernel_rfl) (by kernel_rfl) (fun _ _ _ h => h) (Or.inl ⟨by rfl, ?hya2⟩) ?resta2
          case hya2 =>
            intro w
            go_simp
            all_goals with_reducible rfl
          (try simp only [Act.put, List.setIfInBounds_toArray, List.set_cons_zero, List.set_cons_succ])
          refine wpAny_ready (rs := [3]) (by kernel_rfl) (by simp) ?_
          refine AllReady.cons (o := { dst := some 52, op := Op.call { callee := Callee.value (Operand.func 29), args := #[Operand.tmp 50, Operand.tmp 51], argTypes := #[58, 9] }, type := 52, pos := "law.go:54", after := #[{ on := 1, ground := Ground.data }, { on := 2, ground := Ground.data }], guard := none }) rfl (fun KK hKK => ?_) AllReady.nil
          go_simp
          (refine (stopcockref09_Reader_Feed.calls K gx (strOfNums (keptS st)) (st.at_ == 3) s fs y5 bd w w5.drew HI5.out.drew HB5.out.drew HFR.out).mono ?_; rintro _ w6 ⟨v6, rfl, ho6, hi6, hb6, hk6⟩; obtain ⟨A6, n6, e6⟩ := Kd.R_slice ho6; subst e6; have HO6 := Aside0.mk ho6; have HI6 := Aside0.mk hi6; have HB6 := Aside0.mk hb6; have hk6' : Kept w5 w6 (fun k => k = gx) := ⟨hk6.1, fun i hi hn => hk6.2 i hi hn (by simp)⟩; have HK6 := Aside0.mk hk6'; have HR6 := Aside0.mk (Kd.R_kept HRO.out hk6' (fun k hk => hk.2)); clear ho6 hi6 hb6 hk6 hk6')
          (try dsimp only)
          refine hKK _ _ ?_
          clear hKK KK
          (try simp only [Act.put, List.setIfInBounds_toArray, List.set_cons_zero, List.set_cons_succ])
          refine wpAny_ready (rs := [4]) (by kernel_rfl) (by simp) ?_
          refine AllReady.cons (o := { dst := some 53, op := Op.call { callee := Callee.value (Operand.func 24), args := #[Operand.tmp 49, Operand.tmp 52], argTypes := #[52, 52] }, type := 4, pos := "law.go:54", after := #[{ on := 0, ground := Ground.data }, { on := 3, ground := Ground.data }, { on := 3, ground := Ground.chain }], guard := none }) rfl (fun KK hKK => ?_) AllReady.nil
          go_simp
          (refine (stopcockref09_Same.calls (fs.length + 1) A5 n5 fs A6 n6 fs true w6 (Kd.R_reads' HR6.out).2.2 (Kd.R_reads' HR6.out).2.1 (Kd.R_reads' HO6.out).2.2 (Kd.R_reads' HO6.out).2.1 (same_refl fs (Nat.le_trans HOL.out (by decide)))).mono ?_; rintro _ w7 ⟨rfl, hd7⟩; have e7 : w7.heap = w6.heap := (by obtain ⟨n7, hw7⟩ := hd7.out; rw [hw7]; rfl); have hb7 : Below w.heap.size w w7 := (by obtain ⟨n7, hw7⟩ := hd7.out; rw [hw7]; exact pw_below_drewN HB6.out n7); have HB7 := Aside0.mk hb7; have HRD7 : Aside0 (Rdr S5 w.heap.size (Lib.bytesWorld wr 5 s).heap.size w7 g st5.at_ st5.lacks vt5 (.slice none 0 0) st5.text []) := ⟨Rdr.step HRD.out fun k hk hlt => (by rw [e7]; exact HK6.out.2 k hlt (fun e => HNX.out (e ▸ hk)))⟩; have HI7 : Aside0 (IsS60 w w7 gx y5 bd) := ⟨by rw [e7]; exact HI6.out.1, HI6.out.2⟩; have q0 : w7.cell? ⟨gx, 0, none⟩ = some (.string y5) := (blk_cell HI7.out.1 0).trans rfl; have q1 : w7.cell? ⟨gx, 1, none⟩ = some (.bool bd) := (blk_cell HI7.out.1 1).trans rfl; have hk7 : Kept (Lib.bytesWorld wr 5 s) w7 (fun k => S k ∨ k = gx) := (by have h := (HK5.out.mono (S' := fun k => S k ∨ k = gx) (fun _ h => .inl h)).then_ HK6.out (fun _ h => .inl (.inr h)); exact ⟨by rw [e7]; exact h.1, fun i hi hn => by rw [e7]; exact h.2 i hi hn⟩); have hcv := fun c => str_back (c := c) HROW.out HSW.out C2.out hk7; have HK7 := Aside0.mk hk7; have E7 := Aside0.mk e7; clear e7 hb7 hd7 hk7)
          (try dsimp only)
          refine hKK _ _ ?_
          clear hKK KK
          (try simp only [Act.put, List.setIfInBounds_toArray, List.set_cons_zero, List.set_cons_succ])
          have hHeld : (fun w' => w'.cell? ⟨gx, 0, none⟩ = some (.string y5) ∧ w'.cell? ⟨gx, 1, none⟩ = some (.bool bd) ∧ ∀ c : Nat, (convert 54 9 (.slice (some ⟨wr.heap.size, 0, none⟩) s.size c)).run Try.prog w' = .ok (.string s) w') w7 := ⟨q0, q1, hcv⟩
          refine wpAny_of_held (S := (fun w' => w'.cell? ⟨gx, 0, none⟩ = some (.string y5) ∧ w'.cell? ⟨gx, 1, none⟩ = some (.bool bd) ∧ ∀ c : Nat, (convert 54 9 (.slice (some ⟨wr.heap.size, 0, none⟩) s.size c)).run Try.prog w' = .ok (.string s) w')) _ _ _ _ ?_
          refine wpAnyH_take (i := 5) (oi := { dst := some 54, op := Op.unOp UnOp.not 4 (Operand.tmp 53), type := 4, pos := "law.go:54", after := #[{ on := 4, ground := Ground.data }], guard := none }) (v := ?va5) rfl (by kernel_rfl) (by kernel_rfl) (by kernel_rfl) (fun _ _ _ h => h) (Or.inl ⟨by rfl, ?hya5⟩) hHeld ?resta5
          case hya5 =>
            intro w hSw
            try dsimp only at hSw
            go_simp
            all_goals with_reducible rfl
          (try simp only [Act.put, List.setIfInBounds_toArray, List.set_cons_zero, List.set_cons_succ])
          refine wpAnyH_take (i := 6) (oi := { dst := some 55, op := Op.move (Operand.tmp 54), type := 4, pos := "law.go:54", after := #[{ on := 5, ground := Ground.data }, { on := 4, ground := Ground.chain }], guard := none }) (v := ?va6) rfl (by kernel_rfl) (by kernel_rfl) (by kernel_rfl) (fun _ _ _ h => h) (Or.inl ⟨by rfl, ?hya6⟩) hHeld ?resta6
          case hya6 =>
            intro w hSw
            try dsimp only at hSw
            go_simp
            all_goals with_reducible rfl
          (try simp only [Act.put, List.setIfInBounds_toArray, List.set_cons_zero, List.set_cons_succ])
          refine wpAnyH_take (i := 7) (oi := { dst := some 56, op := Op.move (Operand.tmp 6), type := 50, pos := "law.go:54", after := #[{ on := 6, ground := Ground.guard }], guard := some (6, false) }) (v := ?va7) rfl (by kernel_rfl) (by kernel_rfl) (by kernel_rfl) (fun _ _ _ h => h) (Or.inl ⟨by rfl, ?hya7⟩) hHeld ?resta7
          case hya7 =>
            intro w hSw
            try dsimp only at hSw
            go_simp
            all_goals with_reducible rfl
          (try simp only [Act.put, List.setIfInBounds_toArray, List.set_cons_zero, List.set_cons_succ])
          refine wpAnyH_take (i := 9) (oi := { dst := some 58, op := Op.move (Operand.tmp 7), type := 58, pos := "law.go:54", after := #[{ on := 6, ground := Ground.guard }], guard := some (6, false) }) (v := ?va9) rfl (by kernel_rfl) (by kernel_rfl) (by kernel_rfl) (fun _ _ _ h => h) (Or.inl ⟨by rfl, ?hya9⟩) hHeld ?resta9
          case hya9 =>
            intro w hSw
            try dsimp only at hSw
            go_simp
            all_goals with_reducible rfl
          (try simp only [Act.put, List.setIfInBounds_toArray, List.set_cons_zero, List.set_cons_succ])
          refine wpAnyH_take (i := 10) (oi := { dst := some 59, op := Op.nilCheck (Operand.tmp 58), type := 0, pos := "law.go:54", after := #[{ on := 9, ground := Ground.data }, { on := 6, ground := Ground.guard }], guard := some (6, false) }) (v := ?va10) rfl (by kernel_rfl) (by kernel_rfl) (by kernel_rfl) (fun _ _ _ h => h) (Or.inl ⟨by rfl, ?hya10⟩) hHeld ?resta10
          case hya10 =>
            intro w hSw
            try dsimp only at hSw
            go_simp
            all_goals with_reducible rfl
          (try simp only [Act.put, List.setIfInBounds_toArray, List.set_cons_zero, List.set_cons_succ])
          refine wpAnyH_take (i := 11) (oi := { dst := some 60, op := Op.fieldAddr 60 (Operand.tmp 59) 1, type := 0, pos := "law.go:54", after := #[{ on := 10, ground := Ground.data }, { on := 6, ground := Ground.guard }], guard := some (6, false) }) (v := ?va11) rfl (by kernel_rfl) (by kernel_rfl) (by kernel_rfl) (fun _ _ _ h => h) (Or.inl ⟨by rfl, ?hya11⟩) hHeld ?resta11
          case hya11 =>
            intro w hSw
            try dsimp only at hSw
            go_simp
            all_goals with_reducible rfl
          (try simp only [Act.put, List.setIfInBounds_toArray, List.set_cons_zero, List.set_cons_succ])
          refine wpAnyH_take (i := 12) (oi := { dst := some 61, op := Op.load 4 (Operand.tmp 60), type := 4, pos := "law.go:54", after := #[{ on := 11, ground := Ground.data }, { on := 6, ground := Ground.guard }], guard := some (6, false) }) (v := ?va12) rfl (by kernel_rfl) (by kernel_rfl) (by kernel_rfl) (fun _ _ _ h => h) (Or.inl ⟨by rfl, ?hya12⟩) hHeld ?resta12
          case hya12 =>
            intro w hSw
            try dsimp only at hSw
            go_simp
            all_goals with_reducible rfl
          (try simp only [Act.put, List.setIfInBounds_toArray, List.set_cons_zero, List.set_cons_succ])
          refine wpAnyH_ready (rs := [8]) (by kernel_rfl) (by simp) ?_
          refine AllReadyH.cons (o := { dst := some 57, op := Op.call { callee := Callee.value (Operand.func 25), args := #[Operand.tmp 56], argTypes := #[50] }, type := 4, pos := "law.go:54", after := #[{ on := 7, ground := Ground.data }, { on := 6, ground := Ground.chain }, { on := 6, ground := Ground.guard }], guard := some (6, false) }) rfl (fun KK hKK => ?_) AllReadyH.nil
          go_simp
          (refine (broken_calls S5 w.heap.size _ g st5.at_ st5.lacks vt5 (.slice none 0 0) st5.text [] w7 HRD7.out).mono ?_; rintro _ _ ⟨rfl, rfl⟩; rw [← HBD.out])
          (try dsimp only)
          refine hKK.out _ _ hHeld (fun hX => ?_)
          clear hX
          clear hKK KK
          (try simp only [Act.put, List.setIfInBounds_toArray, List.set_cons_zero, List.set_cons_succ])
          refine wpAnyH_take (i := 13) (oi := { dst := some 62, op := Op.binOp BinOp.neq 4 (Operand.tmp 57) (Operand.tmp 61) 4, type := 4, pos := "law.go:54", after := #[{ on := 8, ground := Ground.data }, { on := 12, ground := Ground.data }, { on := 6, ground := Ground.guard }], guard := some (6, false) }) (v := ?va13) rfl (by kernel_rfl) (by kernel_rfl) (by kernel_rfl) (fun _ _ _ h => h) (Or.inl ⟨by rfl, ?hya13⟩) hHeld ?resta13
          case hya13 =>
            intro w hSw
            try dsimp only at hSw
            go_simp
            all_goals with_reducible rfl
          (try simp only [Act.put, List.setIfInBounds_toArray, List.set_cons_zero, List.set_cons_succ])
          refine wpAnyH_take (i := 14) (oi := { dst := some 63, op := Op.pick (Operand.tmp 55) (Operand.const (Value.bool true)) (Operand.tmp 62), type := 4, pos := "law.go:54", after := #[{ on := 6, ground := Ground.data }, { on := 13, ground := Ground.data }], guard := none }) (v := ?va14) rfl (by kernel_rfl) (by kernel_rfl) (by kernel_rfl) (fun _ _ _ h => h) (Or.inl ⟨by rfl, ?hya14⟩) hHeld ?resta14
          case hya14 =>
            intro w hSw
            try dsimp only at hSw
            go_simp
            all_goals with_reducible rfl
          (try simp only [Act.put, List.setIfInBounds_toArray, List.set_cons_zero, List.set_cons_succ])
          refine wpAnyH_take (i := 15) (oi := { dst := some 64, op := Op.move (Operand.tmp 63), type := 4, pos := "law.go:54", after := #[{ on := 14, ground := Ground.data }, { on := 8, ground := Ground.chain }], guard := none }) (v := ?va15) rfl (by kernel_rfl) (by kernel_rfl) (by kernel_rfl) (fun _ _ _ h => h) (Or.inl ⟨by rfl, ?hya15⟩) hHeld ?resta15
          case hya15 =>
            intro w hSw
            try dsimp only at hSw
            go_simp
            all_goals with_reducible rfl
          (try simp only [Act.put, List.setIfInBounds_toArray, List.set_cons_zero, List.set_cons_succ])
          refine wpAnyH_take (i := 16) (oi := { dst := some 65, op := Op.move (Operand.tmp 6), type := 50, pos := "law.go:54", after := #[{ on := 15, ground := Ground.guard }], guard := some (15, false) }) (v := ?va16) rfl (by kernel_rfl) (by kernel_rfl) (by kernel_rfl) (fun _ _ _ h => h) (Or.inl ⟨by rfl, ?hya16⟩) hHeld ?resta16
          case hya16 =>
            intro w hSw
            try dsimp only at hSw
            go_simp
            all_goals with_reducible rfl
          (try simp only [Act.put, List.setIfInBounds_toArray, List.set_cons_zero, List.set_cons_succ])
          refine wpAnyH_take (i := 18) (oi := { dst := some 67, op := Op.move (Operand.tmp 7), type := 58, pos := "law.go:54", after := #[{ on := 15, ground := Ground.guard }], guard := some (15, false) }) (v := ?va18) rfl (by kernel_rfl) (by kernel_rfl) (by kernel_rfl) (fun _ _ _ h => h) (Or.inl ⟨by rfl, ?hya18⟩) hHeld ?resta18
          case hya18 =>
            intro w hSw
            try dsimp only at hSw
            go_simp
            all_goals with_reducible rfl
          (try simp only [Act.put, List.setIfInBounds_toArray, List.set_cons_zero, List.set_cons_succ])
          refine wpAnyH_take (i := 19) (oi := { dst := some 68, op := Op.nilCheck (Operand.tmp 67), type := 0, pos := "law.go:54", after := #[{ on := 18, ground := Ground.data }, { on := 15, ground := Ground.guard }], guard := some (15, false) }) (v := ?va19) rfl (by kernel_rfl) (by kernel_rfl) (by kernel_rfl) (fun _ _ _ h => h) (Or.inl ⟨by rfl, ?hya19⟩) hHeld ?resta19
          case hya19 =>
            intro w hSw
            try dsimp only at hSw
            go_simp
            all_goals with_reducible rfl
          (try simp only [Act.put, List.setIfInBounds_toArray, List.set_cons_zero, List.set_cons_succ])
          refine wpAnyH_take (i := 20) (oi := { dst := some 69, op := Op.fieldAddr 60 (Operand.tmp 68) 0, type := 0, pos := "law.go:54", after := #[{ on := 19, ground := Ground.data }, { on := 15, ground := Ground.guard }], guard := some (15, false) }) (v := ?va20) rfl (by kernel_rfl) (by kernel_rfl) (by kernel_rfl) (fun _ _ _ h => h) (Or.inl ⟨by rfl, ?hya20⟩) hHeld ?resta20
          case hya20 =>
            intro w hSw
            try dsimp only at hSw
            go_simp
            all_goals with_reducible rfl
          (try simp only [Act.put, List.setIfInBounds_toArray, List.set_cons_zero, List.set_cons_succ])
          refine wpAnyH_take (i := 21) (oi := { dst := some 70, op := Op.load 9 (Operand.tmp 69), type := 9, pos := "law.go:54", after := #[{ on := 20, ground := Ground.data }, { on := 15, ground := Ground.guard }], guard := some (15, false) }) (v := ?va21) rfl (by kernel_rfl) (by kernel_rfl) (by kernel_rfl) (fun _ _ _ h => h) (Or.inl ⟨by rfl, ?hya21⟩) hHeld ?resta21
          case hya21 =>
            intro w hSw
            try dsimp only at hSw
            go_simp
            all_goals with_reducible rfl
          (try simp only [Act.put, List.setIfInBounds_toArray, List.set_cons_zero, List.set_cons_succ])
          refine wpAnyH_take (i := 22) (oi := { dst := some 71, op := Op.call { callee := Callee.builtin Builtin.len, args := #[Operand.tmp 70], argTypes := #[9] }, type := 3, pos := "law.go:54", after := #[{ on := 21, ground := Ground.data }, { on := 15, ground := Ground.guard }], guard := some (15, false) }) (v := ?va22) rfl (by kernel_rfl) (by kernel_rfl) (by kernel_rfl) (fun _ _ _ h => h) (Or.inl ⟨by rfl, ?hya22⟩) hHeld ?resta22
          case hya22 =>
            intro w hSw
            try dsimp only at hSw
            go_simp
            all_goals with_reducible rfl
          (try simp only [Act.put, List.setIfInBounds_toArray, List.set_cons_zero, List.set_cons_succ])
          refine wpAnyH_ready (rs := [17]) (by kernel_rfl) (by simp) ?_
          refine AllReadyH.cons (o := { dst := some 66, op := Op.call { callee := Callee.value (Operand.func 26), args := #[Operand.tmp 65], argTypes := #[50] }, type := 3, pos := "law.go:54", after := #[{ on := 16, ground := Ground.data }, { on := 15, ground := Ground.chain }, { on := 15, ground := Ground.guard }], guard := some (15, false) }) rfl (fun KK hKK => ?_) AllReadyH.nil
          go_simp
          (refine (left_calls S5 w.heap.size _ g ⟨st5.at_, st5.lacks, st5.text, []⟩ vt5 (.slice none 0 0) w7 HRD7.out HOK.out).mono ?_; rintro _ _ ⟨rfl, rfl⟩; rw [show leftI ⟨st5.at_, st5.lacks, st5.text, []⟩ = (y5.size : Int) from HLF.out])
          (try dsimp only)
          refine hKK.out _ _ hHeld (fun hX => ?_)
          clear hX
          clear hKK KK
          (try simp only [Act.put, List.setIfInBounds_toArray, List.set_cons_zero, List.set_cons_succ])
          refine wpAnyH_take (i := 23) (oi := { dst := some 72, op := Op.binOp BinOp.neq 3 (Operand.tmp 66) (Operand.tmp 71) 3, type := 4, pos := "law.go:54", after := #[{ on := 17, ground := Ground.data }, { on := 22, ground := Ground.data }, { on := 15, ground := Ground.guard }], guard := some (15, false) }) (v := ?va23) rfl (by kernel_rfl) (by kernel_rfl) (by kernel_rfl) (fun _ _ _ h => h) (Or.inl ⟨by rfl, ?hya23⟩) hHeld ?resta23
          case hya23 =>
            intro w hSw
            try dsimp only at hSw
            go_simp
            all_goals with_reducible rfl
          (try simp only [Act.put, List.setIfInBounds_toArray, List.set_cons_zero, List.set_cons_succ])
          refine wpAnyH_take (i := 24) (oi := { dst := some 73, op := Op.pick (Operand.tmp 64) (Operand.const (Value.bool true)) (Operand.tmp 72), type := 4, pos := "law.go:54", after := #[{ on := 15, ground := Ground.data }, { on := 23, ground := Ground.data }], guard := none }) (v := ?va24) rfl (by kernel_rfl) (by kernel_rfl) (by kernel_rfl) (fun _ _ _ h => h) (Or.inl ⟨by rfl, ?hya24⟩) hHeld ?resta24
          case hya24 =>
            intro w hSw
            try dsimp only at hSw
            go_simp
            all_goals with_reducible rfl
          (try simp only [Act.put, List.setIfInBounds_toArray, List.set_cons_zero, List.set_cons_succ])
          refine wpAnyH_take (i := 25) (oi := { dst := some 74, op := Op.move (Operand.tmp 73), type := 4, pos := "law.go:54", after := #[{ on := 24, ground := Ground.data }, { on := 17, ground := Ground.chain }], guard := none }) (v := ?va25) rfl (by kernel_rfl) (by kernel_rfl) (by kernel_rfl) (fun _ _ _ h => h) (Or.inl ⟨by rfl, ?hya25⟩) hHeld ?resta25
          case hya25 =>
            intro w hSw
            try dsimp only at hSw
            go_simp
            all_goals with_reducible rfl
          (try simp only [Act.put, List.setIfInBounds_toArray, List.set_cons_zero, List.set_cons_succ])
          refine wpAnyH_take (i := 26) (oi := { dst := some 75, op := Op.move (Operand.tmp 11), type := 54, pos := "law.go:54", after := #[{ on := 25, ground := Ground.guard }], guard := some (25, false) }) (v := ?va26) rfl (by kernel_rfl) (by kernel_rfl) (by kernel_rfl) (fun _ _ _ h => h) (Or.inl ⟨by rfl, ?hya26⟩) hHeld ?resta26
          case hya26 =>
            intro w hSw
            try dsimp only at hSw
            go_simp
            all_goals with_reducible rfl
          (try simp only [Act.put, List.setIfInBounds_toArray, List.set_cons_zero, List.set_cons_succ])
          refine wpAnyH_take (i := 27) (oi := { dst := some 76, op := Op.convert 54 9 (Operand.tmp 75), type := 9, pos := "law.go:54", after := #[{ on := 26, ground := Ground.data }, { on := 25, ground := Ground.guard }], guard := some (25, false) }) (v := ?va27) rfl (by kernel_rfl) (by kernel_rfl) (by kernel_rfl) (fun _ _ _ h => h) (Or.inl ⟨by rfl, ?hya27⟩) hHeld ?resta27
          case hya27 =>
            intro w hSw
            try dsimp only at hSw
            go_simp
            all_goals with_reducible rfl
          (try simp only [Act.put, List.setIfInBounds_toArray, List.set_cons_zero, List.set_cons_succ])
          refine wpAnyH_take (i := 28) (oi := { dst := some 77, op := Op.move (Operand.tmp 9), type := 9, pos := "law.go:54", after := #[{ on := 25, ground := Ground.guard }], guard := some (25, false) }) (v := ?va28) rfl (by kernel_rfl) (by kernel_rfl) (by kernel_rfl) (fun _ _ _ h => h) (Or.inl ⟨by rfl, ?hya28⟩) hHeld ?resta28
          case hya28 =>
            intro w hSw
            try dsimp only at hSw
            go_simp
            all_goals with_reducible rfl
          (try simp only [Act.put, List.setIfInBounds_toArray, List.set_cons_zero, List.set_cons_succ])
          refine wpAnyH_take (i := 29) (oi := { dst := some 78, op := Op.binOp BinOp.neq 9 (Operand.tmp 76) (Operand.tmp 77) 9, type := 4, pos := "law.go:54", after := #[{ on := 27, ground := Ground.data }, { on := 28, ground := Ground.data }, { on := 25, ground := Ground.guard }], guard := some (25, false) }) (v := ?va29) rfl (by kernel_rfl) (by kernel_rfl) (by kernel_rfl) (fun _ _ _ h => h) (Or.inl ⟨by rfl, ?hya29⟩) hHeld ?resta29
          case hya29 =>
            intro w hSw
            try dsimp only at hSw
            go_simp
            all_goals with_reducible rfl
          (try simp only [Act.put, List.setIfInBounds_toArray, List.set_cons_zero, List.set_cons_succ])
          refine wpAnyH_take (i := 30) (oi := { dst := some 79, op := Op.pick (Operand.tmp 74) (Operand.const (Value.bool true)) (Operand.tmp 78), type := 4, pos := "law.go:54", after := #[{ on := 25, ground := Ground.data }, { on := 29, ground := Ground.data }], guard := none }) (v := ?va30) rfl (by kernel_rfl) (by kernel_rfl) (by kernel_rfl) (fun _ _ _ h => h) (Or.inl ⟨by rfl, ?hya30⟩) hHeld ?resta30
          case hya30 =>
            intro w hSw
            try dsimp only at hSw
            go_simp
            all_goals with_reducible rfl
          (try simp only [Act.put, List.setIfInBounds_toArray, List.set_cons_zero, List.set_cons_succ])
          refine wpAnyH_done (by kernel_rfl) ?_ _
          refine NoPanic.normal ?_
          all_goals
            (clear q0 q1 hcv hHeld
             have hw1 : IntKind.i64.wrap ((i : Int) + 1) = (i : Int) + 1 := by rw [IntKind.wrap_i64]; have := C1.out; have := HLL.out; omega
             have hfi : FI w S5 vt5 g gx ⟨st5.at_, st5.lacks, st5.text, []⟩ w7 := ⟨⟨HRD7.out.1, HRD7.out.2.1, HRD7.out.2.2.1, HRD7.out.2.2.2.1, Kd.R_nil _ _ _ _ _⟩, fun k hk => by rw [E7.out]; exact Nat.lt_of_lt_of_le (HZ5.out k hk) HK6.out.1, rfl, HTX.out, HOK.out, HBY.out, by have h := HI7.out; rw [HY5.out, HBD.out] at h; exact h, HNX.out, HB7.out⟩
             have hfr : fs.length = 0 ∨ ∃ q, A5 = some ⟨q, 0, none⟩ ∧ Blk 64 (2 * fs.length) q w7 ∧ ¬ S5 q ∧ gx ≠ q ∧ w.heap.size ≤ q := by
               rcases own_row HR6.out with h | ⟨q, cs, h1, h2, h3, h4, h5⟩
               · exact .inl h
               · exact .inr ⟨q, h1, ⟨cs, 0, 0, by rw [E7.out]; exact h2, h3, .inr rfl⟩, h4.1, fun e => h4.2 e.symm, Nat.le_trans (Nat.le_trans HI.out.bel.size HBW.out.size) h5⟩
             have hbb : Blk 5 s.size wr.heap.size w7 := Blk.heap (w := Lib.bytesWorld wr 5 s) ⟨_, lo, hi', HROW.out, by simp [nums_len], .inl HLO.out⟩ (HK7.out.2 _ (blk_lt HROW.out) HSW.out)
             have hs5 : ¬ S5 wr.heap.size := fun h => (HS5.out _ h).elim (fun h => HSW.out (.inl h)) (fun h => by have := blk_lt HROW.out; omega)
             have hx5 : gx ≠ wr.heap.size := fun h => HSW.out (.inr h.symm)
             have HFI := Aside0.mk hfi
             have HFR := Aside0.mk hfr
             have HBB := Aside0.mk hbb
             have HS5' := Aside0.mk hs5
             have HX5 := Aside0.mk hx5
             clear hfi hfr hbb hs5 hx5
             have HWZ : Aside0 (w.heap.size ≤ wr.heap.size) := ⟨HI.out.bel.size⟩
             generalize hwz : wr.heap.size = wz at HBB HS5' HX5 HWZ ⊢
             clear hwz
             go_wp2_with fail
             go_loopg [82] fs.length (fun kq v82 w' => ∃ j : Nat, j ≤ fs.length ∧ kq = fs.length - j ∧ v82 = .int .i64 (j : Int) ∧ Aside0 (FI w S5 vt5 g gx ⟨st5.at_, st5.lacks, st5.text, []⟩ w' ∧ (fs.length = 0 ∨ ∃ q, A5 = some ⟨q, 0, none⟩ ∧ Blk 64 (2 * fs.length) q w' ∧ ¬ S5 q ∧ gx ≠ q ∧ w.heap.size ≤ q) ∧ Blk 5 s.size wz w'))
             case atStart => exact ⟨0, by omega, rfl, rfl, ⟨HFI.out, HFR.out, HBB.out⟩⟩
             case round =>
               obtain ⟨j, hj, rfl, rfl, HJ⟩ := hrel
               by_cases d1 : j < fs.length
               · have hw2 : IntKind.i64.wrap ((j : Int) + 1) = (j : Int) + 1 := by rw [IntKind.wrap_i64]; have := HOL.out; omega
                 obtain ⟨q, hA, hbk, hq1, hq2, hq3⟩ := HJ.out.2.1.resolve_left (by omega)
                 subst hA
                 obtain ⟨⟨u, hu⟩, hfz⟩ := hbk.cell (j * 2 + 1) (by omega)
                 have D1 := Aside0.mk d1
                 have HBK := Aside0.mk hbk
                 have HQ := Aside0.mk (And.intro hq1 (And.intro hq2 hq3))
                 clear hbk hq1 hq2 hq3
                 go_wp2_with fail
                 go_roundg (fs.length - (j + 1))
                 case measure =>
                   have := D1.out
                   omega
                 case rel => exact ⟨j + 1, by have := D1.out; omega, rfl, rfl, ⟨HJ.out.1.set HQ.out.1 HQ.out.2.1 HQ.out.2.2 _ _, .inr ⟨q, rfl, HBK.out.set _ _ _, HQ.out.1, HQ.out.2.1, HQ.out.2.2⟩, HJ.out.2.2.set _ _ _⟩⟩
               · obtain rfl : j = fs.length := by omega
                 have HJ1 := Aside0.mk HJ.out.1
                 have HJ2 := Aside0.mk HJ.out.2.2
                 go_wp2_with fail
                 go_loopg [92] s.size (fun kq v92 w' => ∃ j2 : Nat, j2 ≤ s.size ∧ kq = s.size - j2 ∧ v92 = .int .i64 (j2 : Int) ∧ Aside0 (FI w S5 vt5 g gx ⟨st5.at_, st5.lacks, st5.text, []⟩ w' ∧ Blk 5 s.size wz w'))
                 case atStart => exact ⟨0, by omega, rfl, rfl, ⟨HJ1.out, HJ2.out⟩⟩
                 case round =>
                   obtain ⟨j2, hj2, rfl, rfl, HM⟩ := hrel
                   by_cases d2 : j2 < s.size
                   · have hw3 : IntKind.i64.wrap ((j2 : Int) + 1) = (j2 : Int) + 1 := by rw [IntKind.wrap_i64]; have := C2.out; omega
                     obtain ⟨⟨u, hu⟩, hfz⟩ := HM.out.2.cell j2 d2
                     have D2 := Aside0.mk d2
                     go_wp2_with fail
                     go_roundg (s.size - (j2 + 1))
                     case measure =>
                       have := D2.out
                       omega
                     case rel => exact ⟨j2 + 1, by have := D2.out; omega, rfl, rfl, ⟨HM.out.1.set HS5'.out HX5.out HWZ.out _ _, HM.out.2.set _ _ _⟩⟩
                   · go_wp2_with fail
                     go_roundg (l.length - (i + 1))
                     case measure =>
                       have := C1.out
                       omega
                     case rel => exact ⟨i + 1, g, ⟨st5.at_, st5.lacks, st5.text, []⟩, S5, vt5, by have := C1.out; omega, rfl, rfl, rfl, ⟨HM.out.1⟩⟩)

      · have hw1 : IntKind.i64.wrap ((i : Int) + 1) = (i : Int) + 1 := by rw [IntKind.wrap_i64]; have := HLL.out; omega
        have k2 : ((10000 : Int) < (s.size : Int)) := by omega
        go_wp2_with fail
        go_roundg (l.length - (i + 1))
        case measure =>
          have := C1.out
          omega
        case rel => exact ⟨i + 1, g, st, S, vt, by have := C1.out; omega, rfl, rfl, rfl, HI⟩
    · obtain rfl : i = l.length := by omega
      go_wp2_with fail
      go_ret
      exact ⟨rfl, HI.out.bel⟩
end Go.Proofs.Ytpnbeifbapcmdaa.St
