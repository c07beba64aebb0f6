/- MuxOnce's function walked: for every input it answers true. -/
import Derived.Test.YthjjblnkaikmlaaMxG
import Derived.Deep.RegionWith
import Derived.Handy
import Derived.Lib.SliceRun
import Derived.StillTailTactics
namespace Go.Proofs.Ythjjblnkaikmlaa.Mx
open Go.RowKit Go.Proofs.Ythjjblnkaikmlaa.St Go.Proofs.Ythjjblnkaikmlaa.PMuxOnce Go.Proofs.YthjjblnkaikmlaaW.PrintWords Go.Proofs.YthjjblnkaikmlaaW.PrintLast Go.Proofs.YthjjblnkaikmlaaW.PrintMore
set_option linter.unusedVariables false
set_option linter.unusedSimpArgs false
attribute [local go_sem] max2_int min2_int max_two min_two
theorem step_okF (s : RS) (c : Int) (h : ∀ f ∈ s.out, okF f) : ∀ f ∈ (stepS s c).out, okF f := by
  unfold stepS
  split
  · split
    · rename_i hc
      exact okF_app h (by unfold okF; show c = 66 ∨ c = 81 ∨ c = 69; omega)
    · exact h
  · split
    · split
      · exact okF_app h (.inr (.inl rfl))
      · exact h
    · split
      · split
        · exact okF_app h (.inr (.inl rfl))
        · exact h
      · exact h
theorem run_okF : ∀ (l : List Int) (s : RS), (∀ f ∈ s.out, okF f) → ∀ f ∈ (runS s l).out, okF f := by
  intro l
  induction l with
  | nil => intro s h; exact h
  | cons c r ih => intro s h; exact ih (stepS s c) (step_okF s c h)
theorem lastBad_ok : ∀ (a : List S44), (∀ f ∈ a, okF f) → LastBad a := by
  intro a
  induction a with
  | nil => intro _; trivial
  | cons f r ih => intro h; exact .inl ⟨h f (List.mem_cons_self ..), ih fun x hx => h x (List.mem_cons_of_mem _ hx)⟩
theorem lastBad_snoc (x : S44) : ∀ (a : List S44), (∀ f ∈ a, okF f) → LastBad (a ++ [x]) := by
  intro a
  induction a with
  | nil => intro _; exact .inr rfl
  | cons f r ih => intro h; exact .inl ⟨h f (List.mem_cons_self ..), ih fun y hy => h y (List.mem_cons_of_mem _ hy)⟩
theorem nums_app (a b : ByteArray) : St.nums (a ++ b) = St.nums a ++ St.nums b := by
  unfold St.nums
  simp
def aheadOf (fr : List S44) (bad : Bool) : List S44 := if bad = true then fr ++ [⟨0, ⟨#[]⟩⟩] else fr
theorem feed_once (l : List S44) (bs tail : ByteArray) (h : ansB (runE [] l) = (bs, 0)) (hn : l.length ≤ 100) (ht : tail.size ≤ 200) : ∃ fr kp bad s1, stopcockref09_Reader_Feed.f 40000 ⟨#[]⟩ false (bs ++ tail) = some (fr, kp, bad) ∧ (∀ f ∈ fr, okF f) ∧ fr.length ≤ 300 ∧ feedM M0 (nums (bs ++ tail)) = (0, ⟨s1, aheadOf fr bad, bad, 66, 0, false, ⟨#[]⟩, []⟩) ∧ (bs ++ tail).size ≤ 6500 := by
  cases he : runE [] l with
  | none => rw [he] at h; injection h with _ h; cases h
  | some a =>
    rw [he] at h
    injection h with h _
    obtain ⟨r, h1, h2, h3, h4, h5⟩ := enc_runs l ⟨0, 0, [], []⟩ [] a rfl he
    have h1 : a = r := h1
    subst h1
    have hb : nums bs = a := by rw [← h]; exact bytes_son a h4
    have hsz : (bs ++ tail).size ≤ 6500 := by
      rw [ByteArray.size_append, ← h, strOfNums_size]
      omega
    have hfr := feed_ref ⟨0, 0, [], []⟩ ⟨.inl rfl, fun h => by cases h⟩ rfl (fun x hx => by cases hx) (bs ++ tail) (by omega)
    have h3 : (runS ⟨0, 0, [], []⟩ a).out = l := h3
    have hlen : (runS ⟨0, 0, [], []⟩ (nums (bs ++ tail))).out.length ≤ 300 := by
      rw [nums_app, run_app, hb]
      have := run_out_len (nums tail) (runS ⟨0, 0, [], []⟩ a)
      rw [h3, nums_len] at this
      omega
    have hok := run_okF (nums (bs ++ tail)) ⟨0, 0, [], []⟩ (fun f hf => by cases hf)
    obtain ⟨R, hR⟩ : ∃ R, R = runS ⟨0, 0, [], []⟩ (nums (bs ++ tail)) := ⟨_, rfl⟩
    rw [← hR] at hfr hlen hok
    refine ⟨R.out, strOfNums (keptS R), decide (R.at_ = 3), emptied R, hfr.1, hok, hlen, ?_, hsz⟩
    unfold feedM
    rw [if_neg (by decide), if_neg (by decide)]
    show (if (runS ⟨0, 0, [], []⟩ (nums (bs ++ tail))).at_ = 3 ∧ M0.broke = false then ((0 : Int), (⟨emptied (runS ⟨0, 0, [], []⟩ (nums (bs ++ tail))), [] ++ (runS ⟨0, 0, [], []⟩ (nums (bs ++ tail))).out ++ [⟨0, ⟨#[]⟩⟩], true, 66, 0, false, ⟨#[]⟩, []⟩ : MSt)) else ((0 : Int), (⟨emptied (runS ⟨0, 0, [], []⟩ (nums (bs ++ tail))), [] ++ (runS ⟨0, 0, [], []⟩ (nums (bs ++ tail))).out, false, 66, 0, false, ⟨#[]⟩, []⟩ : MSt))) = _
    rw [← hR]
    by_cases h9 : R.at_ = 3
    · rw [if_pos ⟨h9, rfl⟩, decide_eq_true h9]
      rfl
    · rw [if_neg (fun h => h9 h.1), decide_eq_false h9]
      rfl
theorem in_start (fr : List S44) (bad : Bool) (s1 : RS) (b0 : Bool) (h : ∀ f ∈ fr, okF f) : In1 (aheadOf fr bad) ⟨s1, aheadOf fr bad, b0, 66, 0, false, ⟨#[]⟩, []⟩ := by
  refine .inl ⟨.inl rfl, .inl rfl, ?_, [], [], rfl, (fun f hf => by simp at hf), trivial, rfl⟩
  show LastBad (aheadOf fr bad)
  unfold aheadOf
  split
  · exact lastBad_snoc _ fr h
  · exact lastBad_ok fr h
set_option maxHeartbeats 8000000 in
set_option maxRecDepth 100000 in
theorem once_calls (A0 : Option Addr) (c0 : Nat) (l : List S44) (tail : ByteArray) (A1 : Option Addr) (c1 : Nat) (ws : List S37) (w : World) (hr0 : Kd.C k44 w A0 l.length l) (hc0 : l.length ≤ c0) (hr1 : Kd.C k37 w A1 ws.length ws) (hc1 : ws.length ≤ c1) (hl : l.length ≤ 140737488351232) (hlw : ws.length ≤ 140737488351232) (htl : tail.size ≤ 140737488351232) :
    Calls Try.prog 4 #[.slice A0 l.length c0, .string tail, .slice A1 ws.length c1] w fun e w' => e = .returned (.bool true) ∧ Below w.heap.size w w' := by
  have HR0 := Aside0.mk hr0
  have HC0 := Aside0.mk hc0
  have HR1 := Aside0.mk hr1
  have HC1 := Aside0.mk hc1
  have HL := Aside0.mk hl
  have HLW := Aside0.mk hlw
  clear hr0 hr1 hc0 hc1 hl hlw htl
  have hcv := fun (W : World) (s : ByteArray) => conv_str W s
  go_enter Try.func4, Try.ntmps4
  go_wp2_with fail
  refine (live_calls w).mono ?_
  rintro _ w1 ⟨rfl, hb1⟩
  have HB1 := Aside0.mk hb1
  clear hb1
  go_wp2_with fail
  refine (refbytes_calls A0 c0 l w1 (Kd.C_below HR0.out HB1.out) HC0.out HL.out).mono ?_
  rintro _ w2 ⟨rfl, hb2⟩
  have HB2 := Aside0.mk (HB1.out.trans (hb2.mono HB1.out.size))
  clear hb2
  obtain ⟨bs, e, hbs⟩ : ∃ bs e, ansB (runE [] l) = (bs, e) := ⟨_, _, rfl⟩
  rw [hbs]
  have HBS := Aside0.mk hbs
  clear hbs
  go_wp2_with fail
  refine (new_calls' w2).mono ?_
  rintro _ w3 ⟨g, S, rfl, hS, hm, hb⟩
  have HM3 := Aside0.mk hm
  have HB3 := Aside0.mk (HB2.out.trans (hb.mono HB2.out.size))
  have HB23 := Aside0.mk hb
  clear hm hb hS
  by_cases he : e = 0
  rotate_left 1
  · have E0 : (e != 0) = true := bne_iff_ne.2 he
    have HE := Aside0.mk he
    clear he
    go_wp2_with fail
    go_ret
    exact ⟨rfl, HB3.out⟩
  subst he
  by_cases hn : (100 : Int) < (l.length : Int)
  · go_wp2_with fail
    go_ret
    exact ⟨rfl, HB3.out⟩
  have HN : Aside0 (l.length ≤ 100) := ⟨by omega⟩
  by_cases hn2 : (200 : Int) < (tail.size : Int)
  · go_wp2_with fail
    go_ret
    exact ⟨rfl, HB3.out⟩
  have HN2 : Aside0 (tail.size ≤ 200) := ⟨by omega⟩
  obtain ⟨fr, kp, bad, s1, hfe, hok, hfl, hfm, hsz⟩ := feed_once l bs tail HBS.out HN.out HN2.out
  have hadd : bs.size + tail.size ≤ 9223372036854775807 := by rw [← ByteArray.size_append]; omega
  obtain ⟨y, hy⟩ : ∃ y, bs ++ tail = y := ⟨_, rfl⟩
  rw [hy] at hfe hfm hsz
  have h4f : (w3.alloc (.cells #[.string ⟨#[]⟩, .bool false] 48)).heap[w3.heap.size]? = some (.cells #[.string ⟨#[]⟩, .bool false] 48 (0, 0)) := heap_alloc_new w3 _
  have h4b : Below w3.heap.size w3 (w3.alloc (.cells #[.string ⟨#[]⟩, .bool false] 48)) := below_alloc (Below.refl _ _) _
  have h4z : (w3.alloc (.cells #[.string ⟨#[]⟩, .bool false] 48)).heap.size = w3.heap.size + 1 := by simp
  obtain ⟨w4, hw4⟩ : ∃ w4, w3.alloc (.cells #[.string ⟨#[]⟩, .bool false] 48) = w4 := ⟨_, rfl⟩
  obtain ⟨gx, hgx⟩ : ∃ gx, gx = w3.heap.size := ⟨_, rfl⟩
  rw [hw4] at h4f h4b h4z
  rw [← hgx] at h4f h4z
  have hgx' := hgx.symm
  have HFE := Aside0.mk hfe
  have HOK := Aside0.mk hok
  have HFL := Aside0.mk hfl
  have HFM := Aside0.mk hfm
  have HSZ := Aside0.mk hsz
  have H4F := Aside0.mk h4f
  have H4B := Aside0.mk h4b
  have H4Z := Aside0.mk h4z
  have HGX := Aside0.mk hgx
  clear hfe hok hfl hfm hsz h4f h4b h4z hgx
  go_wp2_with fail
  refine (stopcockref09_Reader_Feed.calls 40000 gx ⟨#[]⟩ false y fr kp bad w3 w4 ⟨H4F.out, by rw [HGX.out]; exact Nat.le_refl _⟩ H4B.out HFE.out).mono ?_
  rintro _ w5 ⟨v5, rfl, ho5, hi5, hb5, hk5⟩
  obtain ⟨A5, n5, rfl⟩ := Kd.R_slice ho5
  have hz5 : gx < w5.heap.size := blk_lt hi5.1
  have h6f : (w5.alloc (.cells #[.int .i64 0] 3)).heap[w5.heap.size]? = some (.cells #[.int .i64 0] 3 (0, 0)) := heap_alloc_new w5 _
  have h6b : Below w5.heap.size w5 (w5.alloc (.cells #[.int .i64 0] 3)) := below_alloc (Below.refl _ _) _
  have h6z : (w5.alloc (.cells #[.int .i64 0] 3)).heap.size = w5.heap.size + 1 := by simp
  obtain ⟨wa, hwa⟩ : ∃ wa, w5.alloc (.cells #[.int .i64 0] 3) = wa := ⟨_, rfl⟩
  obtain ⟨gn, hgn⟩ : ∃ gn, gn = w5.heap.size := ⟨_, rfl⟩
  rw [hwa] at h6f h6b h6z
  rw [← hgn] at h6f h6z
  have hgn' := hgn.symm
  have na0 : wa.cell? ⟨gn, 0, none⟩ = some (.int .i64 0) := (blk_cell h6f 0).trans rfl
  have naf : wa.frozen? ⟨gn, 0, none⟩ = false := blk_frozen h6f 0
  have h7f : (wa.setCell ⟨gn, 0, none⟩ (.int .i64 0)).heap[gn]? = some (.cells #[.int .i64 0] 3 (0, 0)) := by simpa using blk_set h6f 0 (.int .i64 0)
  have h7b : Below w5.heap.size w5 (wa.setCell ⟨gn, 0, none⟩ (.int .i64 0)) := Below.setCell h6b (by rw [hgn]; exact Nat.le_refl _) _
  have h7z : (wa.setCell ⟨gn, 0, none⟩ (.int .i64 0)).heap.size = gn + 1 := by rw [← h6z]; simp [World.setCell]
  obtain ⟨w6, hw6⟩ : ∃ w6, wa.setCell ⟨gn, 0, none⟩ (.int .i64 0) = w6 := ⟨_, rfl⟩
  rw [hw6] at h7f h7b h7z
  have HR5 : Aside0 (Kd.R k44 44 w6 w3.heap.size (fun k => w3.heap.size ≤ k ∧ k < gn) (.slice A5 fr.length n5) fr) := ⟨Kd.R_mono (Kd.R_step (Kd.R_bound (Kd.R_lower ho5 H4B.out.size)) (fun k _ hl => h7b.block k hl)) (fun k hk => ⟨hk.2.1, by rw [hgn]; exact hk.2.2.1⟩)⟩
  have HX6 : Aside0 (w6.heap[gx]? = some (.cells #[.string kp, .bool bad] 48 (0, 0))) := ⟨(h7b.block gx hz5).trans hi5.1⟩
  have HG5 : Aside0 (gx < gn) := ⟨by omega⟩
  have HB6 : Aside0 (Below w3.heap.size w3 w6) := ⟨hb5.trans (h7b.mono hb5.size)⟩
  have H7F := Aside0.mk h7f
  have H7Z := Aside0.mk h7z
  have HGN := Aside0.mk hgn
  clear ho5 hi5 hb5 hk5 hz5 h6f h6b h6z h7f h7b h7z hgn
  go_wp2_with fail
  have hm6 := HM3.out.far HB6.out.size (fun k hk hl => HB6.out.block k hl)
  obtain ⟨rest, frz, hrow⟩ := bw_row w6 y
  have hnl := nums_len y
  have hgx3 : w3.heap.size ≤ gx := by rw [HGX.out]; exact Nat.le_refl _
  have hfd := feed_calls' S w2.heap.size g M0 (some ⟨w6.heap.size, 0, none⟩) (grownCap w6 y.size 0 5) (nums y) (Lib.bytesWorld w6 5 y) (hm6.step (bw_below w6 y)) (row_kept hrow (fun h => by have := HM3.out.1 _ h; have := HB6.out.size; omega) (by have := HSZ.out; omega)) (by rw [hnl]; exact grownCap_ge _ _ _ _) (nums_by y) (by have := HSZ.out; omega)
  rw [hnl] at hfd
  refine hfd.mono ?_
  rw [HFM.out]
  rintro _ w7 ⟨rfl, hgo⟩
  obtain ⟨S7, t1, t2, t3, t4⟩ := hgo
  have hkb : Kept w6 w7 S := (Kept.of_below (bw_below w6 y) S).then_ t3 (fun _ h => .inl h)
  have hS7 : ∀ k, w3.heap.size ≤ k → k < w6.heap.size → ¬ S7 k := fun k h1 h2 h => (t1 k h).elim (fun h => by have := HM3.out.1 k h; omega) (fun h => by have := (bw_below w6 y).size; omega)
  have hSn : ∀ k, w3.heap.size ≤ k → ¬ S k := fun k h1 h => by have := HM3.out.1 k h; omega
  have hgn3 : w3.heap.size ≤ gn := by have := HG5.out; omega
  have hgn6 : gn < w6.heap.size := by rw [H7Z.out]; omega
  have HSV : Aside0 (SV S7 w2.heap.size w7 gn g w7 ⟨s1, aheadOf fr bad, bad, 66, 0, false, ⟨#[]⟩, []⟩ 0) := ⟨⟨hS7 gn hgn3 hgn6, Nat.lt_of_lt_of_le hgn6 hkb.1, Nat.le_trans HB23.out.size hgn3⟩, S7, fun k hk => .inl hk, t2, (hkb.2 gn hgn6 (hSn gn hgn3)).trans H7F.out, Kept.refl _ _, Below.refl _ _⟩
  have HR7 : Aside0 (Kd.R k44 44 w7 w3.heap.size (fun k => w3.heap.size ≤ k ∧ k < gn) (.slice A5 fr.length n5) fr) := ⟨Kd.R_step HR5.out (fun k hk hl => hkb.2 k hl (hSn k hk.1))⟩
  have HX7 : Aside0 (w7.heap[gx]? = some (.cells #[.string kp, .bool bad] 48 (0, 0))) := ⟨(hkb.2 gx (blk_lt HX6.out) (hSn gx hgx3)).trans HX6.out⟩
  have HS7 : Aside0 (∀ k, w3.heap.size ≤ k → k < gn → ¬ (S7 k ∨ k = gn)) := ⟨fun k h1 h2 h => h.elim (hS7 k h1 (by omega)) (fun h => by omega)⟩
  have HB7 : Aside0 (Below w.heap.size w w7) := ⟨HB3.out.trans ((HB6.out.mono HB3.out.size).trans (((bw_below w6 y).mono (Nat.le_trans HB3.out.size HB6.out.size)).trans (t4.mono HB2.out.size)))⟩
  clear hm6 hrow hnl hfd t1 t2 t3 t4 hkb hS7 hSn hgn3 hgn6
  go_wp2_with fail
  have hal : (aheadOf fr bad).length ≤ 301 := by
    have := HFL.out
    unfold aheadOf
    split
    · rw [List.length_append]; simp only [List.length_cons, List.length_nil]; omega
    · omega
  refine (serve_calls S7 w2.heap.size g gn (aheadOf fr bad) _ 0 A1 c1 ws w7 HSV.out (in_start fr bad s1 bad HOK.out) (by show 3 * (aheadOf fr bad).length + 0 ≤ 1900; omega) (by show 0 + (aheadOf fr bad).length ≤ 1000; omega) (by omega) (fun W' hW' => Kd.C_below HR1.out (HB7.out.trans (hW'.mono HB2.out.size))) HC1.out HLW.out).mono ?_
  rintro _ w8 ⟨v8, M8, n8, rfl, hsv8, hr8, hft, hwd⟩
  obtain ⟨A8, m8, rfl⟩ := Kd.R_slice hr8
  obtain ⟨td, htd⟩ : ∃ td, td = M8.told := ⟨_, rfl⟩
  rw [← htd] at hft hr8
  rw [← htd]
  have hk8 : Kept w7 w8 (fun k => S7 k ∨ k = gn) := by obtain ⟨_, _, _, _, _, h, _⟩ := hsv8; exact h
  obtain ⟨S8, hm8, _⟩ := hsv8.call
  have HM8 := Aside0.mk hm8
  have HT8 := Aside0.mk (Kd.R_reads' hr8).2.2
  have HF8 := Aside0.mk (Kd.R_reads' (Kd.R_step HR7.out (fun k hk hl => hk8.2 k hl (HS7.out k hk.1 hk.2)))).2.2
  have hx8 : w8.heap[gx]? = some (.cells #[.string kp, .bool bad] 48 (0, 0)) := (hk8.2 gx (blk_lt HX7.out) (HS7.out gx hgx3 HG5.out)).trans HX7.out
  have xb : w8.cell? ⟨gx, 1, none⟩ = some (.bool bad) := (blk_cell hx8 1).trans rfl
  have HB8 : Aside0 (Below w.heap.size w w8) := ⟨HB7.out.trans (hsv8.below.mono HB2.out.size)⟩
  have HFT := Aside0.mk hft
  have hlen := hft.len
  clear hsv8 hr8 hft hk8 hm8 hx8 hal hgx3 htd HSV HR7 HX7 HS7 HR5 HX6 HFM HFE
  rcases hbd : bad with _ | _
  · have HBD := Aside0.mk hbd
    rw [hbd] at xb
    rw [hbd, show aheadOf fr false = fr from rfl] at hlen
    have HFT' : Aside0 (Fits fr td) := ⟨by have := HFT.out; rw [hbd] at this; exact this⟩
    clear hbd hwd
    have hle : (td.length : Int) = (fr.length : Int) := by omega
    have HLE := Aside0.mk hlen
    clear hlen
    have HFI : Aside0 (∀ (i : Nat) (x : S44) (r : S42), fr[i]? = some x → td[i]? = some r → Fit x r.f0) := ⟨fun i x r h1 h2 => HFT'.out.get h1 h2⟩
    clear HM8
    go_wp2_with fail
    go_loopg [102] fr.length (fun kq v102 w' => ∃ i : Nat, i ≤ fr.length ∧ kq = fr.length - i ∧ v102 = .int .i64 (i : Int) ∧ Aside0 (Below w8.heap.size w8 w'))
    case atStart => exact ⟨0, by omega, rfl, rfl, ⟨Below.refl _ _⟩⟩
    case round =>
      obtain ⟨i, hile, rfl, rfl, HBz⟩ := hrel
      have HBzz : Aside0 (Below w.heap.size w wr) := ⟨HB8.out.trans (HBz.out.mono HB8.out.size)⟩
      by_cases c1 : i < fr.length
      · have c2 : i < td.length := by have := HLE.out; omega
        obtain ⟨ad, e1, y0, y1⟩ := at_T44 (Kd.C_below HF8.out HBz.out) (i : Int) (by omega) (by omega)
        rw [Int.toNat_natCast] at y0 y1
        obtain ⟨x, hx⟩ : ∃ x, x = rd_T44 fr (i : Int) := ⟨_, rfl⟩
        rw [← hx] at y0 y1
        have hxm : fr[i]? = some x := by rw [hx]; unfold rd_T44; rw [Int.toNat_natCast, List.getD_eq_getElem?_getD, List.getElem?_eq_getElem c1]; rfl
        have hxo : okF x := HOK.out x (List.mem_of_getElem? hxm)
        have h9f : (wr.alloc (.cells #[.int .u8 x.f0, .string x.f1] 44)).heap[wr.heap.size]? = some (.cells #[.int .u8 x.f0, .string x.f1] 44 (0, 0)) := heap_alloc_new wr _
        have h9b : Below wr.heap.size wr (wr.alloc (.cells #[.int .u8 x.f0, .string x.f1] 44)) := below_alloc (Below.refl _ _) _
        obtain ⟨w9, hw9⟩ : ∃ w9, wr.alloc (.cells #[.int .u8 x.f0, .string x.f1] 44) = w9 := ⟨_, rfl⟩
        obtain ⟨z, hz⟩ : ∃ z, z = wr.heap.size := ⟨_, rfl⟩
        rw [hw9] at h9f h9b
        rw [← hz] at h9f
        have hz' := hz.symm
        have z0 : w9.cell? ⟨z, 0, none⟩ = some (.int .u8 x.f0) := (blk_cell h9f 0).trans rfl
        have hb9 : Below w8.heap.size w8 w9 := HBz.out.trans (h9b.mono HBz.out.size)
        have HB9 := Aside0.mk hb9
        obtain ⟨a2, e2, t0, t1, t2⟩ := at_T42 (Kd.C_below HT8.out hb9) (i : Int) (by omega) (by omega)
        rw [Int.toNat_natCast] at t0
        obtain ⟨r, hr⟩ : ∃ r, r = rd_T42 td (i : Int) := ⟨_, rfl⟩
        rw [← hr] at t0
        have hrm : td[i]? = some r := by rw [hr]; unfold rd_T42; rw [Int.toNat_natCast, List.getD_eq_getElem?_getD, List.getElem?_eq_getElem c2]; rfl
        have hfit : Fit x r.f0 := HFI.out i x r hxm hrm
        have hi0 : (0 : Int) ≤ (i : Int) := by omega
        have hi1 : (i : Int) < (fr.length : Int) := by omega
        have hi2 : (i : Int) < (td.length : Int) := by omega
        have hw1 : IntKind.i64.wrap ((i : Int) + 1) = (i : Int) + 1 := by rw [IntKind.wrap_i64]; have := HFL.out; omega
        subst e1
        (first | subst e2 | (injection e2 with e2; subst e2))
        clear hx hxm h9f h9b hz hb9 hr hrm t1 t2
        unfold Fit at hfit
        rcases hxo with h | h | h
        · rw [if_pos h] at hfit
          rw [h] at y0 z0 hw9
          clear h
          rcases hfit with h | h | h | h
          all_goals
            (rw [h] at t0
             clear h
             go_wp2_with fail
             go_roundg (fr.length - (i + 1))
             case measure => omega
             case rel => exact ⟨i + 1, by omega, rfl, by go_num, HB9⟩)
        · rw [if_neg (by omega), if_pos h] at hfit
          rw [h] at y0 z0 hw9
          clear h
          rcases hfit with h | h | h
          all_goals
            (rw [h] at t0
             clear h
             go_wp2_with fail
             go_roundg (fr.length - (i + 1))
             case measure => omega
             case rel => exact ⟨i + 1, by omega, rfl, by go_num, HB9⟩)
        · rw [if_neg (by omega), if_neg (by omega), if_pos h] at hfit
          rw [h] at y0 z0 hw9
          clear h
          rcases hfit with h | h | h
          all_goals
            (rw [h] at t0
             clear h
             go_wp2_with fail
             go_roundg (fr.length - (i + 1))
             case measure => omega
             case rel => exact ⟨i + 1, by omega, rfl, by go_num, HB9⟩)
      · have hi1 : ¬ (i : Int) < (fr.length : Int) := by omega
        go_wp2_with fail
        go_ret
        exact ⟨rfl, HBzz.out⟩
  · have HBD := Aside0.mk hbd
    rw [hbd] at xb
    rw [hbd, show aheadOf fr true = fr ++ [⟨0, ⟨#[]⟩⟩] from rfl, List.length_append] at hlen
    have HFT' : Aside0 (Fits (fr ++ [⟨0, ⟨#[]⟩⟩]) td) := ⟨by have := HFT.out; rw [hbd] at this; exact this⟩
    have hw5 : M8.wd = 5 := by
      rcases hwd with ⟨_, h⟩ | h
      · have := h ⟨0, ⟨#[]⟩⟩ (by rw [hbd]; show _ ∈ fr ++ [_]; simp)
        have h2 : (0 : Int) = 66 ∨ (0 : Int) = 81 ∨ (0 : Int) = 69 := this
        omega
      · exact h
    clear hbd hwd
    have hlen2 : td.length = fr.length + 1 := hlen.symm
    have HLE := Aside0.mk hlen2
    have HFI : Aside0 (∀ (i : Nat) (x : S44) (r : S42), fr[i]? = some x → td[i]? = some r → Fit x r.f0) := ⟨fun i x r h1 h2 => HFT'.out.get (by rw [List.getElem?_append_left (List.getElem?_eq_some_iff.1 h1).1]; exact h1) h2⟩
    obtain ⟨a9, e9, q0, _, _⟩ := at_T42 HT8.out (fr.length : Int) (by omega) (by omega)
    rw [Int.toNat_natCast] at q0
    have h8 : (rd_T42 td (fr.length : Int)).f0 = 8 := by
      have hg : td[fr.length]? = some (rd_T42 td (fr.length : Int)) := by unfold rd_T42; rw [Int.toNat_natCast, List.getD_eq_getElem?_getD, List.getElem?_eq_getElem (by omega)]; rfl
      have hf := HFT'.out.get (f := ⟨0, ⟨#[]⟩⟩) (by simp) hg
      exact hf
    rw [h8] at q0
    have L0 : ((td.length : Int) == 0) = false := beq_eq_false_iff_ne.2 (by omega)
    have L1' : IntKind.i64.wrap ((td.length : Int) - 1) = (fr.length : Int) := by rw [IntKind.wrap_i64]; have := HFL.out; omega
    have L2' : IntKind.i64.wrap ((fr.length : Int) + 1) = (td.length : Int) := by rw [IntKind.wrap_i64]; have := HFL.out; omega
    have L3' : (fr.length : Int) < (td.length : Int) := by omega
    have L4' : (0 : Int) ≤ (fr.length : Int) := by omega
    subst e9
    have HW5 := Aside0.mk hw5
    clear hlen hlen2 h8 hw5
    go_wp2_with fail
    refine (open_calls S8 w2.heap.size g { M8 with told := [] } w8 HM8.out).mono ?_
    rintro _ _ ⟨rfl, rfl⟩
    rw [show (({ M8 with told := [] } : MSt).wd != 5) = false from by show (M8.wd != 5) = false; rw [HW5.out]; rfl]
    go_wp2_with fail
    go_loopg [102] fr.length (fun kq v102 w' => ∃ i : Nat, i ≤ fr.length ∧ kq = fr.length - i ∧ v102 = .int .i64 (i : Int) ∧ Aside0 (Below w8.heap.size w8 w'))
    case atStart => exact ⟨0, by omega, rfl, rfl, ⟨Below.refl _ _⟩⟩
    case round =>
      obtain ⟨i, hile, rfl, rfl, HBz⟩ := hrel
      have HBzz : Aside0 (Below w.heap.size w wr) := ⟨HB8.out.trans (HBz.out.mono HB8.out.size)⟩
      by_cases c1 : i < fr.length
      · have c2 : i < td.length := by have := HLE.out; omega
        obtain ⟨ad, e1, y0, y1⟩ := at_T44 (Kd.C_below HF8.out HBz.out) (i : Int) (by omega) (by omega)
        rw [Int.toNat_natCast] at y0 y1
        obtain ⟨x, hx⟩ : ∃ x, x = rd_T44 fr (i : Int) := ⟨_, rfl⟩
        rw [← hx] at y0 y1
        have hxm : fr[i]? = some x := by rw [hx]; unfold rd_T44; rw [Int.toNat_natCast, List.getD_eq_getElem?_getD, List.getElem?_eq_getElem c1]; rfl
        have hxo : okF x := HOK.out x (List.mem_of_getElem? hxm)
        have h9f : (wr.alloc (.cells #[.int .u8 x.f0, .string x.f1] 44)).heap[wr.heap.size]? = some (.cells #[.int .u8 x.f0, .string x.f1] 44 (0, 0)) := heap_alloc_new wr _
        have h9b : Below wr.heap.size wr (wr.alloc (.cells #[.int .u8 x.f0, .string x.f1] 44)) := below_alloc (Below.refl _ _) _
        obtain ⟨w9, hw9⟩ : ∃ w9, wr.alloc (.cells #[.int .u8 x.f0, .string x.f1] 44) = w9 := ⟨_, rfl⟩
        obtain ⟨z, hz⟩ : ∃ z, z = wr.heap.size := ⟨_, rfl⟩
        rw [hw9] at h9f h9b
        rw [← hz] at h9f
        have hz' := hz.symm
        have z0 : w9.cell? ⟨z, 0, none⟩ = some (.int .u8 x.f0) := (blk_cell h9f 0).trans rfl
        have hb9 : Below w8.heap.size w8 w9 := HBz.out.trans (h9b.mono HBz.out.size)
        have HB9 := Aside0.mk hb9
        obtain ⟨a2, e2, t0, t1, t2⟩ := at_T42 (Kd.C_below HT8.out hb9) (i : Int) (by omega) (by omega)
        rw [Int.toNat_natCast] at t0
        obtain ⟨r, hr⟩ : ∃ r, r = rd_T42 td (i : Int) := ⟨_, rfl⟩
        rw [← hr] at t0
        have hrm : td[i]? = some r := by rw [hr]; unfold rd_T42; rw [Int.toNat_natCast, List.getD_eq_getElem?_getD, List.getElem?_eq_getElem c2]; rfl
        have hfit : Fit x r.f0 := HFI.out i x r hxm hrm
        have hi0 : (0 : Int) ≤ (i : Int) := by omega
        have hi1 : (i : Int) < (fr.length : Int) := by omega
        have hi2 : (i : Int) < (td.length : Int) := by omega
        have hw1 : IntKind.i64.wrap ((i : Int) + 1) = (i : Int) + 1 := by rw [IntKind.wrap_i64]; have := HFL.out; omega
        subst e1
        (first | subst e2 | (injection e2 with e2; subst e2))
        clear hx hxm h9f h9b hz hb9 hr hrm t1 t2
        unfold Fit at hfit
        rcases hxo with h | h | h
        · rw [if_pos h] at hfit
          rw [h] at y0 z0 hw9
          clear h
          rcases hfit with h | h | h | h
          all_goals
            (rw [h] at t0
             clear h
             go_wp2_with fail
             go_roundg (fr.length - (i + 1))
             case measure => omega
             case rel => exact ⟨i + 1, by omega, rfl, by go_num, HB9⟩)
        · rw [if_neg (by omega), if_pos h] at hfit
          rw [h] at y0 z0 hw9
          clear h
          rcases hfit with h | h | h
          all_goals
            (rw [h] at t0
             clear h
             go_wp2_with fail
             go_roundg (fr.length - (i + 1))
             case measure => omega
             case rel => exact ⟨i + 1, by omega, rfl, by go_num, HB9⟩)
        · rw [if_neg (by omega), if_neg (by omega), if_pos h] at hfit
          rw [h] at y0 z0 hw9
          clear h
          rcases hfit with h | h | h
          all_goals
            (rw [h] at t0
             clear h
             go_wp2_with fail
             go_roundg (fr.length - (i + 1))
             case measure => omega
             case rel => exact ⟨i + 1, by omega, rfl, by go_num, HB9⟩)
      · have hi1 : ¬ (i : Int) < (fr.length : Int) := by omega
        go_wp2_with fail
        go_ret
        exact ⟨rfl, HBzz.out⟩
end Go.Proofs.Ythjjblnkaikmlaa.Mx
