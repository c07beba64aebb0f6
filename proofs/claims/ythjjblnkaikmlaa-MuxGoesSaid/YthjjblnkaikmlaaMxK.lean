/- The document's session: Next, Got, Turn, Answer, Lost, Hang, Replies, Feed walked. -/
import Derived.Test.YthjjblnkaikmlaaMxJ
import Derived.Test.YthjjblnkaikmlaaMxG
import Derived.Deep.RegionWith
import Derived.Handy
import Derived.Lib.SliceRun
import Derived.StillTailTactics
namespace Go.Proofs.Ythjjblnkaikmlaa.Mx
open Go.RowKit Go.Proofs.Ythjjblnkaikmlaa.St Go.Proofs.Ythjjblnkaikmlaa.PMuxOnce Go.Proofs.YthjjblnkaikmlaaW.PrintWords Go.Proofs.YthjjblnkaikmlaaW.PrintLast Go.Proofs.YthjjblnkaikmlaaW.PrintMore
set_option linter.unusedVariables false
set_option linter.unusedSimpArgs false
attribute [local go_sem] max2_int min2_int max_two min_two
attribute [local go_sem high] eqA42
theorem flat_at : ∀ (l : List S44) (j i : Nat) (p : S44) (u : Value), l[j]? = some p → (cel p)[i]? = some u → (flat l)[j * 2 + i]? = some u := by
  intro l
  induction l with
  | nil => intro j i p u h; simp at h
  | cons x r ih =>
    intro j i p u h hu
    have hi : i < 2 := (List.getElem?_eq_some_iff.1 hu).1
    rw [flat_cons]
    cases j with
    | zero =>
      rw [List.getElem?_cons_zero] at h
      injection h with h
      rw [h, List.getElem?_append_left (by show 0 * 2 + i < 2; omega), Nat.zero_mul, Nat.zero_add]
      exact hu
    | succ j =>
      rw [List.getElem?_append_right (by show 2 ≤ _; omega), show (j + 1) * 2 + i - (cel x).length = j * 2 + i by show (j + 1) * 2 + i - 2 = _; omega]
      exact ih j i p u (by simpa using h) hu
theorem C44_blk {w : World} {q o : Nat} {fr : Nat × Nat} {cur : Array Value} (l : List S44) (hl : l.length ≤ 9223372036854775807) (h : w.heap[q]? = some (.cells cur 44 fr)) (hd : ∀ k u, (flat l)[k]? = some u → cur[o + k]? = some u) : Kd.C k44 w (some ⟨q, o, none⟩) l.length l := by
  refine ⟨rfl, hl, fun _ => ⟨_, rfl, fun j p hp => ⟨cel p, rfl, k44_mk _ p, fun i u hu => ?_⟩⟩⟩
  have hadd : (⟨q, o, none⟩ : Addr).add (j * 2 + i) = ⟨q, o + (j * 2 + i), none⟩ := by unfold Addr.add; split <;> simp_all
  show w.cell? ((⟨q, o, none⟩ : Addr).add (j * 2 + i)) = some u
  rw [hadd, cell_of_row w q _ cur 44 fr h]
  exact hd _ u (flat_at l j i p u hp hu)
theorem DR.notz {T : Nat → Prop} {b g z : Nat} {w : World} {va vt : Value} {D : DSt} {cs : Array Value} (h : DR T b w g va vt D) (hz : w.heap[z]? = some (.cells cs 44 (0, 0))) (hva : ∀ k, va.ownBlock = some k → k ≠ z) : DR (fun k => T k ∧ k < w.heap.size ∧ k ≠ z) b w g va vt D := by
  refine ⟨⟨h.1, blk_lt h.blk, fun e => by
    have := h.blk
    rw [e, hz] at this
    injection this with this
    injection this with _ this
    cases this⟩, h.2.1, h.blk, ?_, ?_⟩
  · rcases h.2.2.2.1 with h1 | ⟨q, cap, cur, h1, h2, h3, h4, h5⟩
    · exact .inl h1
    · exact .inr ⟨q, cap, cur, h1, ⟨h2, blk_lt h4, hva q (by rw [h1]; rfl)⟩, h3, h4, h5⟩
  · exact Kd.R_mono (Kd.R_bound (Kd.R_types h.2.2.2.2 hz (by decide))) (fun k hk => ⟨hk.1.1, hk.2.2.1, hk.1.2⟩)
def dtake (D : DSt) (f : S44) : Int × DSt := if D.code = 0 then dfree D f else if D.code = 2 then dbound D f else ddead D f
def dgoL : DSt → List S44 → (Int × ByteArray) × DSt
  | D, [] => ((0, ⟨#[]⟩), D)
  | D, f :: r => if D.code = 0 ∨ D.code = 2 ∨ D.code = 6 then (if (dtake { D with ahead := r } f).1 = 0 then dgoL (dtake { D with ahead := r } f).2 r else if (dtake { D with ahead := r } f).1 = 2 then ((2, (dtake { D with ahead := r } f).2.text), (dtake { D with ahead := r } f).2) else (((dtake { D with ahead := r } f).1, ⟨#[]⟩), (dtake { D with ahead := r } f).2)) else ((0, ⟨#[]⟩), D)
def dnext (D : DSt) : (Int × ByteArray) × DSt :=
  if D.code = 3 then ((2, D.text), { D with code := 4 }) else if D.code = 5 then ((3, ⟨#[]⟩), { D with code := 0 }) else dgoL D D.ahead
theorem dtake_told (D : DSt) (f : S44) : (dtake D f).2.told.length ≤ D.told.length + 1 := by
  unfold dtake dfree dbound ddead
  repeat' split
  all_goals simp [dtell, dend]
theorem dtake_ahead (D : DSt) (f : S44) (h0 : (dtake D f).1 = 0) (hw : (dtake D f).2.code = 0 ∨ (dtake D f).2.code = 2 ∨ (dtake D f).2.code = 6) : (dtake D f).2.ahead = D.ahead := by
  unfold dtake dfree dbound ddead at *
  repeat' split at *
  all_goals simp_all [dtell, dend]
theorem dtake_do (D : DSt) (f : S44) : (dtake D f).1 = 0 ∨ (dtake D f).1 = 1 ∨ (dtake D f).1 = 2 ∨ (dtake D f).1 = 3 := by
  unfold dtake dfree dbound ddead
  repeat' split
  all_goals simp
set_option maxHeartbeats 8000000 in
set_option maxRecDepth 100000 in
theorem dnext_calls (T : Nat → Prop) (b g : Nat) (D : DSt) (w : World) (h : DX T b w g D) (hl : D.told.length + D.ahead.length ≤ 1000000) :
    Calls Try.prog 18 #[.pointer (some ⟨g, 0, none⟩)] w fun e w' => e = .returned (.tuple #[.int .i64 (dnext D).1.1, .string (dnext D).1.2]) ∧ DGoes T b w g w' (dnext D).2 := by
  by_cases h2 : D.code = 3
  · have e : dnext D = ((2, D.text), { D with code := 4 }) := by unfold dnext; rw [if_pos h2]
    rw [e]
    have E2 : (D.code == 3) = true := by rw [h2]; rfl
    obtain ⟨h1, h3, va, vt, hm⟩ := h
    obtain ⟨c0, c1, c2, c3, c4, c5, c6⟩ := hm.cells
    have f3 := hm.frozen 3
    have HM := Aside0.mk hm
    have HW := Aside0.mk h3
    have hm1 := hm.fld 3 (.int .i64 4) { D with code := 4 } rfl rfl rfl
    have k5 := hm1.cells.2.2.2.2.2.1
    have HM1 := Aside0.mk hm1
    clear hm h1 h3 hl hm1 h2 e
    go_enter Try.func18, Try.ntmps18
    go_wp2_with fail
    repeat (go_quiet (fail))
    revert nq
    intro nq
    go_wp2_with fail
    go_returns
    exact ⟨rfl, DGoes.of (HM1.out.step (w1 := (w.setCell ⟨g, 3, none⟩ (.int .i64 4)).drewN nq) (fun _ _ _ => rfl)).up HW.out (((Kept.refl w T).setCell (.inl HM.out.1) _).below (pw_below_drewN (Below.refl _ _) nq)) ((Below.setCell (Below.refl b w) HM.out.2.1 _).trans (pw_below_drewN (Below.refl _ _) nq))⟩
  have N2 : (D.code == 3) = false := beq_eq_false_iff_ne.2 h2
  by_cases h4 : D.code = 5
  · have e : dnext D = ((3, ⟨#[]⟩), { D with code := 0 }) := by unfold dnext; rw [if_neg h2, if_pos h4]
    rw [e]
    have E4 : (D.code == 5) = true := by rw [h4]; rfl
    obtain ⟨h1, h3, va, vt, hm⟩ := h
    obtain ⟨c0, c1, c2, c3, c4, c5, c6⟩ := hm.cells
    have f3 := hm.frozen 3
    have HM := Aside0.mk hm
    have HW := Aside0.mk h3
    clear hm h1 h3 hl h2 h4 e
    go_enter Try.func18, Try.ntmps18
    go_wp2_with fail
    go_returns
    exact ⟨rfl, DGoes.of (HM.out.fld 3 (.int .i64 0) { D with code := 0 } rfl rfl rfl).up HW.out ((Kept.refl w T).setCell (.inl HM.out.1) _) (Below.setCell (Below.refl b w) HM.out.2.1 _)⟩
  have N4 : (D.code == 5) = false := beq_eq_false_iff_ne.2 h4
  have e : dnext D = dgoL D D.ahead := by unfold dnext; rw [if_neg h2, if_neg h4]
  have E := Aside0.mk e
  have HL := Aside0.mk hl
  have H := Aside0.mk h
  obtain ⟨h1, h3, va, vt, hm⟩ := h
  obtain ⟨c0, c1, c2, c3, c4, c5, c6⟩ := hm.cells
  clear e hl h1 h3 hm h2 h4
  go_enter Try.func18, Try.ntmps18
  go_wp2_with fail
  clear c0 c1 c2 c3 c4 c5 c6
  go_loopg [] D.ahead.length (fun kq w' => ∃ (Di : DSt) (li : List S44), kq = li.length ∧ Aside0 (dgoL Di li = dgoL D D.ahead) ∧ Aside0 ((Di.code = 0 ∨ Di.code = 2 ∨ Di.code = 6) → Di.ahead = li) ∧ Aside0 (Di.told.length + li.length ≤ 1000000) ∧ Aside0 (DGoes T b w g w' Di))
  case atStart => exact ⟨D, D.ahead, rfl, ⟨rfl⟩, ⟨fun _ => rfl⟩, HL, ⟨DGoes.refl H.out⟩⟩
  case round =>
    obtain ⟨Di, li, rfl, HG, HA, HN, HGo⟩ := hrel
    obtain ⟨S1, i1, i2, i3, i4⟩ := HGo.out
    have HMX := Aside0.mk i2
    have HI1 := Aside0.mk i1
    have HK1 := Aside0.mk i3
    have HB1 := Aside0.mk i4
    obtain ⟨h1, h3, va, vt, hm⟩ := i2
    obtain ⟨Aa, na, ev, hna⟩ := hm.2.2.2.1.form
    subst ev
    obtain ⟨c0, c1, c2, c3, c4, c5, c6⟩ := hm.cells
    have HM := Aside0.mk hm
    have HS1 := Aside0.mk h1
    have HW1 := Aside0.mk h3
    have HNA := Aside0.mk hna
    clear i1 i3 i4 HGo h1 h3 hna
    by_cases hw : Di.code = 0 ∨ Di.code = 2 ∨ Di.code = 6
    rotate_left 1
    · have W0 : (Di.code == 0) = false := beq_eq_false_iff_ne.2 (fun h => hw (.inl h))
      have W2 : (Di.code == 2) = false := beq_eq_false_iff_ne.2 (fun h => hw (.inr (.inl h)))
      have W6 : (Di.code == 6) = false := beq_eq_false_iff_ne.2 (fun h => hw (.inr (.inr h)))
      have HW0 := Aside0.mk hw
      clear hw hm
      have e : dgoL D D.ahead = ((0, ⟨#[]⟩), Di) := by rw [← HG.out]; cases li with | nil => rfl | cons f r => unfold dgoL; rw [if_neg HW0.out]
      rcases Nat.eq_zero_or_pos Di.ahead.length with hz | hz
      · rw [hz] at c2
        go_wp2_with fail
        go_returns
        rw [E.out, e]
        exact ⟨rfl, ⟨S1, HI1.out, HMX.out, HK1.out, HB1.out⟩⟩
      · have hz1 : (0 : Int) < (Di.ahead.length : Int) := by omega
        clear hz
        go_wp2_with fail
        go_returns
        rw [E.out, e]
        exact ⟨rfl, ⟨S1, HI1.out, HMX.out, HK1.out, HB1.out⟩⟩
    · have hal := HA.out hw
      rcases li with _ | ⟨f, r⟩
      · rw [hal] at c2
        have HW0 := Aside0.mk hw
        clear hal hw hm
        go_wp2_with fail
        go_returns
        have e : dgoL D D.ahead = ((0, ⟨#[]⟩), Di) := by rw [← HG.out]; rfl
        rw [E.out, e]
        exact ⟨rfl, ⟨S1, HI1.out, HMX.out, HK1.out, HB1.out⟩⟩
      · have hrow := hm.2.2.2.1
        rw [hal] at hrow c2
        have HW0 := Aside0.mk hw
        obtain ⟨q, cur, e1, hqS, hqb, hq, hcap, hcm, hfl⟩ : ∃ q cur, Aa = some ⟨q, 0, none⟩ ∧ S1 q ∧ b ≤ q ∧ wr.heap[q]? = some (.cells cur 44 (0, 0)) ∧ r.length + 1 ≤ na ∧ na ≤ maxLen ∧ cur.toList.take ((r.length + 1) * 2) = flat (f :: r) := by
          rcases hrow with ⟨_, h⟩ | ⟨q, cap, cur, a1, a2, a3, a4, a5, a6, a7, _⟩
          · cases h
          · injection a1 with b1 b2 b3
            subst b3
            exact ⟨q, cur, b1, a2, a3, a4, a5, a6, a7⟩
        subst e1
        have hcell : ∀ k u, (flat (f :: r))[k]? = some u → cur[k]? = some u := fun k u hu => by
          rw [← hfl, List.getElem?_take] at hu
          split at hu
          · simpa using hu
          · cases hu
        have x0 : wr.cell? ⟨q, 0, none⟩ = some (.int .u8 f.f0) := by rw [cell_of_row wr q 0 cur 44 (0, 0) hq]; exact hcell 0 _ rfl
        have x1 : wr.cell? ⟨q, 1, none⟩ = some (.string f.f1) := by rw [cell_of_row wr q 1 cur 44 (0, 0) hq]; exact hcell 1 _ rfl
        have h1m := HM.out.step (w1 := wr.alloc (.cells #[.int .u8 f.f0, .string f.f1] 44)) (fun k hk hl => Below.heap_alloc _ _ _ hl)
        have h1q : (wr.alloc (.cells #[.int .u8 f.f0, .string f.f1] 44)).heap[q]? = some (.cells cur 44 (0, 0)) := (Below.heap_alloc _ _ _ (blk_lt hq)).trans hq
        have h1f : (wr.alloc (.cells #[.int .u8 f.f0, .string f.f1] 44)).heap[wr.heap.size]? = some (.cells #[.int .u8 f.f0, .string f.f1] 44 (0, 0)) := heap_alloc_new wr _
        have h1b : Below wr.heap.size wr (wr.alloc (.cells #[.int .u8 f.f0, .string f.f1] 44)) := below_alloc (Below.refl _ _) _
        have h1z : wr.heap.size + 1 = (wr.alloc (.cells #[.int .u8 f.f0, .string f.f1] 44)).heap.size := by simp
        obtain ⟨w1, hw1⟩ : ∃ w1, wr.alloc (.cells #[.int .u8 f.f0, .string f.f1] 44) = w1 := ⟨_, rfl⟩
        rw [hw1] at h1m h1q h1f h1b h1z
        have H1M := Aside0.mk h1m
        have H1F := Aside0.mk h1f
        have H1B := Aside0.mk h1b
        have H1Z := Aside0.mk h1z
        have HCR : Aside0 (na ≠ 1 → Kd.C k44 w1 (some ⟨q, 2, none⟩) r.length r) := ⟨fun _ => C44_blk (o := 2) r (by simp only [maxLen] at hcm; omega) h1q (fun k u hu => hcell (2 + k) u (by rw [flat_cons, List.getElem?_append_right (by show 2 ≤ 2 + k; omega), show 2 + k - (cel f).length = k by show 2 + k - 2 = k; omega]; exact hu))⟩
        have HCN : Aside0 (na = 1 → r = []) := ⟨fun h => List.length_eq_zero_iff.1 (by omega)⟩
        have j1 := h1m.cells.2.2.1
        have jf1 := h1m.frozen 2
        rw [hal] at j1
        obtain ⟨z, hz⟩ : ∃ z, z = wr.heap.size := ⟨_, rfl⟩
        have HZ := Aside0.mk hz
        have hz' := hz.symm
        have HAL := Aside0.mk hal
        have hr0 : (0 : Int) < (r.length : Int) + 1 := by omega
        have hr1 : (1 : Int) ≤ (r.length : Int) + 1 := by omega
        have hna1 : 1 ≤ na := by omega
        have hna2 : r.length + 1 ≤ na := hcap
        clear hal hrow hq hqS hqb hcap hcm hfl hcell h1m h1q h1f h1b h1z hz hm
        simp only [List.length_cons] at c2 j1
        have hzS : ¬ S1 z := fun h => by have := HS1.out z h; have := HZ.out; omega
        have hzg : z ≠ g := fun e => hzS (e ▸ HM.out.1)
        clear hzS
        by_cases hn1 : na = 1
        · have hr : r = [] := HCN.out hn1
          have HCR1 : Aside0 (Kd.C k44 w1 (some ⟨q, 0, none⟩) r.length r) := ⟨by rw [hr]; exact ⟨rfl, by simp, fun h => absurd h (by simp)⟩⟩
          clear hr hna2 HCR HCN
          subst hn1
          rcases hw with hw | hw | hw
          · have HCODE := Aside0.mk hw
            have W0 : (Di.code == 0) = true := by rw [hw]; rfl
            clear hw
            go_wp2_with ((with_reducible refine gate_builtin (b := .append) (xs := #[.const (.slice none 0 0), .tmp 62]) rfl ?_); at_builtin; refine Kd.R_append_rows k44 (w0 := w1) (W := w1) b rfl (.const (.slice none 0 0)) (.tmp 62) 22 44 (.agg #[(.int .u8 0), (.string ⟨#[]⟩)]) 24 rfl Try.underlying22 info44 rfl (by decide) (by omega) (.slice none 0 0) [] r (some ⟨q, 0, none⟩) r.length 0 (fun k => S1 k ∨ wr.heap.size ≤ k) (fun _ => False) rfl rfl (Kd.R_nil _ _ _ _ _) HCR1.out (fun _ _ h => k44_KM h) (fun _ h => h.elim) (fun k hk => .inr (Nat.le_trans H1B.out.size hk)) (Below.refl _ _) (Nat.le_trans HW1.out H1B.out.size) (by have := HN.out; simp only [List.length_cons] at this; simp only [List.length_nil]; omega) ?_; intro v2 w2 ho hb hg hat; rw [List.nil_append] at ho; obtain ⟨A2, n2, e2⟩ : ∃ A2 n2, v2 = Value.slice A2 r.length n2 := Kd.R_slice ho; subst e2; have hmo := (H1M.out.up (w1 := wr)).more hg (DA.of_R ho); have hbk := blk_grown H1M.out.blk hg (by simp [Value.ownBlock]); have q2 : w2.cell? ⟨g, 2, none⟩ = some (.slice (some ⟨q, 0, none⟩) (r.length + 1) 1) := (blk_cell hbk 2).trans (by show some (Value.slice (some ⟨q, 0, none⟩) Di.ahead.length 1) = _; rw [HAL.out]; rfl); have qf : w2.frozen? ⟨g, 2, none⟩ = false := blk_frozen hbk 2; have q3 : w2.cell? ⟨g, 3, none⟩ = some (.int .i64 Di.code) := (blk_cell hbk 3).trans rfl; have hz2 : w2.heap[z]? = some (.cells #[.int .u8 f.f0, .string f.f1] 44 (0, 0)) := (hg.block z (by rw [HZ.out, ← H1Z.out]; omega) (by simp [Value.ownBlock])).trans (by rw [HZ.out]; exact H1F.out); have zz0 : w2.cell? ⟨z, 0, none⟩ = some (.int .u8 f.f0) := (blk_cell hz2 0).trans rfl; have zz1 : w2.cell? ⟨z, 1, none⟩ = some (.string f.f1) := (blk_cell hz2 1).trans rfl; have HZ2 := Aside0.mk hz2; clear hz2; have HVZ : Aside0 (∀ k, (Value.slice A2 r.length n2).ownBlock = some k → k ≠ z) := ⟨fun k hk e => by have h1 := ho.1 k hk; have h2 := Kd.R_bound ho; rcases hat with h | ⟨b', h, hb'⟩; exact absurd (h ▸ hk) (by simp [Value.ownBlock]); rw [hk] at h; injection h with h; have := H1Z.out; have := HZ.out; omega⟩; have HMO := Aside0.mk hmo; have HG2 := Aside0.mk hg; have HB2 := Aside0.mk hb; clear ho hb hg hat hmo hbk)
            have hz2 := HZ2.out
            have hf3 : (w2.setCell ⟨g, 2, none⟩ (Value.slice A2 r.length n2)).heap[z]? = some (.cells #[.int .u8 f.f0, .string f.f1] 44 (0, 0)) := (Go.Deep.blk_setCell_other w2 ⟨g, 2, none⟩ _ z hzg).trans hz2
            have hk3 : Kept wr (w2.setCell ⟨g, 2, none⟩ (Value.slice A2 r.length n2)) S1 := (Kept.of_grown HG2.out (Kept.of_below H1B.out S1) (fun k hk => by cases hk)).setCell (.inl HM.out.1) _
            have hb3 : Below b wr (w2.setCell ⟨g, 2, none⟩ (Value.slice A2 r.length n2)) := Below.setCell ((H1B.out.mono HW1.out).trans HB2.out) HM.out.2.1 _
            have hmo := HMO.out
            have hvz := HVZ.out
            clear hz2 HZ2 HG2 HB2 qf q2 q3 zz0 zz1
            generalize w2.setCell ⟨g, 2, none⟩ (Value.slice A2 r.length n2) = w3 at *
            obtain ⟨_, _, k2, k3, _, _, _⟩ := hmo.cells
            have k3 : w3.cell? ⟨g, 3, none⟩ = some (.int .i64 Di.code) := k3
            have y0 : w3.cell? ⟨z, 0, none⟩ = some (.int .u8 f.f0) := (blk_cell hf3 0).trans rfl
            have y1 : w3.cell? ⟨z, 1, none⟩ = some (.string f.f1) := (blk_cell hf3 1).trans rfl
            have HX3 : Aside0 (DX (fun k => (S1 k ∨ wr.heap.size ≤ k) ∧ k < w3.heap.size ∧ k ≠ z) b w3 g { Di with ahead := r }) := ⟨fun k hk => hk.2.1, Nat.le_trans HW1.out hk3.1, _, _, hmo.notz hf3 hvz⟩
            have HK3 := Aside0.mk hk3
            have HB3 := Aside0.mk hb3
            clear hf3 hk3 hb3 hmo
            try go_wp2_with fail
            refine (dfree_calls _ b g { Di with ahead := r } f w3 HX3.out (by have := HN.out; simp only [List.length_cons] at this; show Di.told.length ≤ _; omega)).mono ?_
            obtain ⟨p, hp⟩ : ∃ p, p = dtake { Di with ahead := r } f := ⟨_, rfl⟩
            rw [show dfree { Di with ahead := r } f = p from by rw [hp]; unfold dtake; rw [if_pos (show Di.code = 0 from HCODE.out)]]
            have HP := Aside0.mk hp
            clear hp
            rintro _ w4 ⟨rfl, T4, s1, s2, s3, s4⟩
            have HGo4 : Aside0 (DGoes T b w g w4 p.2) := ⟨DGoes.then_ HI1.out HK1.out HB1.out (DGoes.then_ (T1 := fun k => (S1 k ∨ wr.heap.size ≤ k) ∧ k < w3.heap.size ∧ k ≠ z) (fun _ h => h.1) HK3.out HB3.out ⟨T4, s1, s2, s3, s4⟩)⟩
            have k5' : w4.cell? ⟨g, 5, none⟩ = some (.string p.2.text) := by obtain ⟨_, _, _, _, hm4⟩ := s2; exact hm4.cells.2.2.2.2.2.1
            clear s1 s2 s3 s4
            obtain ⟨d, M4⟩ := p
            have hdo := dtake_do { Di with ahead := r } f
            rw [← HP.out] at hdo
            have hdo : d = 0 ∨ d = 1 ∨ d = 2 ∨ d = 3 := hdo
            have HEQ : Aside0 (dgoL D D.ahead = if d = 0 then dgoL M4 r else if d = 2 then ((2, M4.text), M4) else ((d, ⟨#[]⟩), M4)) := ⟨by rw [← HG.out]; show (if Di.code = 0 ∨ _ then _ else _) = _; rw [if_pos HW0.out, ← HP.out]⟩
            rcases hdo with rfl | rfl | rfl | rfl
            · go_wp2_with fail
              go_roundg r.length
              case measure => first | omega | (simp only [List.length_cons]; omega)
              case rel => exact ⟨M4, r, rfl, ⟨by simpa using HEQ.out.symm⟩, ⟨fun h => by have := dtake_ahead { Di with ahead := r } f (by rw [← HP.out]) (by rw [← HP.out]; exact h); rw [← HP.out] at this; exact this⟩, ⟨by have := dtake_told { Di with ahead := r } f; rw [← HP.out] at this; have h2 := HN.out; simp only [List.length_cons] at h2; simp only at this; omega⟩, HGo4⟩
            · go_wp2_with fail
              go_returns
              rw [E.out, show dgoL D D.ahead = ((1, ⟨#[]⟩), M4) from by simpa using HEQ.out]
              exact ⟨rfl, HGo4.out⟩
            · go_wp2_with fail
              repeat (go_quiet (fail))
              revert nq
              intro nq
              go_wp2_with fail
              go_returns
              rw [E.out, show dgoL D D.ahead = ((2, M4.text), M4) from by simpa using HEQ.out]
              exact ⟨rfl, HGo4.out.tail (pw_below_drewN (Below.refl _ _) nq)⟩
            · go_wp2_with fail
              go_returns
              rw [E.out, show dgoL D D.ahead = ((3, ⟨#[]⟩), M4) from by simpa using HEQ.out]
              exact ⟨rfl, HGo4.out⟩
          · have HCODE := Aside0.mk hw
            have W0 : (Di.code == 2) = true := by rw [hw]; rfl
            have W0n : (Di.code == 0) = false := by rw [hw]; rfl
            clear hw
            go_wp2_with ((with_reducible refine gate_builtin (b := .append) (xs := #[.const (.slice none 0 0), .tmp 62]) rfl ?_); at_builtin; refine Kd.R_append_rows k44 (w0 := w1) (W := w1) b rfl (.const (.slice none 0 0)) (.tmp 62) 22 44 (.agg #[(.int .u8 0), (.string ⟨#[]⟩)]) 24 rfl Try.underlying22 info44 rfl (by decide) (by omega) (.slice none 0 0) [] r (some ⟨q, 0, none⟩) r.length 0 (fun k => S1 k ∨ wr.heap.size ≤ k) (fun _ => False) rfl rfl (Kd.R_nil _ _ _ _ _) HCR1.out (fun _ _ h => k44_KM h) (fun _ h => h.elim) (fun k hk => .inr (Nat.le_trans H1B.out.size hk)) (Below.refl _ _) (Nat.le_trans HW1.out H1B.out.size) (by have := HN.out; simp only [List.length_cons] at this; simp only [List.length_nil]; omega) ?_; intro v2 w2 ho hb hg hat; rw [List.nil_append] at ho; obtain ⟨A2, n2, e2⟩ : ∃ A2 n2, v2 = Value.slice A2 r.length n2 := Kd.R_slice ho; subst e2; have hmo := (H1M.out.up (w1 := wr)).more hg (DA.of_R ho); have hbk := blk_grown H1M.out.blk hg (by simp [Value.ownBlock]); have q2 : w2.cell? ⟨g, 2, none⟩ = some (.slice (some ⟨q, 0, none⟩) (r.length + 1) 1) := (blk_cell hbk 2).trans (by show some (Value.slice (some ⟨q, 0, none⟩) Di.ahead.length 1) = _; rw [HAL.out]; rfl); have qf : w2.frozen? ⟨g, 2, none⟩ = false := blk_frozen hbk 2; have q3 : w2.cell? ⟨g, 3, none⟩ = some (.int .i64 Di.code) := (blk_cell hbk 3).trans rfl; have hz2 : w2.heap[z]? = some (.cells #[.int .u8 f.f0, .string f.f1] 44 (0, 0)) := (hg.block z (by rw [HZ.out, ← H1Z.out]; omega) (by simp [Value.ownBlock])).trans (by rw [HZ.out]; exact H1F.out); have zz0 : w2.cell? ⟨z, 0, none⟩ = some (.int .u8 f.f0) := (blk_cell hz2 0).trans rfl; have zz1 : w2.cell? ⟨z, 1, none⟩ = some (.string f.f1) := (blk_cell hz2 1).trans rfl; have HZ2 := Aside0.mk hz2; clear hz2; have HVZ : Aside0 (∀ k, (Value.slice A2 r.length n2).ownBlock = some k → k ≠ z) := ⟨fun k hk e => by have h1 := ho.1 k hk; have h2 := Kd.R_bound ho; rcases hat with h | ⟨b', h, hb'⟩; exact absurd (h ▸ hk) (by simp [Value.ownBlock]); rw [hk] at h; injection h with h; have := H1Z.out; have := HZ.out; omega⟩; have HMO := Aside0.mk hmo; have HG2 := Aside0.mk hg; have HB2 := Aside0.mk hb; clear ho hb hg hat hmo hbk)
            have hz2 := HZ2.out
            have hf3 : (w2.setCell ⟨g, 2, none⟩ (Value.slice A2 r.length n2)).heap[z]? = some (.cells #[.int .u8 f.f0, .string f.f1] 44 (0, 0)) := (Go.Deep.blk_setCell_other w2 ⟨g, 2, none⟩ _ z hzg).trans hz2
            have hk3 : Kept wr (w2.setCell ⟨g, 2, none⟩ (Value.slice A2 r.length n2)) S1 := (Kept.of_grown HG2.out (Kept.of_below H1B.out S1) (fun k hk => by cases hk)).setCell (.inl HM.out.1) _
            have hb3 : Below b wr (w2.setCell ⟨g, 2, none⟩ (Value.slice A2 r.length n2)) := Below.setCell ((H1B.out.mono HW1.out).trans HB2.out) HM.out.2.1 _
            have hmo := HMO.out
            have hvz := HVZ.out
            clear hz2 HZ2 HG2 HB2 qf q2 q3 zz0 zz1
            generalize w2.setCell ⟨g, 2, none⟩ (Value.slice A2 r.length n2) = w3 at *
            obtain ⟨_, _, k2, k3, _, _, _⟩ := hmo.cells
            have k3 : w3.cell? ⟨g, 3, none⟩ = some (.int .i64 Di.code) := k3
            have y0 : w3.cell? ⟨z, 0, none⟩ = some (.int .u8 f.f0) := (blk_cell hf3 0).trans rfl
            have y1 : w3.cell? ⟨z, 1, none⟩ = some (.string f.f1) := (blk_cell hf3 1).trans rfl
            have HX3 : Aside0 (DX (fun k => (S1 k ∨ wr.heap.size ≤ k) ∧ k < w3.heap.size ∧ k ≠ z) b w3 g { Di with ahead := r }) := ⟨fun k hk => hk.2.1, Nat.le_trans HW1.out hk3.1, _, _, hmo.notz hf3 hvz⟩
            have HK3 := Aside0.mk hk3
            have HB3 := Aside0.mk hb3
            clear hf3 hk3 hb3 hmo
            try go_wp2_with fail
            refine (dbound_calls _ b g { Di with ahead := r } f w3 HX3.out (by have := HN.out; simp only [List.length_cons] at this; show Di.told.length ≤ _; omega)).mono ?_
            obtain ⟨p, hp⟩ : ∃ p, p = dtake { Di with ahead := r } f := ⟨_, rfl⟩
            rw [show dbound { Di with ahead := r } f = p from by rw [hp]; unfold dtake; rw [if_neg (by show ¬ Di.code = 0; rw [HCODE.out]; decide), if_pos (show Di.code = 2 from HCODE.out)]]
            have HP := Aside0.mk hp
            clear hp
            rintro _ w4 ⟨rfl, T4, s1, s2, s3, s4⟩
            have HGo4 : Aside0 (DGoes T b w g w4 p.2) := ⟨DGoes.then_ HI1.out HK1.out HB1.out (DGoes.then_ (T1 := fun k => (S1 k ∨ wr.heap.size ≤ k) ∧ k < w3.heap.size ∧ k ≠ z) (fun _ h => h.1) HK3.out HB3.out ⟨T4, s1, s2, s3, s4⟩)⟩
            have k5' : w4.cell? ⟨g, 5, none⟩ = some (.string p.2.text) := by obtain ⟨_, _, _, _, hm4⟩ := s2; exact hm4.cells.2.2.2.2.2.1
            clear s1 s2 s3 s4
            obtain ⟨d, M4⟩ := p
            have hdo := dtake_do { Di with ahead := r } f
            rw [← HP.out] at hdo
            have hdo : d = 0 ∨ d = 1 ∨ d = 2 ∨ d = 3 := hdo
            have HEQ : Aside0 (dgoL D D.ahead = if d = 0 then dgoL M4 r else if d = 2 then ((2, M4.text), M4) else ((d, ⟨#[]⟩), M4)) := ⟨by rw [← HG.out]; show (if Di.code = 0 ∨ _ then _ else _) = _; rw [if_pos HW0.out, ← HP.out]⟩
            rcases hdo with rfl | rfl | rfl | rfl
            · go_wp2_with fail
              go_roundg r.length
              case measure => first | omega | (simp only [List.length_cons]; omega)
              case rel => exact ⟨M4, r, rfl, ⟨by simpa using HEQ.out.symm⟩, ⟨fun h => by have := dtake_ahead { Di with ahead := r } f (by rw [← HP.out]) (by rw [← HP.out]; exact h); rw [← HP.out] at this; exact this⟩, ⟨by have := dtake_told { Di with ahead := r } f; rw [← HP.out] at this; have h2 := HN.out; simp only [List.length_cons] at h2; simp only at this; omega⟩, HGo4⟩
            · go_wp2_with fail
              go_returns
              rw [E.out, show dgoL D D.ahead = ((1, ⟨#[]⟩), M4) from by simpa using HEQ.out]
              exact ⟨rfl, HGo4.out⟩
            · go_wp2_with fail
              repeat (go_quiet (fail))
              revert nq
              intro nq
              go_wp2_with fail
              go_returns
              rw [E.out, show dgoL D D.ahead = ((2, M4.text), M4) from by simpa using HEQ.out]
              exact ⟨rfl, HGo4.out.tail (pw_below_drewN (Below.refl _ _) nq)⟩
            · go_wp2_with fail
              go_returns
              rw [E.out, show dgoL D D.ahead = ((3, ⟨#[]⟩), M4) from by simpa using HEQ.out]
              exact ⟨rfl, HGo4.out⟩
          · have HCODE := Aside0.mk hw
            have W0 : (Di.code == 6) = true := by rw [hw]; rfl
            have W0n : (Di.code == 0) = false := by rw [hw]; rfl
            have W2n : (Di.code == 2) = false := by rw [hw]; rfl
            clear hw
            go_wp2_with ((with_reducible refine gate_builtin (b := .append) (xs := #[.const (.slice none 0 0), .tmp 62]) rfl ?_); at_builtin; refine Kd.R_append_rows k44 (w0 := w1) (W := w1) b rfl (.const (.slice none 0 0)) (.tmp 62) 22 44 (.agg #[(.int .u8 0), (.string ⟨#[]⟩)]) 24 rfl Try.underlying22 info44 rfl (by decide) (by omega) (.slice none 0 0) [] r (some ⟨q, 0, none⟩) r.length 0 (fun k => S1 k ∨ wr.heap.size ≤ k) (fun _ => False) rfl rfl (Kd.R_nil _ _ _ _ _) HCR1.out (fun _ _ h => k44_KM h) (fun _ h => h.elim) (fun k hk => .inr (Nat.le_trans H1B.out.size hk)) (Below.refl _ _) (Nat.le_trans HW1.out H1B.out.size) (by have := HN.out; simp only [List.length_cons] at this; simp only [List.length_nil]; omega) ?_; intro v2 w2 ho hb hg hat; rw [List.nil_append] at ho; obtain ⟨A2, n2, e2⟩ : ∃ A2 n2, v2 = Value.slice A2 r.length n2 := Kd.R_slice ho; subst e2; have hmo := (H1M.out.up (w1 := wr)).more hg (DA.of_R ho); have hbk := blk_grown H1M.out.blk hg (by simp [Value.ownBlock]); have q2 : w2.cell? ⟨g, 2, none⟩ = some (.slice (some ⟨q, 0, none⟩) (r.length + 1) 1) := (blk_cell hbk 2).trans (by show some (Value.slice (some ⟨q, 0, none⟩) Di.ahead.length 1) = _; rw [HAL.out]; rfl); have qf : w2.frozen? ⟨g, 2, none⟩ = false := blk_frozen hbk 2; have q3 : w2.cell? ⟨g, 3, none⟩ = some (.int .i64 Di.code) := (blk_cell hbk 3).trans rfl; have hz2 : w2.heap[z]? = some (.cells #[.int .u8 f.f0, .string f.f1] 44 (0, 0)) := (hg.block z (by rw [HZ.out, ← H1Z.out]; omega) (by simp [Value.ownBlock])).trans (by rw [HZ.out]; exact H1F.out); have zz0 : w2.cell? ⟨z, 0, none⟩ = some (.int .u8 f.f0) := (blk_cell hz2 0).trans rfl; have zz1 : w2.cell? ⟨z, 1, none⟩ = some (.string f.f1) := (blk_cell hz2 1).trans rfl; have HZ2 := Aside0.mk hz2; clear hz2; have HVZ : Aside0 (∀ k, (Value.slice A2 r.length n2).ownBlock = some k → k ≠ z) := ⟨fun k hk e => by have h1 := ho.1 k hk; have h2 := Kd.R_bound ho; rcases hat with h | ⟨b', h, hb'⟩; exact absurd (h ▸ hk) (by simp [Value.ownBlock]); rw [hk] at h; injection h with h; have := H1Z.out; have := HZ.out; omega⟩; have HMO := Aside0.mk hmo; have HG2 := Aside0.mk hg; have HB2 := Aside0.mk hb; clear ho hb hg hat hmo hbk)
            have hz2 := HZ2.out
            have hf3 : (w2.setCell ⟨g, 2, none⟩ (Value.slice A2 r.length n2)).heap[z]? = some (.cells #[.int .u8 f.f0, .string f.f1] 44 (0, 0)) := (Go.Deep.blk_setCell_other w2 ⟨g, 2, none⟩ _ z hzg).trans hz2
            have hk3 : Kept wr (w2.setCell ⟨g, 2, none⟩ (Value.slice A2 r.length n2)) S1 := (Kept.of_grown HG2.out (Kept.of_below H1B.out S1) (fun k hk => by cases hk)).setCell (.inl HM.out.1) _
            have hb3 : Below b wr (w2.setCell ⟨g, 2, none⟩ (Value.slice A2 r.length n2)) := Below.setCell ((H1B.out.mono HW1.out).trans HB2.out) HM.out.2.1 _
            have hmo := HMO.out
            have hvz := HVZ.out
            clear hz2 HZ2 HG2 HB2 qf q2 q3 zz0 zz1
            generalize w2.setCell ⟨g, 2, none⟩ (Value.slice A2 r.length n2) = w3 at *
            obtain ⟨_, _, k2, k3, _, _, _⟩ := hmo.cells
            have k3 : w3.cell? ⟨g, 3, none⟩ = some (.int .i64 Di.code) := k3
            have y0 : w3.cell? ⟨z, 0, none⟩ = some (.int .u8 f.f0) := (blk_cell hf3 0).trans rfl
            have y1 : w3.cell? ⟨z, 1, none⟩ = some (.string f.f1) := (blk_cell hf3 1).trans rfl
            have HX3 : Aside0 (DX (fun k => (S1 k ∨ wr.heap.size ≤ k) ∧ k < w3.heap.size ∧ k ≠ z) b w3 g { Di with ahead := r }) := ⟨fun k hk => hk.2.1, Nat.le_trans HW1.out hk3.1, _, _, hmo.notz hf3 hvz⟩
            have HK3 := Aside0.mk hk3
            have HB3 := Aside0.mk hb3
            clear hf3 hk3 hb3 hmo
            try go_wp2_with fail
            refine (ddead_calls _ b g { Di with ahead := r } f w3 HX3.out (by have := HN.out; simp only [List.length_cons] at this; show Di.told.length ≤ _; omega)).mono ?_
            obtain ⟨p, hp⟩ : ∃ p, p = dtake { Di with ahead := r } f := ⟨_, rfl⟩
            rw [show ddead { Di with ahead := r } f = p from by rw [hp]; unfold dtake; rw [if_neg (by show ¬ Di.code = 0; rw [HCODE.out]; decide), if_neg (by show ¬ Di.code = 2; rw [HCODE.out]; decide)]]
            have HP := Aside0.mk hp
            clear hp
            rintro _ w4 ⟨rfl, T4, s1, s2, s3, s4⟩
            have HGo4 : Aside0 (DGoes T b w g w4 p.2) := ⟨DGoes.then_ HI1.out HK1.out HB1.out (DGoes.then_ (T1 := fun k => (S1 k ∨ wr.heap.size ≤ k) ∧ k < w3.heap.size ∧ k ≠ z) (fun _ h => h.1) HK3.out HB3.out ⟨T4, s1, s2, s3, s4⟩)⟩
            have k5' : w4.cell? ⟨g, 5, none⟩ = some (.string p.2.text) := by obtain ⟨_, _, _, _, hm4⟩ := s2; exact hm4.cells.2.2.2.2.2.1
            clear s1 s2 s3 s4
            obtain ⟨d, M4⟩ := p
            have hdo := dtake_do { Di with ahead := r } f
            rw [← HP.out] at hdo
            have hdo : d = 0 ∨ d = 1 ∨ d = 2 ∨ d = 3 := hdo
            have HEQ : Aside0 (dgoL D D.ahead = if d = 0 then dgoL M4 r else if d = 2 then ((2, M4.text), M4) else ((d, ⟨#[]⟩), M4)) := ⟨by rw [← HG.out]; show (if Di.code = 0 ∨ _ then _ else _) = _; rw [if_pos HW0.out, ← HP.out]⟩
            rcases hdo with rfl | rfl | rfl | rfl
            · go_wp2_with fail
              go_roundg r.length
              case measure => first | omega | (simp only [List.length_cons]; omega)
              case rel => exact ⟨M4, r, rfl, ⟨by simpa using HEQ.out.symm⟩, ⟨fun h => by have := dtake_ahead { Di with ahead := r } f (by rw [← HP.out]) (by rw [← HP.out]; exact h); rw [← HP.out] at this; exact this⟩, ⟨by have := dtake_told { Di with ahead := r } f; rw [← HP.out] at this; have h2 := HN.out; simp only [List.length_cons] at h2; simp only at this; omega⟩, HGo4⟩
            · go_wp2_with fail
              go_returns
              rw [E.out, show dgoL D D.ahead = ((1, ⟨#[]⟩), M4) from by simpa using HEQ.out]
              exact ⟨rfl, HGo4.out⟩
            · go_wp2_with fail
              repeat (go_quiet (fail))
              revert nq
              intro nq
              go_wp2_with fail
              go_returns
              rw [E.out, show dgoL D D.ahead = ((2, M4.text), M4) from by simpa using HEQ.out]
              exact ⟨rfl, HGo4.out.tail (pw_below_drewN (Below.refl _ _) nq)⟩
            · go_wp2_with fail
              go_returns
              rw [E.out, show dgoL D D.ahead = ((3, ⟨#[]⟩), M4) from by simpa using HEQ.out]
              exact ⟨rfl, HGo4.out⟩
        · have HCR2 := Aside0.mk (HCR.out hn1)
          have hn1' : (na = 1) = False := eq_false hn1
          clear HCR HCN hn1
          rcases hw with hw | hw | hw
          · have HCODE := Aside0.mk hw
            have W0 : (Di.code == 0) = true := by rw [hw]; rfl
            clear hw
            go_wp2_with ((with_reducible refine gate_builtin (b := .append) (xs := #[.const (.slice none 0 0), .tmp 62]) rfl ?_); at_builtin; refine Kd.R_append_rows k44 (w0 := w1) (W := w1) b rfl (.const (.slice none 0 0)) (.tmp 62) 22 44 (.agg #[(.int .u8 0), (.string ⟨#[]⟩)]) 24 rfl Try.underlying22 info44 rfl (by decide) (by omega) (.slice none 0 0) [] r (some ⟨q, 2, none⟩) r.length (na - 1) (fun k => S1 k ∨ wr.heap.size ≤ k) (fun _ => False) rfl rfl (Kd.R_nil _ _ _ _ _) HCR2.out (fun _ _ h => k44_KM h) (fun _ h => h.elim) (fun k hk => .inr (Nat.le_trans H1B.out.size hk)) (Below.refl _ _) (Nat.le_trans HW1.out H1B.out.size) (by have := HN.out; simp only [List.length_cons] at this; simp only [List.length_nil]; omega) ?_; intro v2 w2 ho hb hg hat; rw [List.nil_append] at ho; obtain ⟨A2, n2, e2⟩ : ∃ A2 n2, v2 = Value.slice A2 r.length n2 := Kd.R_slice ho; subst e2; have hmo := (H1M.out.up (w1 := wr)).more hg (DA.of_R ho); have hbk := blk_grown H1M.out.blk hg (by simp [Value.ownBlock]); have q2 : w2.cell? ⟨g, 2, none⟩ = some (.slice (some ⟨q, 0, none⟩) (r.length + 1) na) := (blk_cell hbk 2).trans (by show some (Value.slice (some ⟨q, 0, none⟩) Di.ahead.length na) = _; rw [HAL.out]; rfl); have qf : w2.frozen? ⟨g, 2, none⟩ = false := blk_frozen hbk 2; have q3 : w2.cell? ⟨g, 3, none⟩ = some (.int .i64 Di.code) := (blk_cell hbk 3).trans rfl; have hz2 : w2.heap[z]? = some (.cells #[.int .u8 f.f0, .string f.f1] 44 (0, 0)) := (hg.block z (by rw [HZ.out, ← H1Z.out]; omega) (by simp [Value.ownBlock])).trans (by rw [HZ.out]; exact H1F.out); have zz0 : w2.cell? ⟨z, 0, none⟩ = some (.int .u8 f.f0) := (blk_cell hz2 0).trans rfl; have zz1 : w2.cell? ⟨z, 1, none⟩ = some (.string f.f1) := (blk_cell hz2 1).trans rfl; have HZ2 := Aside0.mk hz2; clear hz2; have HVZ : Aside0 (∀ k, (Value.slice A2 r.length n2).ownBlock = some k → k ≠ z) := ⟨fun k hk e => by have h1 := ho.1 k hk; have h2 := Kd.R_bound ho; rcases hat with h | ⟨b', h, hb'⟩; exact absurd (h ▸ hk) (by simp [Value.ownBlock]); rw [hk] at h; injection h with h; have := H1Z.out; have := HZ.out; omega⟩; have HMO := Aside0.mk hmo; have HG2 := Aside0.mk hg; have HB2 := Aside0.mk hb; clear ho hb hg hat hmo hbk)
            have hz2 := HZ2.out
            have hf3 : (w2.setCell ⟨g, 2, none⟩ (Value.slice A2 r.length n2)).heap[z]? = some (.cells #[.int .u8 f.f0, .string f.f1] 44 (0, 0)) := (Go.Deep.blk_setCell_other w2 ⟨g, 2, none⟩ _ z hzg).trans hz2
            have hk3 : Kept wr (w2.setCell ⟨g, 2, none⟩ (Value.slice A2 r.length n2)) S1 := (Kept.of_grown HG2.out (Kept.of_below H1B.out S1) (fun k hk => by cases hk)).setCell (.inl HM.out.1) _
            have hb3 : Below b wr (w2.setCell ⟨g, 2, none⟩ (Value.slice A2 r.length n2)) := Below.setCell ((H1B.out.mono HW1.out).trans HB2.out) HM.out.2.1 _
            have hmo := HMO.out
            have hvz := HVZ.out
            clear hz2 HZ2 HG2 HB2 qf q2 q3 zz0 zz1
            generalize w2.setCell ⟨g, 2, none⟩ (Value.slice A2 r.length n2) = w3 at *
            obtain ⟨_, _, k2, k3, _, _, _⟩ := hmo.cells
            have k3 : w3.cell? ⟨g, 3, none⟩ = some (.int .i64 Di.code) := k3
            have y0 : w3.cell? ⟨z, 0, none⟩ = some (.int .u8 f.f0) := (blk_cell hf3 0).trans rfl
            have y1 : w3.cell? ⟨z, 1, none⟩ = some (.string f.f1) := (blk_cell hf3 1).trans rfl
            have HX3 : Aside0 (DX (fun k => (S1 k ∨ wr.heap.size ≤ k) ∧ k < w3.heap.size ∧ k ≠ z) b w3 g { Di with ahead := r }) := ⟨fun k hk => hk.2.1, Nat.le_trans HW1.out hk3.1, _, _, hmo.notz hf3 hvz⟩
            have HK3 := Aside0.mk hk3
            have HB3 := Aside0.mk hb3
            clear hf3 hk3 hb3 hmo
            try go_wp2_with fail
            refine (dfree_calls _ b g { Di with ahead := r } f w3 HX3.out (by have := HN.out; simp only [List.length_cons] at this; show Di.told.length ≤ _; omega)).mono ?_
            obtain ⟨p, hp⟩ : ∃ p, p = dtake { Di with ahead := r } f := ⟨_, rfl⟩
            rw [show dfree { Di with ahead := r } f = p from by rw [hp]; unfold dtake; rw [if_pos (show Di.code = 0 from HCODE.out)]]
            have HP := Aside0.mk hp
            clear hp
            rintro _ w4 ⟨rfl, T4, s1, s2, s3, s4⟩
            have HGo4 : Aside0 (DGoes T b w g w4 p.2) := ⟨DGoes.then_ HI1.out HK1.out HB1.out (DGoes.then_ (T1 := fun k => (S1 k ∨ wr.heap.size ≤ k) ∧ k < w3.heap.size ∧ k ≠ z) (fun _ h => h.1) HK3.out HB3.out ⟨T4, s1, s2, s3, s4⟩)⟩
            have k5' : w4.cell? ⟨g, 5, none⟩ = some (.string p.2.text) := by obtain ⟨_, _, _, _, hm4⟩ := s2; exact hm4.cells.2.2.2.2.2.1
            clear s1 s2 s3 s4
            obtain ⟨d, M4⟩ := p
            have hdo := dtake_do { Di with ahead := r } f
            rw [← HP.out] at hdo
            have hdo : d = 0 ∨ d = 1 ∨ d = 2 ∨ d = 3 := hdo
            have HEQ : Aside0 (dgoL D D.ahead = if d = 0 then dgoL M4 r else if d = 2 then ((2, M4.text), M4) else ((d, ⟨#[]⟩), M4)) := ⟨by rw [← HG.out]; show (if Di.code = 0 ∨ _ then _ else _) = _; rw [if_pos HW0.out, ← HP.out]⟩
            rcases hdo with rfl | rfl | rfl | rfl
            · go_wp2_with fail
              go_roundg r.length
              case measure => first | omega | (simp only [List.length_cons]; omega)
              case rel => exact ⟨M4, r, rfl, ⟨by simpa using HEQ.out.symm⟩, ⟨fun h => by have := dtake_ahead { Di with ahead := r } f (by rw [← HP.out]) (by rw [← HP.out]; exact h); rw [← HP.out] at this; exact this⟩, ⟨by have := dtake_told { Di with ahead := r } f; rw [← HP.out] at this; have h2 := HN.out; simp only [List.length_cons] at h2; simp only at this; omega⟩, HGo4⟩
            · go_wp2_with fail
              go_returns
              rw [E.out, show dgoL D D.ahead = ((1, ⟨#[]⟩), M4) from by simpa using HEQ.out]
              exact ⟨rfl, HGo4.out⟩
            · go_wp2_with fail
              repeat (go_quiet (fail))
              revert nq
              intro nq
              go_wp2_with fail
              go_returns
              rw [E.out, show dgoL D D.ahead = ((2, M4.text), M4) from by simpa using HEQ.out]
              exact ⟨rfl, HGo4.out.tail (pw_below_drewN (Below.refl _ _) nq)⟩
            · go_wp2_with fail
              go_returns
              rw [E.out, show dgoL D D.ahead = ((3, ⟨#[]⟩), M4) from by simpa using HEQ.out]
              exact ⟨rfl, HGo4.out⟩
          · have HCODE := Aside0.mk hw
            have W0 : (Di.code == 2) = true := by rw [hw]; rfl
            have W0n : (Di.code == 0) = false := by rw [hw]; rfl
            clear hw
            go_wp2_with ((with_reducible refine gate_builtin (b := .append) (xs := #[.const (.slice none 0 0), .tmp 62]) rfl ?_); at_builtin; refine Kd.R_append_rows k44 (w0 := w1) (W := w1) b rfl (.const (.slice none 0 0)) (.tmp 62) 22 44 (.agg #[(.int .u8 0), (.string ⟨#[]⟩)]) 24 rfl Try.underlying22 info44 rfl (by decide) (by omega) (.slice none 0 0) [] r (some ⟨q, 2, none⟩) r.length (na - 1) (fun k => S1 k ∨ wr.heap.size ≤ k) (fun _ => False) rfl rfl (Kd.R_nil _ _ _ _ _) HCR2.out (fun _ _ h => k44_KM h) (fun _ h => h.elim) (fun k hk => .inr (Nat.le_trans H1B.out.size hk)) (Below.refl _ _) (Nat.le_trans HW1.out H1B.out.size) (by have := HN.out; simp only [List.length_cons] at this; simp only [List.length_nil]; omega) ?_; intro v2 w2 ho hb hg hat; rw [List.nil_append] at ho; obtain ⟨A2, n2, e2⟩ : ∃ A2 n2, v2 = Value.slice A2 r.length n2 := Kd.R_slice ho; subst e2; have hmo := (H1M.out.up (w1 := wr)).more hg (DA.of_R ho); have hbk := blk_grown H1M.out.blk hg (by simp [Value.ownBlock]); have q2 : w2.cell? ⟨g, 2, none⟩ = some (.slice (some ⟨q, 0, none⟩) (r.length + 1) na) := (blk_cell hbk 2).trans (by show some (Value.slice (some ⟨q, 0, none⟩) Di.ahead.length na) = _; rw [HAL.out]; rfl); have qf : w2.frozen? ⟨g, 2, none⟩ = false := blk_frozen hbk 2; have q3 : w2.cell? ⟨g, 3, none⟩ = some (.int .i64 Di.code) := (blk_cell hbk 3).trans rfl; have hz2 : w2.heap[z]? = some (.cells #[.int .u8 f.f0, .string f.f1] 44 (0, 0)) := (hg.block z (by rw [HZ.out, ← H1Z.out]; omega) (by simp [Value.ownBlock])).trans (by rw [HZ.out]; exact H1F.out); have zz0 : w2.cell? ⟨z, 0, none⟩ = some (.int .u8 f.f0) := (blk_cell hz2 0).trans rfl; have zz1 : w2.cell? ⟨z, 1, none⟩ = some (.string f.f1) := (blk_cell hz2 1).trans rfl; have HZ2 := Aside0.mk hz2; clear hz2; have HVZ : Aside0 (∀ k, (Value.slice A2 r.length n2).ownBlock = some k → k ≠ z) := ⟨fun k hk e => by have h1 := ho.1 k hk; have h2 := Kd.R_bound ho; rcases hat with h | ⟨b', h, hb'⟩; exact absurd (h ▸ hk) (by simp [Value.ownBlock]); rw [hk] at h; injection h with h; have := H1Z.out; have := HZ.out; omega⟩; have HMO := Aside0.mk hmo; have HG2 := Aside0.mk hg; have HB2 := Aside0.mk hb; clear ho hb hg hat hmo hbk)
            have hz2 := HZ2.out
            have hf3 : (w2.setCell ⟨g, 2, none⟩ (Value.slice A2 r.length n2)).heap[z]? = some (.cells #[.int .u8 f.f0, .string f.f1] 44 (0, 0)) := (Go.Deep.blk_setCell_other w2 ⟨g, 2, none⟩ _ z hzg).trans hz2
            have hk3 : Kept wr (w2.setCell ⟨g, 2, none⟩ (Value.slice A2 r.length n2)) S1 := (Kept.of_grown HG2.out (Kept.of_below H1B.out S1) (fun k hk => by cases hk)).setCell (.inl HM.out.1) _
            have hb3 : Below b wr (w2.setCell ⟨g, 2, none⟩ (Value.slice A2 r.length n2)) := Below.setCell ((H1B.out.mono HW1.out).trans HB2.out) HM.out.2.1 _
            have hmo := HMO.out
            have hvz := HVZ.out
            clear hz2 HZ2 HG2 HB2 qf q2 q3 zz0 zz1
            generalize w2.setCell ⟨g, 2, none⟩ (Value.slice A2 r.length n2) = w3 at *
            obtain ⟨_, _, k2, k3, _, _, _⟩ := hmo.cells
            have k3 : w3.cell? ⟨g, 3, none⟩ = some (.int .i64 Di.code) := k3
            have y0 : w3.cell? ⟨z, 0, none⟩ = some (.int .u8 f.f0) := (blk_cell hf3 0).trans rfl
            have y1 : w3.cell? ⟨z, 1, none⟩ = some (.string f.f1) := (blk_cell hf3 1).trans rfl
            have HX3 : Aside0 (DX (fun k => (S1 k ∨ wr.heap.size ≤ k) ∧ k < w3.heap.size ∧ k ≠ z) b w3 g { Di with ahead := r }) := ⟨fun k hk => hk.2.1, Nat.le_trans HW1.out hk3.1, _, _, hmo.notz hf3 hvz⟩
            have HK3 := Aside0.mk hk3
            have HB3 := Aside0.mk hb3
            clear hf3 hk3 hb3 hmo
            try go_wp2_with fail
            refine (dbound_calls _ b g { Di with ahead := r } f w3 HX3.out (by have := HN.out; simp only [List.length_cons] at this; show Di.told.length ≤ _; omega)).mono ?_
            obtain ⟨p, hp⟩ : ∃ p, p = dtake { Di with ahead := r } f := ⟨_, rfl⟩
            rw [show dbound { Di with ahead := r } f = p from by rw [hp]; unfold dtake; rw [if_neg (by show ¬ Di.code = 0; rw [HCODE.out]; decide), if_pos (show Di.code = 2 from HCODE.out)]]
            have HP := Aside0.mk hp
            clear hp
            rintro _ w4 ⟨rfl, T4, s1, s2, s3, s4⟩
            have HGo4 : Aside0 (DGoes T b w g w4 p.2) := ⟨DGoes.then_ HI1.out HK1.out HB1.out (DGoes.then_ (T1 := fun k => (S1 k ∨ wr.heap.size ≤ k) ∧ k < w3.heap.size ∧ k ≠ z) (fun _ h => h.1) HK3.out HB3.out ⟨T4, s1, s2, s3, s4⟩)⟩
            have k5' : w4.cell? ⟨g, 5, none⟩ = some (.string p.2.text) := by obtain ⟨_, _, _, _, hm4⟩ := s2; exact hm4.cells.2.2.2.2.2.1
            clear s1 s2 s3 s4
            obtain ⟨d, M4⟩ := p
            have hdo := dtake_do { Di with ahead := r } f
            rw [← HP.out] at hdo
            have hdo : d = 0 ∨ d = 1 ∨ d = 2 ∨ d = 3 := hdo
            have HEQ : Aside0 (dgoL D D.ahead = if d = 0 then dgoL M4 r else if d = 2 then ((2, M4.text), M4) else ((d, ⟨#[]⟩), M4)) := ⟨by rw [← HG.out]; show (if Di.code = 0 ∨ _ then _ else _) = _; rw [if_pos HW0.out, ← HP.out]⟩
            rcases hdo with rfl | rfl | rfl | rfl
            · go_wp2_with fail
              go_roundg r.length
              case measure => first | omega | (simp only [List.length_cons]; omega)
              case rel => exact ⟨M4, r, rfl, ⟨by simpa using HEQ.out.symm⟩, ⟨fun h => by have := dtake_ahead { Di with ahead := r } f (by rw [← HP.out]) (by rw [← HP.out]; exact h); rw [← HP.out] at this; exact this⟩, ⟨by have := dtake_told { Di with ahead := r } f; rw [← HP.out] at this; have h2 := HN.out; simp only [List.length_cons] at h2; simp only at this; omega⟩, HGo4⟩
            · go_wp2_with fail
              go_returns
              rw [E.out, show dgoL D D.ahead = ((1, ⟨#[]⟩), M4) from by simpa using HEQ.out]
              exact ⟨rfl, HGo4.out⟩
            · go_wp2_with fail
              repeat (go_quiet (fail))
              revert nq
              intro nq
              go_wp2_with fail
              go_returns
              rw [E.out, show dgoL D D.ahead = ((2, M4.text), M4) from by simpa using HEQ.out]
              exact ⟨rfl, HGo4.out.tail (pw_below_drewN (Below.refl _ _) nq)⟩
            · go_wp2_with fail
              go_returns
              rw [E.out, show dgoL D D.ahead = ((3, ⟨#[]⟩), M4) from by simpa using HEQ.out]
              exact ⟨rfl, HGo4.out⟩
          · have HCODE := Aside0.mk hw
            have W0 : (Di.code == 6) = true := by rw [hw]; rfl
            have W0n : (Di.code == 0) = false := by rw [hw]; rfl
            have W2n : (Di.code == 2) = false := by rw [hw]; rfl
            clear hw
            go_wp2_with ((with_reducible refine gate_builtin (b := .append) (xs := #[.const (.slice none 0 0), .tmp 62]) rfl ?_); at_builtin; refine Kd.R_append_rows k44 (w0 := w1) (W := w1) b rfl (.const (.slice none 0 0)) (.tmp 62) 22 44 (.agg #[(.int .u8 0), (.string ⟨#[]⟩)]) 24 rfl Try.underlying22 info44 rfl (by decide) (by omega) (.slice none 0 0) [] r (some ⟨q, 2, none⟩) r.length (na - 1) (fun k => S1 k ∨ wr.heap.size ≤ k) (fun _ => False) rfl rfl (Kd.R_nil _ _ _ _ _) HCR2.out (fun _ _ h => k44_KM h) (fun _ h => h.elim) (fun k hk => .inr (Nat.le_trans H1B.out.size hk)) (Below.refl _ _) (Nat.le_trans HW1.out H1B.out.size) (by have := HN.out; simp only [List.length_cons] at this; simp only [List.length_nil]; omega) ?_; intro v2 w2 ho hb hg hat; rw [List.nil_append] at ho; obtain ⟨A2, n2, e2⟩ : ∃ A2 n2, v2 = Value.slice A2 r.length n2 := Kd.R_slice ho; subst e2; have hmo := (H1M.out.up (w1 := wr)).more hg (DA.of_R ho); have hbk := blk_grown H1M.out.blk hg (by simp [Value.ownBlock]); have q2 : w2.cell? ⟨g, 2, none⟩ = some (.slice (some ⟨q, 0, none⟩) (r.length + 1) na) := (blk_cell hbk 2).trans (by show some (Value.slice (some ⟨q, 0, none⟩) Di.ahead.length na) = _; rw [HAL.out]; rfl); have qf : w2.frozen? ⟨g, 2, none⟩ = false := blk_frozen hbk 2; have q3 : w2.cell? ⟨g, 3, none⟩ = some (.int .i64 Di.code) := (blk_cell hbk 3).trans rfl; have hz2 : w2.heap[z]? = some (.cells #[.int .u8 f.f0, .string f.f1] 44 (0, 0)) := (hg.block z (by rw [HZ.out, ← H1Z.out]; omega) (by simp [Value.ownBlock])).trans (by rw [HZ.out]; exact H1F.out); have zz0 : w2.cell? ⟨z, 0, none⟩ = some (.int .u8 f.f0) := (blk_cell hz2 0).trans rfl; have zz1 : w2.cell? ⟨z, 1, none⟩ = some (.string f.f1) := (blk_cell hz2 1).trans rfl; have HZ2 := Aside0.mk hz2; clear hz2; have HVZ : Aside0 (∀ k, (Value.slice A2 r.length n2).ownBlock = some k → k ≠ z) := ⟨fun k hk e => by have h1 := ho.1 k hk; have h2 := Kd.R_bound ho; rcases hat with h | ⟨b', h, hb'⟩; exact absurd (h ▸ hk) (by simp [Value.ownBlock]); rw [hk] at h; injection h with h; have := H1Z.out; have := HZ.out; omega⟩; have HMO := Aside0.mk hmo; have HG2 := Aside0.mk hg; have HB2 := Aside0.mk hb; clear ho hb hg hat hmo hbk)
            have hz2 := HZ2.out
            have hf3 : (w2.setCell ⟨g, 2, none⟩ (Value.slice A2 r.length n2)).heap[z]? = some (.cells #[.int .u8 f.f0, .string f.f1] 44 (0, 0)) := (Go.Deep.blk_setCell_other w2 ⟨g, 2, none⟩ _ z hzg).trans hz2
            have hk3 : Kept wr (w2.setCell ⟨g, 2, none⟩ (Value.slice A2 r.length n2)) S1 := (Kept.of_grown HG2.out (Kept.of_below H1B.out S1) (fun k hk => by cases hk)).setCell (.inl HM.out.1) _
            have hb3 : Below b wr (w2.setCell ⟨g, 2, none⟩ (Value.slice A2 r.length n2)) := Below.setCell ((H1B.out.mono HW1.out).trans HB2.out) HM.out.2.1 _
            have hmo := HMO.out
            have hvz := HVZ.out
            clear hz2 HZ2 HG2 HB2 qf q2 q3 zz0 zz1
            generalize w2.setCell ⟨g, 2, none⟩ (Value.slice A2 r.length n2) = w3 at *
            obtain ⟨_, _, k2, k3, _, _, _⟩ := hmo.cells
            have k3 : w3.cell? ⟨g, 3, none⟩ = some (.int .i64 Di.code) := k3
            have y0 : w3.cell? ⟨z, 0, none⟩ = some (.int .u8 f.f0) := (blk_cell hf3 0).trans rfl
            have y1 : w3.cell? ⟨z, 1, none⟩ = some (.string f.f1) := (blk_cell hf3 1).trans rfl
            have HX3 : Aside0 (DX (fun k => (S1 k ∨ wr.heap.size ≤ k) ∧ k < w3.heap.size ∧ k ≠ z) b w3 g { Di with ahead := r }) := ⟨fun k hk => hk.2.1, Nat.le_trans HW1.out hk3.1, _, _, hmo.notz hf3 hvz⟩
            have HK3 := Aside0.mk hk3
            have HB3 := Aside0.mk hb3
            clear hf3 hk3 hb3 hmo
            try go_wp2_with fail
            refine (ddead_calls _ b g { Di with ahead := r } f w3 HX3.out (by have := HN.out; simp only [List.length_cons] at this; show Di.told.length ≤ _; omega)).mono ?_
            obtain ⟨p, hp⟩ : ∃ p, p = dtake { Di with ahead := r } f := ⟨_, rfl⟩
            rw [show ddead { Di with ahead := r } f = p from by rw [hp]; unfold dtake; rw [if_neg (by show ¬ Di.code = 0; rw [HCODE.out]; decide), if_neg (by show ¬ Di.code = 2; rw [HCODE.out]; decide)]]
            have HP := Aside0.mk hp
            clear hp
            rintro _ w4 ⟨rfl, T4, s1, s2, s3, s4⟩
            have HGo4 : Aside0 (DGoes T b w g w4 p.2) := ⟨DGoes.then_ HI1.out HK1.out HB1.out (DGoes.then_ (T1 := fun k => (S1 k ∨ wr.heap.size ≤ k) ∧ k < w3.heap.size ∧ k ≠ z) (fun _ h => h.1) HK3.out HB3.out ⟨T4, s1, s2, s3, s4⟩)⟩
            have k5' : w4.cell? ⟨g, 5, none⟩ = some (.string p.2.text) := by obtain ⟨_, _, _, _, hm4⟩ := s2; exact hm4.cells.2.2.2.2.2.1
            clear s1 s2 s3 s4
            obtain ⟨d, M4⟩ := p
            have hdo := dtake_do { Di with ahead := r } f
            rw [← HP.out] at hdo
            have hdo : d = 0 ∨ d = 1 ∨ d = 2 ∨ d = 3 := hdo
            have HEQ : Aside0 (dgoL D D.ahead = if d = 0 then dgoL M4 r else if d = 2 then ((2, M4.text), M4) else ((d, ⟨#[]⟩), M4)) := ⟨by rw [← HG.out]; show (if Di.code = 0 ∨ _ then _ else _) = _; rw [if_pos HW0.out, ← HP.out]⟩
            rcases hdo with rfl | rfl | rfl | rfl
            · go_wp2_with fail
              go_roundg r.length
              case measure => first | omega | (simp only [List.length_cons]; omega)
              case rel => exact ⟨M4, r, rfl, ⟨by simpa using HEQ.out.symm⟩, ⟨fun h => by have := dtake_ahead { Di with ahead := r } f (by rw [← HP.out]) (by rw [← HP.out]; exact h); rw [← HP.out] at this; exact this⟩, ⟨by have := dtake_told { Di with ahead := r } f; rw [← HP.out] at this; have h2 := HN.out; simp only [List.length_cons] at h2; simp only at this; omega⟩, HGo4⟩
            · go_wp2_with fail
              go_returns
              rw [E.out, show dgoL D D.ahead = ((1, ⟨#[]⟩), M4) from by simpa using HEQ.out]
              exact ⟨rfl, HGo4.out⟩
            · go_wp2_with fail
              repeat (go_quiet (fail))
              revert nq
              intro nq
              go_wp2_with fail
              go_returns
              rw [E.out, show dgoL D D.ahead = ((2, M4.text), M4) from by simpa using HEQ.out]
              exact ⟨rfl, HGo4.out.tail (pw_below_drewN (Below.refl _ _) nq)⟩
            · go_wp2_with fail
              go_returns
              rw [E.out, show dgoL D D.ahead = ((3, ⟨#[]⟩), M4) from by simpa using HEQ.out]
              exact ⟨rfl, HGo4.out⟩
def dgot (D : DSt) : Int × DSt := if D.code = 1 then (if D.alone = true then (0, { D with code := 3 }) else (0, dtell { D with code := 2 } ⟨1, 0, ⟨#[]⟩⟩)) else (3, D)
def danswer (D : DSt) (t : ByteArray) : Int × DSt := if D.code = 4 then (0, { dtell D ⟨2, 0, t⟩ with code := if D.alone = true then 5 else 2 }) else (3, D)
def dlost (D : DSt) : Int × DSt := if D.code = 2 then (0, { D with code := 6 }) else if D.code = 3 ∨ D.code = 4 then (0, { dtell D ⟨6, 0, ⟨#[]⟩⟩ with code := 0 }) else if D.code = 5 then (0, { D with code := 0 }) else (3, D)
def dturn (D : DSt) (r : S42) : Int × DSt := if turnOk r then (if D.code = 1 then (0, dtell { D with code := 0 } r) else (3, D)) else (1, D)
set_option maxHeartbeats 4000000 in
set_option maxRecDepth 100000 in
theorem dgot_calls (T : Nat → Prop) (b g : Nat) (D : DSt) (w : World) (h : DX T b w g D) (hl : D.told.length ≤ 1000000) :
    Calls Try.prog 19 #[.pointer (some ⟨g, 0, none⟩)] w fun e w' => e = .returned (.int .i64 (dgot D).1) ∧ DGoes T b w g w' (dgot D).2 := by
  by_cases h1 : D.code = 1
  · have e1 : (D.code == 1) = true := by rw [h1]; rfl
    have e1n : (D.code != 1) = false := by rw [h1]; rfl
    rcases ha : D.alone with _ | _
    · have e : dgot D = (0, dtell { D with code := 2 } ⟨1, 0, ⟨#[]⟩⟩) := by unfold dgot; rw [if_pos h1, ha]; rfl
      rw [e]
      clear e h1
      obtain ⟨h1, h2, va, vt, hm⟩ := h
      obtain ⟨c0, c1, c2, c3, c4, c5, c6⟩ := hm.cells
      have f3 := hm.frozen 3
      have HX := Aside0.mk (show DX T b w g D from ⟨h1, h2, va, vt, hm⟩)
      have H := Aside0.mk hm
      have HL := Aside0.mk hl
      have HW := Aside0.mk h2
      have HS := Aside0.mk h1
      clear hm hl h1 h2
      rw [ha] at c4
      clear ha
      go_enter Try.func19, Try.ntmps19
      go_wp2_with fail
      have hx2 : DX T b (w.setCell ⟨g, 3, none⟩ (.int .i64 2)) g { D with code := 2 } := ⟨fun k hk => by have := HS.out k hk; simpa [World.setCell] using this, by have := HW.out; simpa [World.setCell] using this, va, vt, H.out.fld 3 (.int .i64 2) { D with code := 2 } rfl rfl rfl⟩
      have hk2 := (Kept.refl w T).setCell (p := ⟨g, 3, none⟩) (.inl H.out.1) (.int .i64 2)
      have hb2 := Below.setCell (p := ⟨g, 3, none⟩) (Below.refl b w) H.out.2.1 (.int .i64 2)
      have HX2 := Aside0.mk hx2
      have HK2 := Aside0.mk hk2
      have HB2 := Aside0.mk hb2
      clear hx2 hk2 hb2
      refine Calls.mono (show Calls Try.prog 38 #[.pointer (some ⟨g, 0, none⟩), .agg #[.int .i64 1, .int .i64 0, .string ⟨#[]⟩]] (w.setCell ⟨g, 3, none⟩ (.int .i64 2)) _ from dtell_calls T b g { D with code := 2 } ⟨1, 0, ⟨#[]⟩⟩ _ HX2.out HL.out) ?_
      rintro e w3 ⟨rfl, hg⟩
      have HG := Aside0.mk (DGoes.then_ (fun _ h => .inl h) HK2.out HB2.out hg)
      clear hg
      go_wp2_with fail
      all_goals go_ret
      all_goals exact ⟨rfl, HG.out⟩
    · have e : dgot D = (0, { D with code := 3 }) := by unfold dgot; rw [if_pos h1, ha]; rfl
      rw [e]
      clear e h1
      obtain ⟨h1, h2, va, vt, hm⟩ := h
      obtain ⟨c0, c1, c2, c3, c4, c5, c6⟩ := hm.cells
      have f3 := hm.frozen 3
      have HX := Aside0.mk (show DX T b w g D from ⟨h1, h2, va, vt, hm⟩)
      have H := Aside0.mk hm
      have HL := Aside0.mk hl
      have HW := Aside0.mk h2
      have HS := Aside0.mk h1
      clear hm hl h1 h2
      rw [ha] at c4
      clear ha
      go_enter Try.func19, Try.ntmps19
      go_wp2_with fail
      all_goals go_ret
      all_goals exact ⟨rfl, DGoes.of (H.out.fld 3 (.int .i64 3) { D with code := 3 } rfl rfl rfl).up HW.out ((Kept.refl w T).setCell (.inl H.out.1) _) (Below.setCell (Below.refl b w) H.out.2.1 _)⟩
  · have e1 : (D.code == 1) = false := beq_eq_false_iff_ne.2 h1
    have e1n : (D.code != 1) = true := bne_iff_ne.2 h1
    have e : dgot D = (3, D) := by unfold dgot; rw [if_neg h1]
    rw [e]
    clear e h1
    obtain ⟨h1, h2, va, vt, hm⟩ := h
    obtain ⟨c0, c1, c2, c3, c4, c5, c6⟩ := hm.cells
    have f3 := hm.frozen 3
    have HX := Aside0.mk (show DX T b w g D from ⟨h1, h2, va, vt, hm⟩)
    have H := Aside0.mk hm
    have HL := Aside0.mk hl
    have HW := Aside0.mk h2
    have HS := Aside0.mk h1
    clear hm hl h1 h2
    go_enter Try.func19, Try.ntmps19
    go_wp2_with fail
    all_goals go_ret
    all_goals exact ⟨rfl, DGoes.refl HX.out⟩
set_option maxHeartbeats 4000000 in
set_option maxRecDepth 100000 in
theorem danswer_calls (T : Nat → Prop) (b g : Nat) (D : DSt) (tx : ByteArray) (w : World) (h : DX T b w g D) (hl : D.told.length ≤ 1000000) :
    Calls Try.prog 22 #[.pointer (some ⟨g, 0, none⟩), .string tx] w fun e w' => e = .returned (.int .i64 (danswer D tx).1) ∧ DGoes T b w g w' (danswer D tx).2 := by
  by_cases h1 : D.code = 4
  · have e1n : (D.code != 4) = false := by rw [h1]; rfl
    rcases ha : D.alone with _ | _
    · have e : danswer D tx = (0, { dtell D ⟨2, 0, tx⟩ with code := 2 }) := by unfold danswer; rw [if_pos h1, ha]; rfl
      rw [e]
      clear e h1
      obtain ⟨h1, h2, va, vt, hm⟩ := h
      obtain ⟨c0, c1, c2, c3, c4, c5, c6⟩ := hm.cells
      have f3 := hm.frozen 3
      have HX := Aside0.mk (show DX T b w g D from ⟨h1, h2, va, vt, hm⟩)
      have H := Aside0.mk hm
      have HL := Aside0.mk hl
      have HW := Aside0.mk h2
      have HS := Aside0.mk h1
      clear hm hl h1 h2
      rw [ha] at c4
      go_enter Try.func22, Try.ntmps22
      go_wp2_with fail
      refine Calls.mono (show Calls Try.prog 38 #[.pointer (some ⟨g, 0, none⟩), .agg #[.int .i64 2, .int .i64 0, .string tx]] w _ from dtell_calls T b g D ⟨2, 0, tx⟩ w HX.out HL.out) ?_
      rintro e w2 ⟨rfl, T1, s1, ⟨m1, m2, va1, vt1, hm⟩, s3, s4⟩
      obtain ⟨k0, k1, k2, k3, k4, k5, k6⟩ := hm.cells
      have f3' := hm.frozen 3
      have HM := Aside0.mk hm
      have HI2 := Aside0.mk m2
      have HS1 := Aside0.mk s1
      have HK := Aside0.mk s3
      have HB := Aside0.mk s4
      clear hm m1 m2 s1 s3 s4
      replace k4 : w2.cell? ⟨g, 4, none⟩ = some (.bool D.alone) := k4
      rw [ha] at k4
      clear ha
      go_wp2_with fail
      all_goals go_ret
      all_goals exact ⟨rfl, DGoes.then_ HS1.out HK.out HB.out (DGoes.of (HM.out.fld 3 (.int .i64 2) { dtell D ⟨2, 0, tx⟩ with code := 2 } rfl rfl rfl).up HI2.out ((Kept.refl _ _).setCell (.inl HM.out.1) _) (Below.setCell (Below.refl b _) HM.out.2.1 _))⟩
    · have e : danswer D tx = (0, { dtell D ⟨2, 0, tx⟩ with code := 5 }) := by unfold danswer; rw [if_pos h1, ha]; rfl
      rw [e]
      clear e h1
      obtain ⟨h1, h2, va, vt, hm⟩ := h
      obtain ⟨c0, c1, c2, c3, c4, c5, c6⟩ := hm.cells
      have f3 := hm.frozen 3
      have HX := Aside0.mk (show DX T b w g D from ⟨h1, h2, va, vt, hm⟩)
      have H := Aside0.mk hm
      have HL := Aside0.mk hl
      have HW := Aside0.mk h2
      have HS := Aside0.mk h1
      clear hm hl h1 h2
      rw [ha] at c4
      go_enter Try.func22, Try.ntmps22
      go_wp2_with fail
      refine Calls.mono (show Calls Try.prog 38 #[.pointer (some ⟨g, 0, none⟩), .agg #[.int .i64 2, .int .i64 0, .string tx]] w _ from dtell_calls T b g D ⟨2, 0, tx⟩ w HX.out HL.out) ?_
      rintro e w2 ⟨rfl, T1, s1, ⟨m1, m2, va1, vt1, hm⟩, s3, s4⟩
      obtain ⟨k0, k1, k2, k3, k4, k5, k6⟩ := hm.cells
      have f3' := hm.frozen 3
      have HM := Aside0.mk hm
      have HI2 := Aside0.mk m2
      have HS1 := Aside0.mk s1
      have HK := Aside0.mk s3
      have HB := Aside0.mk s4
      clear hm m1 m2 s1 s3 s4
      replace k4 : w2.cell? ⟨g, 4, none⟩ = some (.bool D.alone) := k4
      rw [ha] at k4
      clear ha
      go_wp2_with fail
      all_goals go_ret
      all_goals exact ⟨rfl, DGoes.then_ HS1.out HK.out HB.out (DGoes.of (HM.out.fld 3 (.int .i64 5) { dtell D ⟨2, 0, tx⟩ with code := 5 } rfl rfl rfl).up HI2.out ((Kept.refl _ _).setCell (.inl HM.out.1) _) (Below.setCell (Below.refl b _) HM.out.2.1 _))⟩
  · have e1n : (D.code != 4) = true := bne_iff_ne.2 h1
    have e : danswer D tx = (3, D) := by unfold danswer; rw [if_neg h1]
    rw [e]
    clear e h1
    obtain ⟨h1, h2, va, vt, hm⟩ := h
    obtain ⟨c0, c1, c2, c3, c4, c5, c6⟩ := hm.cells
    have f3 := hm.frozen 3
    have HX := Aside0.mk (show DX T b w g D from ⟨h1, h2, va, vt, hm⟩)
    have H := Aside0.mk hm
    have HL := Aside0.mk hl
    have HW := Aside0.mk h2
    have HS := Aside0.mk h1
    clear hm hl h1 h2
    go_enter Try.func22, Try.ntmps22
    go_wp2_with fail
    all_goals go_ret
    all_goals exact ⟨rfl, DGoes.refl HX.out⟩
set_option maxHeartbeats 4000000 in
set_option maxRecDepth 100000 in
theorem dlost_calls (T : Nat → Prop) (b g : Nat) (D : DSt) (w : World) (h : DX T b w g D) (hl : D.told.length ≤ 1000000) :
    Calls Try.prog 24 #[.pointer (some ⟨g, 0, none⟩)] w fun e w' => e = .returned (.int .i64 (dlost D).1) ∧ DGoes T b w g w' (dlost D).2 := by
  by_cases h2 : D.code = 2
  · have e2 : (D.code == 2) = true := by rw [h2]; rfl
    have e : dlost D = (0, { D with code := 6 }) := by unfold dlost; rw [if_pos h2]
    rw [e]
    clear e h2
    obtain ⟨i1, i2, va, vt, hm⟩ := h
    obtain ⟨c0, c1, c2, c3, c4, c5, c6⟩ := hm.cells
    have f3 := hm.frozen 3
    have HX := Aside0.mk (show DX T b w g D from ⟨i1, i2, va, vt, hm⟩)
    have H := Aside0.mk hm
    have HL := Aside0.mk hl
    have HW := Aside0.mk i2
    have HS := Aside0.mk i1
    clear hm hl i1 i2
    go_enter Try.func24, Try.ntmps24
    go_wp2_with fail
    all_goals go_ret
    all_goals exact ⟨rfl, DGoes.of (H.out.fld 3 (.int .i64 6) { D with code := 6 } rfl rfl rfl).up HW.out ((Kept.refl w T).setCell (.inl H.out.1) _) (Below.setCell (Below.refl b w) H.out.2.1 _)⟩
  have n2 : (D.code == 2) = false := beq_eq_false_iff_ne.2 h2
  by_cases h3 : D.code = 3
  · have e3 : (D.code == 3) = true := by rw [h3]; rfl
    have e : dlost D = (0, { dtell D ⟨6, 0, ⟨#[]⟩⟩ with code := 0 }) := by unfold dlost; rw [if_neg h2, if_pos (.inl h3)]
    rw [e]
    clear e h2 h3
    obtain ⟨i1, i2, va, vt, hm⟩ := h
    obtain ⟨c0, c1, c2, c3, c4, c5, c6⟩ := hm.cells
    have f3 := hm.frozen 3
    have HX := Aside0.mk (show DX T b w g D from ⟨i1, i2, va, vt, hm⟩)
    have H := Aside0.mk hm
    have HL := Aside0.mk hl
    have HW := Aside0.mk i2
    have HS := Aside0.mk i1
    clear hm hl i1 i2
    go_enter Try.func24, Try.ntmps24
    go_wp2_with fail
    refine Calls.mono (show Calls Try.prog 38 #[.pointer (some ⟨g, 0, none⟩), .agg #[.int .i64 6, .int .i64 0, .string ⟨#[]⟩]] w _ from dtell_calls T b g D ⟨6, 0, ⟨#[]⟩⟩ w HX.out HL.out) ?_
    rintro e w2 ⟨rfl, T1, s1, ⟨m1, m2, va1, vt1, hm⟩, s3, s4⟩
    obtain ⟨k0, k1, k2, k3, k4, k5, k6⟩ := hm.cells
    have f3' := hm.frozen 3
    have HM := Aside0.mk hm
    have HI2 := Aside0.mk m2
    have HS1 := Aside0.mk s1
    have HK := Aside0.mk s3
    have HB := Aside0.mk s4
    clear hm m1 m2 s1 s3 s4
    go_wp2_with fail
    all_goals go_ret
    all_goals exact ⟨rfl, DGoes.then_ HS1.out HK.out HB.out (DGoes.of (HM.out.fld 3 (.int .i64 0) { dtell D ⟨6, 0, ⟨#[]⟩⟩ with code := 0 } rfl rfl rfl).up HI2.out ((Kept.refl _ _).setCell (.inl HM.out.1) _) (Below.setCell (Below.refl b _) HM.out.2.1 _))⟩
  have n3 : (D.code == 3) = false := beq_eq_false_iff_ne.2 h3
  by_cases h4 : D.code = 4
  · have e4 : (D.code == 4) = true := by rw [h4]; rfl
    have e : dlost D = (0, { dtell D ⟨6, 0, ⟨#[]⟩⟩ with code := 0 }) := by unfold dlost; rw [if_neg h2, if_pos (.inr h4)]
    rw [e]
    clear e h2 h3 h4
    obtain ⟨i1, i2, va, vt, hm⟩ := h
    obtain ⟨c0, c1, c2, c3, c4, c5, c6⟩ := hm.cells
    have f3 := hm.frozen 3
    have HX := Aside0.mk (show DX T b w g D from ⟨i1, i2, va, vt, hm⟩)
    have H := Aside0.mk hm
    have HL := Aside0.mk hl
    have HW := Aside0.mk i2
    have HS := Aside0.mk i1
    clear hm hl i1 i2
    go_enter Try.func24, Try.ntmps24
    go_wp2_with fail
    refine Calls.mono (show Calls Try.prog 38 #[.pointer (some ⟨g, 0, none⟩), .agg #[.int .i64 6, .int .i64 0, .string ⟨#[]⟩]] w _ from dtell_calls T b g D ⟨6, 0, ⟨#[]⟩⟩ w HX.out HL.out) ?_
    rintro e w2 ⟨rfl, T1, s1, ⟨m1, m2, va1, vt1, hm⟩, s3, s4⟩
    obtain ⟨k0, k1, k2, k3, k4, k5, k6⟩ := hm.cells
    have f3' := hm.frozen 3
    have HM := Aside0.mk hm
    have HI2 := Aside0.mk m2
    have HS1 := Aside0.mk s1
    have HK := Aside0.mk s3
    have HB := Aside0.mk s4
    clear hm m1 m2 s1 s3 s4
    go_wp2_with fail
    all_goals go_ret
    all_goals exact ⟨rfl, DGoes.then_ HS1.out HK.out HB.out (DGoes.of (HM.out.fld 3 (.int .i64 0) { dtell D ⟨6, 0, ⟨#[]⟩⟩ with code := 0 } rfl rfl rfl).up HI2.out ((Kept.refl _ _).setCell (.inl HM.out.1) _) (Below.setCell (Below.refl b _) HM.out.2.1 _))⟩
  have n4 : (D.code == 4) = false := beq_eq_false_iff_ne.2 h4
  by_cases h5 : D.code = 5
  · have e5 : (D.code == 5) = true := by rw [h5]; rfl
    have e : dlost D = (0, { D with code := 0 }) := by unfold dlost; rw [if_neg h2, if_neg (fun h => h.elim h3 h4), if_pos h5]
    rw [e]
    clear e h2 h3 h4 h5
    obtain ⟨i1, i2, va, vt, hm⟩ := h
    obtain ⟨c0, c1, c2, c3, c4, c5, c6⟩ := hm.cells
    have f3 := hm.frozen 3
    have HX := Aside0.mk (show DX T b w g D from ⟨i1, i2, va, vt, hm⟩)
    have H := Aside0.mk hm
    have HL := Aside0.mk hl
    have HW := Aside0.mk i2
    have HS := Aside0.mk i1
    clear hm hl i1 i2
    go_enter Try.func24, Try.ntmps24
    go_wp2_with fail
    all_goals go_ret
    all_goals exact ⟨rfl, DGoes.of (H.out.fld 3 (.int .i64 0) { D with code := 0 } rfl rfl rfl).up HW.out ((Kept.refl w T).setCell (.inl H.out.1) _) (Below.setCell (Below.refl b w) H.out.2.1 _)⟩
  have n5 : (D.code == 5) = false := beq_eq_false_iff_ne.2 h5
  have e : dlost D = (3, D) := by unfold dlost; rw [if_neg h2, if_neg (fun h => h.elim h3 h4), if_neg h5]
  rw [e]
  clear e h2 h3 h4 h5
  obtain ⟨i1, i2, va, vt, hm⟩ := h
  obtain ⟨c0, c1, c2, c3, c4, c5, c6⟩ := hm.cells
  have f3 := hm.frozen 3
  have HX := Aside0.mk (show DX T b w g D from ⟨i1, i2, va, vt, hm⟩)
  have H := Aside0.mk hm
  have HL := Aside0.mk hl
  have HW := Aside0.mk i2
  have HS := Aside0.mk i1
  clear hm hl i1 i2
  go_enter Try.func24, Try.ntmps24
  go_wp2_with fail
  all_goals go_ret
  all_goals exact ⟨rfl, DGoes.refl HX.out⟩
set_option maxRecDepth 100000 in
theorem dhang_calls (T : Nat → Prop) (b g : Nat) (D : DSt) (w : World) (h : DX T b w g D) :
    Calls Try.prog 26 #[.pointer (some ⟨g, 0, none⟩)] w fun e w' => e = .returned (.tuple #[]) ∧ DGoes T b w g w' (dend D) := by
  have H := Aside0.mk h
  clear h
  go_enter Try.func26, Try.ntmps26
  go_wp2_with fail
  refine (dend_calls T b g D w H.out).mono ?_
  rintro e w1 ⟨rfl, hg⟩
  have HG := Aside0.mk hg
  clear hg
  go_wp2_with fail
  all_goals go_end0
  all_goals exact ⟨rfl, HG.out⟩
theorem DR.shed {T : Nat → Prop} {b g : Nat} {w : World} {va vt : Value} {D : DSt} (h : DR T b w g va vt D) : DR (fun k => T k ∧ some k ≠ vt.ownBlock) b (w.setCell ⟨g, 6, none⟩ (.slice none 0 0)) g va (.slice none 0 0) { D with told := [] } ∧ Kd.R k42 42 (w.setCell ⟨g, 6, none⟩ (.slice none 0 0)) b (fun k => T k ∧ ¬ (T k ∧ some k ≠ vt.ownBlock)) vt D.told := by
  have ht := h.2.2.2.2
  have hne := Kd.R_ne ht h.blk (by decide)
  refine ⟨⟨⟨h.1, hne⟩, h.2.1, by simpa [cellsZ] using blk_set h.blk 6 (.slice none 0 0), ?_, Kd.R_nil _ _ _ _ _⟩, Kd.R_mono (R42_only (Kd.R_set ht h.blk (by decide) _ _)) (fun k hk => ⟨hk.1, fun h => h.2 hk.2⟩)⟩
  have := (h.2.2.2.1.bound.mono (T' := fun k => T k ∧ some k ≠ vt.ownBlock) fun k hk => ⟨hk.1, fun e => by
    obtain ⟨inner, ho⟩ := Kd.R_own ht
    obtain ⟨cs, hc⟩ := own_typed ho k e.symm
    obtain ⟨_, _, cells, hc2⟩ := hk
    rw [hc] at hc2
    injection hc2 with hc2
    injection hc2 with _ hc2
    cases hc2⟩)
  exact this.set h.blk (by decide) _ _
set_option maxRecDepth 100000 in
theorem dreplies_calls (T : Nat → Prop) (b g : Nat) (D : DSt) (w : World) (h : DX T b w g D) :
    Calls Try.prog 28 #[.pointer (some ⟨g, 0, none⟩)] w fun e w' => ∃ v T', e = .returned v ∧ (∀ k, T' k → T k) ∧ DX T' b w' g { D with told := [] } ∧ Kd.R k42 42 w' b (fun k => T k ∧ ¬ T' k) v D.told ∧ Kept w w' T ∧ Below b w w' := by
  obtain ⟨h1, h2, va, vt, hm⟩ := h
  obtain ⟨c0, c1, c2, c3, c4, c5, c6⟩ := hm.cells
  have f6 := hm.frozen 6
  have HM := Aside0.mk hm
  have HI := Aside0.mk h1
  have HW := Aside0.mk h2
  clear hm h1 h2
  go_enter Try.func28, Try.ntmps28
  go_wp2_with fail
  all_goals go_ret
  all_goals exact ⟨_, _, rfl, fun k hk => hk.1, ⟨fun k hk => by have := HI.out k hk.1; simpa [World.setCell] using this, by have := HW.out; simpa [World.setCell] using this, va, _, HM.out.shed.1⟩, HM.out.shed.2, (Kept.refl w T).setCell (.inl HM.out.1) _, Below.setCell (Below.refl b w) HM.out.2.1 _⟩
set_option maxHeartbeats 4000000 in
set_option maxRecDepth 100000 in
theorem dturn_no (T : Nat → Prop) (b g : Nat) (D : DSt) (r : S42) (w : World) (h : DX T b w g D) (hn : ¬ turnOk r) :
    Calls Try.prog 21 #[.pointer (some ⟨g, 0, none⟩), .agg #[.int .i64 r.f0, .int .i64 r.f1, .string r.f2]] w fun e w' => e = .returned (.int .i64 1) ∧ DGoes T b w g w' D := by
  obtain ⟨k, n, y⟩ := r
  have HG : Aside0 (DGoes T b w g (w.alloc (.cells #[.int .i64 k, .int .i64 n, .string y] 42)) D) := ⟨(DGoes.refl h).tail (below_alloc (Below.refl _ _) _)⟩
  have h1f : (w.alloc (.cells #[.int .i64 k, .int .i64 n, .string y] 42)).heap[w.heap.size]? = some (.cells #[.int .i64 k, .int .i64 n, .string y] 42 (0, 0)) := heap_alloc_new w _
  obtain ⟨w1, hw1⟩ : ∃ w1, w.alloc (.cells #[.int .i64 k, .int .i64 n, .string y] 42) = w1 := ⟨_, rfl⟩
  obtain ⟨z, hz⟩ : ∃ z, z = w.heap.size := ⟨_, rfl⟩
  rw [hw1] at HG h1f
  rw [← hz] at h1f
  have hz' := hz.symm
  have z0 : w1.cell? ⟨z, 0, none⟩ = some (.int .i64 k) := (blk_cell h1f 0).trans rfl
  have z1 : w1.cell? ⟨z, 1, none⟩ = some (.int .i64 n) := (blk_cell h1f 1).trans rfl
  have z2 : w1.cell? ⟨z, 2, none⟩ = some (.string y) := (blk_cell h1f 2).trans rfl
  have hy : (y.toList == ([] : List UInt8)) = decide (y.size = 0) := nil_iff y
  have hn1 : ¬ (k = 4 ∧ n = 0 ∧ y.size = 0) := fun h => hn (.inl h)
  have hn2 : ¬ (k = 5 ∧ y.size = 0 ∧ 1 ≤ n ∧ n ≤ 7) := fun h => hn (.inr h)
  have HN := Aside0.mk (And.intro hn1 hn2)
  clear h1f hz h hn hn1 hn2
  by_cases k4 : k = 4 <;> by_cases k5 : k = 5 <;> by_cases y0 : y.size = 0 <;> by_cases n0 : n = 0 <;> by_cases n1 : 1 ≤ n <;> by_cases n7 : n ≤ 7
  all_goals first
    | (exfalso; have := HN.out.1; have := HN.out.2; omega)
    | (have e4 : (k == 4) = decide (k = 4) := rfl
       have e5 : (k == 5) = decide (k = 5) := rfl
       have e0 : (n == 0) = decide (n = 0) := rfl
       first | rw [decide_eq_true k4] at e4 | rw [decide_eq_false k4] at e4
       first | rw [decide_eq_true k5] at e5 | rw [decide_eq_false k5] at e5
       first | rw [decide_eq_true n0] at e0 | rw [decide_eq_false n0] at e0
       first | rw [decide_eq_true y0] at hy | rw [decide_eq_false y0] at hy
       clear k4 k5 y0 n0
       go_enter Try.func21, Try.ntmps21
       go_wp2_with fail
       all_goals go_ret
       all_goals exact ⟨rfl, HG.out⟩)
set_option maxHeartbeats 4000000 in
set_option maxRecDepth 100000 in
theorem dturn_calls (T : Nat → Prop) (b g : Nat) (D : DSt) (r : S42) (w : World) (h : DX T b w g D) (hl : D.told.length ≤ 1000000) :
    Calls Try.prog 21 #[.pointer (some ⟨g, 0, none⟩), .agg #[.int .i64 r.f0, .int .i64 r.f1, .string r.f2]] w fun e w' => e = .returned (.int .i64 (dturn D r).1) ∧ DGoes T b w g w' (dturn D r).2 := by
  by_cases hok : turnOk r
  rotate_left 1
  · rw [show dturn D r = (1, D) from by unfold dturn; rw [if_neg hok]]
    exact dturn_no T b g D r w h hok
  obtain ⟨k, n, y⟩ := r
  have HOK := Aside0.mk hok
  have h0 := h.step (below_alloc (Below.refl w.heap.size w) (.cells #[.int .i64 k, .int .i64 n, .string y] 42))
  have h1f : (w.alloc (.cells #[.int .i64 k, .int .i64 n, .string y] 42)).heap[w.heap.size]? = some (.cells #[.int .i64 k, .int .i64 n, .string y] 42 (0, 0)) := heap_alloc_new w _
  have h1b : Below w.heap.size w (w.alloc (.cells #[.int .i64 k, .int .i64 n, .string y] 42)) := below_alloc (Below.refl _ _) _
  obtain ⟨w1, hw1⟩ : ∃ w1, w.alloc (.cells #[.int .i64 k, .int .i64 n, .string y] 42) = w1 := ⟨_, rfl⟩
  obtain ⟨z, hz⟩ : ∃ z, z = w.heap.size := ⟨_, rfl⟩
  rw [hw1] at h0 h1f h1b
  rw [← hz] at h1f
  have hzT : ¬ T z := fun hs => Nat.lt_irrefl _ (hz ▸ h.1 z hs)
  have HB0 := Aside0.mk h.2.1
  have HBL := Aside0.mk h1b
  have hz' := hz.symm
  have z0 : w1.cell? ⟨z, 0, none⟩ = some (.int .i64 k) := (blk_cell h1f 0).trans rfl
  have z1 : w1.cell? ⟨z, 1, none⟩ = some (.int .i64 n) := (blk_cell h1f 1).trans rfl
  have z2 : w1.cell? ⟨z, 2, none⟩ = some (.string y) := (blk_cell h1f 2).trans rfl
  have HX := Aside0.mk h0
  obtain ⟨i1, i2, va, vt, hm⟩ := h0
  obtain ⟨c0, c1, c2, c3, c4, c5, c6⟩ := hm.cells
  have f3 := hm.frozen 3
  have H := Aside0.mk hm
  have HW := Aside0.mk i2
  have HS := Aside0.mk i1
  have HL := Aside0.mk hl
  have hzg : z ≠ g := fun e => hzT (e ▸ hm.1)
  have hy0 : y.size = 0 := hok.elim (fun h => h.2.2) (fun h => h.2.1)
  have hy : (y.toList == ([] : List UInt8)) = true := by rw [nil_iff, decide_eq_true hy0]
  have q3 : (w1.setCell ⟨g, 3, none⟩ (.int .i64 0)).heap[z]? = some (.cells #[.int .i64 k, .int .i64 n, .string y] 42 (0, 0)) := (Go.Deep.blk_setCell_other w1 ⟨g, 3, none⟩ _ z hzg).trans h1f
  have y0 : (w1.setCell ⟨g, 3, none⟩ (.int .i64 0)).cell? ⟨z, 0, none⟩ = some (.int .i64 k) := (blk_cell q3 0).trans rfl
  have y1 : (w1.setCell ⟨g, 3, none⟩ (.int .i64 0)).cell? ⟨z, 1, none⟩ = some (.int .i64 n) := (blk_cell q3 1).trans rfl
  have y2 : (w1.setCell ⟨g, 3, none⟩ (.int .i64 0)).cell? ⟨z, 2, none⟩ = some (.string y) := (blk_cell q3 2).trans rfl
  clear hm i1 i2 hl hzT h1f h1b hz q3 hy0 hok h
  by_cases hw : D.code = 1
  rotate_left 1
  · have e1 : (D.code != 1) = true := bne_iff_ne.2 hw
    have e : dturn D ⟨k, n, y⟩ = (3, D) := by unfold dturn; rw [if_pos HOK.out, if_neg hw]
    rw [e]
    clear e hw
    rcases HOK.out with ⟨hk, hn, _⟩ | ⟨hk, _, hn1, hn7⟩
    · have hk : k = 4 := hk
      have hn : n = 0 := hn
      subst hk hn
      go_enter Try.func21, Try.ntmps21
      go_wp2_with fail
      all_goals go_ret
      all_goals exact ⟨rfl, DGoes.from_ HBL.out HB0.out (DGoes.refl HX.out)⟩
    · have hk : k = 5 := hk
      have hn1 : 1 ≤ n := hn1
      have hn7 : n ≤ 7 := hn7
      subst hk
      go_enter Try.func21, Try.ntmps21
      go_wp2_with fail
      all_goals go_ret
      all_goals exact ⟨rfl, DGoes.from_ HBL.out HB0.out (DGoes.refl HX.out)⟩
  · have e1 : (D.code != 1) = false := by rw [hw]; rfl
    have e : dturn D ⟨k, n, y⟩ = (0, dtell { D with code := 0 } ⟨k, n, y⟩) := by unfold dturn; rw [if_pos HOK.out, if_pos hw]
    rw [e]
    clear e hw
    rcases HOK.out with ⟨hk, hn, _⟩ | ⟨hk, _, hn1, hn7⟩
    · have hk : k = 4 := hk
      have hn : n = 0 := hn
      subst hk hn
      go_enter Try.func21, Try.ntmps21
      go_wp2_with fail
      have hx2 : DX T b (w1.setCell ⟨g, 3, none⟩ (.int .i64 0)) g { D with code := 0 } := ⟨fun k hk => by have := HS.out k hk; simpa [World.setCell] using this, by have := HW.out; simpa [World.setCell] using this, va, vt, H.out.fld 3 (.int .i64 0) { D with code := 0 } rfl rfl rfl⟩
      have hk2 := (Kept.refl w1 T).setCell (p := ⟨g, 3, none⟩) (.inl H.out.1) (.int .i64 0)
      have hb2 := Below.setCell (p := ⟨g, 3, none⟩) (Below.refl b w1) H.out.2.1 (.int .i64 0)
      have HX2 := Aside0.mk hx2
      have HK2 := Aside0.mk hk2
      have HB2 := Aside0.mk hb2
      clear hx2 hk2 hb2
      refine Calls.mono (show Calls Try.prog 38 #[.pointer (some ⟨g, 0, none⟩), .agg #[.int .i64 4, .int .i64 0, .string y]] (w1.setCell ⟨g, 3, none⟩ (.int .i64 0)) _ from dtell_calls T b g { D with code := 0 } ⟨4, 0, y⟩ _ HX2.out HL.out) ?_
      rintro e w3 ⟨rfl, hg⟩
      have HG := Aside0.mk (DGoes.then_ (fun _ h => .inl h) HK2.out HB2.out hg)
      clear hg
      go_wp2_with fail
      all_goals go_ret
      all_goals exact ⟨rfl, DGoes.from_ HBL.out HB0.out HG.out⟩
    · have hk : k = 5 := hk
      have hn1 : 1 ≤ n := hn1
      have hn7 : n ≤ 7 := hn7
      subst hk
      go_enter Try.func21, Try.ntmps21
      go_wp2_with fail
      have hx2 : DX T b (w1.setCell ⟨g, 3, none⟩ (.int .i64 0)) g { D with code := 0 } := ⟨fun k hk => by have := HS.out k hk; simpa [World.setCell] using this, by have := HW.out; simpa [World.setCell] using this, va, vt, H.out.fld 3 (.int .i64 0) { D with code := 0 } rfl rfl rfl⟩
      have hk2 := (Kept.refl w1 T).setCell (p := ⟨g, 3, none⟩) (.inl H.out.1) (.int .i64 0)
      have hb2 := Below.setCell (p := ⟨g, 3, none⟩) (Below.refl b w1) H.out.2.1 (.int .i64 0)
      have HX2 := Aside0.mk hx2
      have HK2 := Aside0.mk hk2
      have HB2 := Aside0.mk hb2
      clear hx2 hk2 hb2
      refine Calls.mono (show Calls Try.prog 38 #[.pointer (some ⟨g, 0, none⟩), .agg #[.int .i64 5, .int .i64 n, .string y]] (w1.setCell ⟨g, 3, none⟩ (.int .i64 0)) _ from dtell_calls T b g { D with code := 0 } ⟨5, n, y⟩ _ HX2.out HL.out) ?_
      rintro e w3 ⟨rfl, hg⟩
      have HG := Aside0.mk (DGoes.then_ (fun _ h => .inl h) HK2.out HB2.out hg)
      clear hg
      go_wp2_with fail
      all_goals go_ret
      all_goals exact ⟨rfl, DGoes.from_ HBL.out HB0.out HG.out⟩
end Go.Proofs.Ythjjblnkaikmlaa.Mx
