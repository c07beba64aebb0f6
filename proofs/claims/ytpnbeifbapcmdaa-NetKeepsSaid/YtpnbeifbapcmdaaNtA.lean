/- Package net: the nets' blocks; the plain side; Send walked. -/
import Derived.Test.YtpnbeifbapcmdaaPNetGoesx1
import Derived.Deep.RegionLaw
import Derived.Lib.SliceRun
import Derived.Lib.Bytes
namespace Go.Proofs.Ytpnbeifbapcmdaa.Nt
open Go.RowKit Go.Proofs.Ytpnbeifbapcmdaa.PNetGoes Go.Proofs.YtpnbeifbapcmdaaW.PrintWords Go.Proofs.YtpnbeifbapcmdaaW.PrintLast Go.Proofs.YtpnbeifbapcmdaaW.PrintMore
set_option linter.unusedVariables false
set_option linter.unusedSimpArgs false
attribute [local go_sem] max2_int min2_int max_two min_two
def cel (x : S28) : List Value := [.int .i64 x.f0, .int .i64 x.f1, .string x.f2]
def flat (l : List S28) : List Value := l.flatMap cel
theorem flat_cons (x : S28) (l : List S28) : flat (x :: l) = cel x ++ flat l := rfl
theorem flat_app (a b : List S28) : flat (a ++ b) = flat a ++ flat b := by simp [flat]
theorem flat_len (l : List S28) : (flat l).length = l.length * 3 := by
  induction l with
  | nil => rfl
  | cons x r ih => rw [flat_cons, List.length_append, ih, List.length_cons, show (cel x).length = 3 from rfl]; omega
theorem flat_take (l : List S28) : ∀ i, (flat l).take (i * 3) = flat (l.take i) := by
  induction l with
  | nil => intro i; simp [flat]
  | cons x r ih =>
    intro i
    cases i with
    | zero => simp [flat]
    | succ i =>
      rw [List.take_succ_cons, flat_cons, flat_cons, List.take_append, show (cel x).length = 3 from rfl, show (i + 1) * 3 - 3 = i * 3 by omega, ih, List.take_of_length_le (by rw [show (cel x).length = 3 from rfl]; omega)]
theorem flat_drop (l : List S28) : ∀ i, (flat l).drop (i * 3) = flat (l.drop i) := by
  induction l with
  | nil => intro i; simp [flat]
  | cons x r ih =>
    intro i
    cases i with
    | zero => simp
    | succ i =>
      rw [List.drop_succ_cons, flat_cons, List.drop_append, show (cel x).length = 3 from rfl, show (i + 1) * 3 - 3 = i * 3 by omega, ih, List.drop_of_length_le (by rw [show (cel x).length = 3 from rfl]; omega), List.nil_append]
theorem flat_one (l : List Value) : ∀ (xs : List S28), l.length = xs.length * 3 → (∀ j p, xs[j]? = some p → (l.drop (j * 3)).take 3 = cel p) → l = flat xs := by
  intro xs
  induction xs generalizing l with
  | nil => intro h _; exact List.length_eq_zero_iff.1 (by simpa using h)
  | cons x r ih =>
    intro h hc
    have h0 := hc 0 x rfl
    simp only [Nat.zero_mul, List.drop_zero] at h0
    rw [flat_cons, ← h0, ← ih (l.drop 3) (by rw [List.length_drop, h, List.length_cons]; omega) (fun j p hp => by
      have := hc (j + 1) p (by simpa using hp)
      rw [List.drop_drop, show 3 + j * 3 = (j + 1) * 3 by omega]
      exact this), List.take_append_drop]
theorem chunk (l : List S28) (j : Nat) (p : S28) (h : l[j]? = some p) : ((flat l).drop (j * 3)).take 3 = cel p := by
  obtain ⟨hj, hp⟩ := List.getElem?_eq_some_iff.1 h
  rw [flat_drop, List.drop_eq_getElem_cons hj, flat_cons, hp]
  rfl
theorem row_iff {e b : Nat} {S : Nat → Prop} {w : World} {v : Value} {l : List S28} : Kd.R k28 e w b S v l ↔ (∀ k, v.ownBlock = some k → S k) ∧ w.ownsRow b e 3 v l.length (flat l) := by
  constructor
  · rintro ⟨h1, inner, ho, hr⟩
    have e : inner = flat l := flat_one inner l hr.1 (fun j p hp => by
      have := k28_openM (hr.2 j p hp)
      exact this)
    exact ⟨h1, e ▸ ho⟩
  · rintro ⟨h1, ho⟩
    refine ⟨h1, flat l, ho, flat_len l, fun j p hp => ?_⟩
    show k28.M _ _ _ p (((flat l).drop (j * 3)).take 3)
    rw [chunk l j p hp]
    exact k28_mkM _ _ _ p
theorem one_cell (l : List S28) : ∀ u ∈ flat l, u.oneCell' = true := by
  intro u hu
  obtain ⟨x, _, hx⟩ := List.mem_flatMap.1 hu
  simp only [cel, List.mem_cons, List.not_mem_nil, or_false] at hx
  rcases hx with rfl | rfl | rfl <;> rfl
/-- The program's net at block g: the row of its letters is its own. -/
def NB (S : Nat → Prop) (b : Nat) (w : World) (g : Nat) (v : Value) (l : List S28) : Prop :=
  S g ∧ b ≤ g ∧ w.heap[g]? = some (.cells #[v] 72 (0, 0)) ∧ Kd.R k28 28 w b S v l
/-- The document's net at block g. -/
def RB (S : Nat → Prop) (b : Nat) (w : World) (g : Nat) (v : Value) (l : List S28) : Prop :=
  S g ∧ b ≤ g ∧ w.heap[g]? = some (.cells #[v] 43 (0, 0)) ∧ Kd.R k28 45 w b S v l
section
variable {S S' : Nat → Prop} {b g : Nat} {w w1 : World} {v v1 : Value} {l l' : List S28}
theorem NB.mono (h : NB S b w g v l) (hs : ∀ k, S k → S' k) : NB S' b w g v l := ⟨hs _ h.1, h.2.1, h.2.2.1, Kd.R_mono h.2.2.2 hs⟩
theorem NB.step (h : NB S b w g v l) (hb : ∀ k, S k → k < w.heap.size → w1.heap[k]? = w.heap[k]?) : NB S b w1 g v l :=
  ⟨h.1, h.2.1, (hb g h.1 (blk_lt h.2.2.1)).trans h.2.2.1, Kd.R_step h.2.2.2 hb⟩
theorem NB.kept {T : Nat → Prop} (h : NB S b w g v l) (hk : Kept w w1 T) (hd : ∀ k, S k → ¬ T k) : NB S b w1 g v l := h.step fun k hs hlt => hk.2 k hlt (hd k hs)
theorem NB.bound (h : NB S b w g v l) : NB (fun k => S k ∧ k < w.heap.size) b w g v l := ⟨⟨h.1, blk_lt h.2.2.1⟩, h.2.1, h.2.2.1, Kd.R_mono (Kd.R_bound h.2.2.2) (fun k hk => ⟨hk.1, hk.2.2.1⟩)⟩
theorem NB.grow (h : NB S b w g v l) (hg : w.grownBy w1 v.ownBlock) (ho : Kd.R k28 28 w1 b S v1 l') : NB S b (w1.setCell ⟨g, 0, none⟩ v1) g v1 l' := by
  have hne := Kd.R_ne h.2.2.2 h.2.2.1 (by decide)
  have hb : w1.heap[g]? = some (.cells #[v] 72 (0, 0)) := (hg.block g (blk_lt h.2.2.1) hne).trans h.2.2.1
  exact ⟨h.1, h.2.1, by simpa using blk_set hb 0 v1, Kd.R_set ho hb (by decide) _ _⟩
theorem RB.mono (h : RB S b w g v l) (hs : ∀ k, S k → S' k) : RB S' b w g v l := ⟨hs _ h.1, h.2.1, h.2.2.1, Kd.R_mono h.2.2.2 hs⟩
theorem RB.step (h : RB S b w g v l) (hb : ∀ k, S k → k < w.heap.size → w1.heap[k]? = w.heap[k]?) : RB S b w1 g v l :=
  ⟨h.1, h.2.1, (hb g h.1 (blk_lt h.2.2.1)).trans h.2.2.1, Kd.R_step h.2.2.2 hb⟩
theorem RB.kept {T : Nat → Prop} (h : RB S b w g v l) (hk : Kept w w1 T) (hd : ∀ k, S k → ¬ T k) : RB S b w1 g v l := h.step fun k hs hlt => hk.2 k hlt (hd k hs)
theorem RB.bound (h : RB S b w g v l) : RB (fun k => S k ∧ k < w.heap.size) b w g v l := ⟨⟨h.1, blk_lt h.2.2.1⟩, h.2.1, h.2.2.1, Kd.R_mono (Kd.R_bound h.2.2.2) (fun k hk => ⟨hk.1, hk.2.2.1⟩)⟩
theorem RB.grow (h : RB S b w g v l) (hg : w.grownBy w1 v.ownBlock) (ho : Kd.R k28 45 w1 b S v1 l') : RB S b (w1.setCell ⟨g, 0, none⟩ v1) g v1 l' := by
  have hne := Kd.R_ne h.2.2.2 h.2.2.1 (by decide)
  have hb : w1.heap[g]? = some (.cells #[v] 43 (0, 0)) := (hg.block g (blk_lt h.2.2.1) hne).trans h.2.2.1
  exact ⟨h.1, h.2.1, by simpa using blk_set hb 0 v1, Kd.R_set ho hb (by decide) _ _⟩
end
def okX (x : S28) : Prop := 1 ≤ x.f0 ∧ x.f0 ≤ 7 ∧ 1 ≤ x.f1 ∧ x.f1 ≤ 7
instance (x : S28) : Decidable (okX x) := by unfold okX; infer_instance
def sendI (l : List S28) (x : S28) : List S28 × Int := if okX x then (if 8200 < x.f2.size then (l, 2) else if 200 ≤ l.length then (l, 5) else (l ++ [x], 0)) else (l, 1)
def takeI (l : List S28) (i : Int) : List S28 × S28 × Int := if i < 0 ∨ (l.length : Int) ≤ i then (l, z28, 4) else (l.eraseIdx i.toNat, rd_T28 l i, 0)
def doubleI (l : List S28) (i : Int) : List S28 × Int := if i < 0 ∨ (l.length : Int) ≤ i then (l, 4) else sendI l (rd_T28 l i)
theorem info28 : (Try.prog.info? 28).map (fun i => (i.zero, i.size, i.bytes)) = some (some (.agg #[.int .i64 0, .int .i64 0, .string ⟨#[]⟩]), 3, 32) := by kernel_rfl
theorem info45 : (Try.prog.info? 45).map (fun i => (i.zero, i.size, i.bytes)) = some (some (.agg #[.int .i64 0, .int .i64 0, .string ⟨#[]⟩]), 3, 32) := by kernel_rfl
theorem node_calls (a : Int) (w : World) : Calls Try.prog 32 #[.int .i64 a] w fun e w' => e = .returned (.bool (decide (1 ≤ a ∧ a ≤ 7))) ∧ w = w' := by
  by_cases h1 : 1 ≤ a
  · by_cases h2 : a ≤ 7
    · have e : decide (1 ≤ a ∧ a ≤ 7) = true := by simp [h1, h2]
      rw [e]
      go_enter Try.func32, Try.ntmps32
      go_wp2
      all_goals (go_ret; exact ⟨rfl, rfl⟩)
    · have e : decide (1 ≤ a ∧ a ≤ 7) = false := by simp [h2]
      rw [e]
      go_enter Try.func32, Try.ntmps32
      go_wp2
      all_goals (go_ret; exact ⟨rfl, rfl⟩)
  · have e : decide (1 ≤ a ∧ a ≤ 7) = false := by simp [h1]
    rw [e]
    go_enter Try.func32, Try.ntmps32
    go_wp2
    all_goals (go_ret; exact ⟨rfl, rfl⟩)
set_option maxHeartbeats 4000000 in
set_option maxRecDepth 100000 in
theorem send_calls (S : Nat → Prop) (b g : Nat) (v : Value) (l : List S28) (x : S28) (w : World) (h : NB S b w g v l) (hb : b ≤ w.heap.size) (hl : l.length ≤ 200) :
    Calls Try.prog 11 #[.pointer (some ⟨g, 0, none⟩), .agg #[.int .i64 x.f0, .int .i64 x.f1, .string x.f2]] w fun e w' => ∃ v', e = .returned (.int .i64 (sendI l x).2) ∧ NB (fun k => S k ∨ w.heap.size ≤ k) b w' g v' (sendI l x).1 ∧ Kept w w' S ∧ Below b w w' := by
  obtain ⟨c0, c1, s⟩ := x
  obtain ⟨A, c, rfl⟩ := Kd.R_slice h.2.2.2
  have H := Aside0.mk h
  have HBW := Aside0.mk hb
  have HL := Aside0.mk hl
  clear h
  go_enter Try.func11, Try.ntmps11
  go_wp2_with fail
  refine (node_calls c0 _).mono ?_
  rintro _ _ ⟨rfl, rfl⟩
  have hbel := below_alloc (Below.refl w.heap.size w) (.cells #[.int .i64 c0, .int .i64 c1, .string s] 28)
  have hNB : NB (fun k => S k ∨ w.heap.size ≤ k) b (w.alloc (.cells #[.int .i64 c0, .int .i64 c1, .string s] 28)) g (.slice A l.length c) l := (H.out.step fun k _ hlt => Below.heap_alloc _ _ _ hlt).mono (fun k hk => .inl hk)
  have HN := Aside0.mk hNB
  have HBL := Aside0.mk hbel
  clear hNB hbel
  by_cases n0 : 1 ≤ c0 ∧ c0 ≤ 7
  · rw [decide_eq_true n0]
    go_wp2_with fail
    refine (node_calls c1 _).mono ?_
    rintro _ _ ⟨rfl, rfl⟩
    by_cases n1 : 1 ≤ c1 ∧ c1 ≤ 7
    · rw [decide_eq_true n1]
      have hok : okX ⟨c0, c1, s⟩ := ⟨n0.1, n0.2, n1.1, n1.2⟩
      by_cases n2 : 8200 < s.size
      · have k2 : (8200 : Int) < (s.size : Int) := by omega
        have e : sendI l ⟨c0, c1, s⟩ = (l, 2) := by unfold sendI; rw [if_pos hok, if_pos n2]
        have E := Aside0.mk e
        clear n2 n0 n1 hok e
        go_wp2_with fail
        go_ret
        rw [E.out]
        exact ⟨_, rfl, HN.out, Kept.of_below HBL.out S, HBL.out.mono HBW.out⟩
      · have k2 : ¬ ((8200 : Int) < (s.size : Int)) := by omega
        obtain ⟨hc⟩ : Aside0 (w.heap[g]? = some (.cells #[.slice A l.length c] 72 (0, 0))) := ⟨H.out.2.2.1⟩
        have hcell : (w.alloc (.cells #[.int .i64 c0, .int .i64 c1, .string s] 28)).cell? ⟨g, 0, none⟩ = some (.slice A l.length c) := (blk_cell HN.out.2.2.1 0).trans rfl
        clear hc
        by_cases n3 : 200 ≤ l.length
        · have k3 : (200 : Int) ≤ (l.length : Int) := by omega
          have e : sendI l ⟨c0, c1, s⟩ = (l, 5) := by unfold sendI; rw [if_pos hok, if_neg n2, if_pos n3]
          have E := Aside0.mk e
          clear n2 n0 n1 n3 hok e
          go_wp2_with fail
          go_ret
          rw [E.out]
          exact ⟨_, rfl, HN.out, Kept.of_below HBL.out S, HBL.out.mono HBW.out⟩
        · have k3 : ¬ ((200 : Int) ≤ (l.length : Int)) := by omega
          have e : sendI l ⟨c0, c1, s⟩ = (l ++ [⟨c0, c1, s⟩], 0) := by unfold sendI; rw [if_pos hok, if_neg n2, if_neg n3]
          have E := Aside0.mk e
          clear n2 n0 n1 n3 hok e
          go_wp2_with fail
          have hbox := heap_alloc_new w (.cells #[.int .i64 c0, .int .i64 c1, .string s] 28)
          have hsz : (w.alloc (.cells #[.int .i64 c0, .int .i64 c1, .string s] 28)).heap.size = w.heap.size + 1 := by simp
          have hna : NB S b (w.alloc (.cells #[.int .i64 c0, .int .i64 c1, .string s] 28)) g (.slice A l.length c) l := H.out.step fun k _ hlt => Below.heap_alloc _ _ _ hlt
          clear HN
          generalize w.alloc (.cells #[.int .i64 c0, .int .i64 c1, .string s] 28) = wa at *
          obtain ⟨gb, hgb⟩ : ∃ gb, gb = w.heap.size := ⟨_, rfl⟩
          rw [← hgb] at hbox ⊢
          have b0 : wa.cell? ⟨gb, 0, none⟩ = some (.int .i64 c0) := (blk_cell hbox 0).trans rfl
          have b1 : wa.cell? ⟨gb, 1, none⟩ = some (.int .i64 c1) := (blk_cell hbox 1).trans rfl
          have b2 : wa.cell? ⟨gb, 2, none⟩ = some (.string s) := (blk_cell hbox 2).trans rfl
          have hf : wa.frozen? ⟨g, 0, none⟩ = false := blk_frozen hna.2.2.1 0
          have hca : ∀ o, (wa.alloc o).cell? ⟨g, 0, none⟩ = some (.slice A l.length c) := fun o => (blk_cell ((hna.step fun k hk hl => (below_alloc (Below.refl wa.heap.size wa) o).block k hl).2.2.1) 0).trans rfl
          have HD : Aside0 (NB S b wa.drew g (.slice A l.length c) l) := ⟨hna.step fun _ _ _ => rfl⟩
          have HZ : Aside0 (w.heap.size ≤ wa.heap.size ∧ b ≤ wa.drew.heap.size) := ⟨by omega, by have := HBW.out; show b ≤ wa.heap.size; omega⟩
          have HNA := Aside0.mk hna
          have HBOX := Aside0.mk hbox
          clear hbox hsz hna hgb
          go_region_law (refine Kd.R_append_step k28 (w0 := wa.drew) (W := wa.drew) b rfl (.tmp 32) (.tmp 34) 35 28 (.agg #[.int .i64 0, .int .i64 0, .string ⟨#[]⟩]) 32 rfl Try.underlying35 info28 rfl (by decide) (by omega) (.slice A l.length c) l (⟨c0, c1, s⟩ : S28) [.int .i64 c0, .int .i64 c1, .string s] (fun k => S k ∨ w.heap.size ≤ k) (fun _ => False) (by simp [Act.eval, Act.put]) (by simp [Act.eval, Act.put]) (k28_mkM _ _ _ (⟨c0, c1, s⟩ : S28)) (fun _ hk => hk.elim) (fun _ hk => .inr (Nat.le_trans HZ.out.1 hk)) (Kd.R_mono HD.out.2.2.2 (fun _ hk => .inl hk)) (Below.refl _ _) HZ.out.2 (by have := HL.out; omega) ?_; intro v1 w1 ho hb hg hat; obtain ⟨A1, n1, e1⟩ := Kd.R_slice ho; rw [List.length_append, List.length_singleton] at e1; subst e1; have HQ := Aside0.mk (NB.grow (HD.out.mono (S' := fun k => S k ∨ w.heap.size ≤ k) (fun _ hk => .inl hk)) hg ho); have hbk := blk_grown HD.out.2.2.1 hg (Kd.R_ne HD.out.2.2.2 HD.out.2.2.1 (by decide)); have hf1 : w1.frozen? ⟨g, 0, none⟩ = false := blk_frozen hbk 0; have hd1 : w1.cell? ⟨g, 0, none⟩ = some (.slice A l.length c) := (blk_cell hbk 0).trans rfl; have HG := Aside0.mk hg; have HB := Aside0.mk hb; clear ho hb hg hat hbk)
          all_goals
            (go_wp2_with fail
             go_ret
             rw [E.out]
             exact ⟨_, rfl, HQ.out, (Kept.of_grown HG.out (Kept.drew (Kept.of_below HBL.out S)) (fun k hk => .inl (H.out.2.2.2.1 k hk))).setCell (.inl H.out.1) _, Below.setCell ((HBL.out.mono HBW.out).trans (((Below.refl b wa).drew).trans HB.out)) H.out.2.1 _⟩)
    · rw [decide_eq_false n1]
      have e : sendI l ⟨c0, c1, s⟩ = (l, 1) := by unfold sendI; rw [if_neg (fun h => n1 ⟨h.2.2.1, h.2.2.2⟩)]
      have E := Aside0.mk e
      clear n0 n1 e
      go_wp2_with fail
      go_ret
      rw [E.out]
      exact ⟨_, rfl, HN.out, Kept.of_below HBL.out S, HBL.out.mono HBW.out⟩
  · rw [decide_eq_false n0]
    have e : sendI l ⟨c0, c1, s⟩ = (l, 1) := by unfold sendI; rw [if_neg (fun h => n0 ⟨h.1, h.2.1⟩)]
    have E := Aside0.mk e
    clear n0 e
    go_wp2_with fail
    go_ret
    rw [E.out]
    exact ⟨_, rfl, HN.out, Kept.of_below HBL.out S, HBL.out.mono HBW.out⟩
end Go.Proofs.Ytpnbeifbapcmdaa.Nt
