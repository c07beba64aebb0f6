/- The document's session: its state as the proof knows it; its inner functions walked. -/
import Derived.Test.YthjjblnkaikmlaaMxI
import Derived.Deep.RegionLawGrows
import Derived.Deep.RegionLaw
import Derived.Deep.Heap
import Derived.Handy
import Derived.Lib.SliceRun
import Derived.StillTailTactics
namespace Go.Proofs.Ythjjblnkaikmlaa.Mx
open Go.RowKit Go.Proofs.Ythjjblnkaikmlaa.St Go.Proofs.Ythjjblnkaikmlaa.PMuxOnce Go.Proofs.YthjjblnkaikmlaaW.PrintWords Go.Proofs.YthjjblnkaikmlaaW.PrintLast Go.Proofs.YthjjblnkaikmlaaW.PrintMore
set_option linter.unusedVariables false
set_option linter.unusedSimpArgs false
attribute [local go_sem] max2_int min2_int max_two min_two
def celQ (x : S42) : List Value := [.int .i64 x.f0, .int .i64 x.f1, .string x.f2]
def flatQ (l : List S42) : List Value := l.flatMap celQ
theorem flat_consQ (x : S42) (l : List S42) : flatQ (x :: l) = celQ x ++ flatQ l := rfl
theorem flat_appQ (a b : List S42) : flatQ (a ++ b) = flatQ a ++ flatQ b := by simp [flatQ]
theorem flat_lenQ (l : List S42) : (flatQ l).length = l.length * 3 := by
  induction l with
  | nil => rfl
  | cons x r ih => rw [flat_consQ, List.length_append, ih, List.length_cons, show (celQ x).length = 3 from rfl]; omega
theorem flat_takeQ (l : List S42) : ∀ i, (flatQ l).take (i * 3) = flatQ (l.take i) := by
  induction l with
  | nil => intro i; simp [flatQ]
  | cons x r ih =>
    intro i
    cases i with
    | zero => simp [flatQ]
    | succ i =>
      rw [List.take_succ_cons, flat_consQ, flat_consQ, List.take_append, show (celQ x).length = 3 from rfl, show (i + 1) * 3 - 3 = i * 3 by omega, ih, List.take_of_length_le (by rw [show (celQ x).length = 3 from rfl]; omega)]
theorem flat_dropQ (l : List S42) : ∀ i, (flatQ l).drop (i * 3) = flatQ (l.drop i) := by
  induction l with
  | nil => intro i; simp [flatQ]
  | cons x r ih =>
    intro i
    cases i with
    | zero => simp
    | succ i =>
      rw [List.drop_succ_cons, flat_consQ, List.drop_append, show (celQ x).length = 3 from rfl, show (i + 1) * 3 - 3 = i * 3 by omega, ih, List.drop_of_length_le (by rw [show (celQ x).length = 3 from rfl]; omega), List.nil_append]
theorem flat_oneQ (l : List Value) : ∀ (xs : List S42), l.length = xs.length * 3 → (∀ j p, xs[j]? = some p → (l.drop (j * 3)).take 3 = celQ p) → l = flatQ xs := by
  intro xs
  induction xs generalizing l with
  | nil => intro h _; exact List.length_eq_zero_iff.1 (by simpa using h)
  | cons x r ih =>
    intro h hc
    have h0 := hc 0 x rfl
    simp only [Nat.zero_mul, List.drop_zero] at h0
    rw [flat_consQ, ← h0, ← ih (l.drop 3) (by rw [List.length_drop, h, List.length_cons]; omega) (fun j p hp => by
      have := hc (j + 1) p (by simpa using hp)
      rw [List.drop_drop, show 3 + j * 3 = (j + 1) * 3 by omega]
      exact this), List.take_append_drop]
theorem chunkQ (l : List S42) (j : Nat) (p : S42) (h : l[j]? = some p) : ((flatQ l).drop (j * 3)).take 3 = celQ p := by
  obtain ⟨hj, hp⟩ := List.getElem?_eq_some_iff.1 h
  rw [flat_dropQ, List.drop_eq_getElem_cons hj, flat_consQ, hp]
  rfl
theorem row_iffQ {e b : Nat} {S : Nat → Prop} {w : World} {v : Value} {l : List S42} : Kd.R k42 e w b S v l ↔ (∀ k, v.ownBlock = some k → S k) ∧ w.ownsRow b e 3 v l.length (flatQ l) := by
  constructor
  · rintro ⟨h1, inner, ho, hr⟩
    have e : inner = flatQ l := flat_oneQ inner l hr.1 (fun j p hp => by
      have := k42_openM (hr.2 j p hp)
      exact this)
    exact ⟨h1, e ▸ ho⟩
  · rintro ⟨h1, ho⟩
    refine ⟨h1, flatQ l, ho, flat_lenQ l, fun j p hp => ?_⟩
    show k42.M _ _ _ p (((flatQ l).drop (j * 3)).take 3)
    rw [chunkQ l j p hp]
    exact k42_mkM _ _ _ p
theorem one_cellQ (l : List S42) : ∀ u ∈ flatQ l, u.oneCell' = true := by
  intro u hu
  obtain ⟨x, _, hx⟩ := List.mem_flatMap.1 hu
  simp only [celQ, List.mem_cons, List.not_mem_nil, or_false] at hx
  rcases hx with rfl | rfl | rfl <;> rfl
theorem row_readsQ {e b : Nat} {S : Nat → Prop} {w : World} {A : Option Addr} {n c : Nat} {l : List S42} (h : Kd.R k42 e w b S (.slice A n c) l) : n = l.length ∧ (A = none → n = 0 ∧ c = 0) ∧ (∀ b', A = some b' → ∀ j u, (flatQ l)[j]? = some u → w.cell? (b'.add j) = some u) := by
  obtain ⟨_, hl, ho⟩ := row_iffQ.1 h
  rcases ho with ⟨h1, h2⟩ | ⟨g, cap, cur, h1, h2, h3, h4, h5, h6, h7⟩
  · injection h1 with a1 a2 a3
    exact ⟨by omega, fun _ => ⟨a2, a3⟩, fun b' hb => (by rw [a1] at hb; cases hb)⟩
  · injection h1 with a1 a2 a3
    refine ⟨a2, fun hn => (by rw [a1] at hn; cases hn), fun b' hb j u hu => ?_⟩
    rw [a1] at hb
    injection hb with hb
    subst hb
    have hj : (⟨g, 0, none⟩ : Addr).add j = ⟨g, j, none⟩ := by unfold Addr.add; split <;> simp_all
    rw [hj, cell_of_row w g j cur e (0, 0) h3]
    rw [← h7, List.getElem?_take] at hu
    split at hu
    · simpa using hu
    · cases hu
theorem slice_fullQ (A : Option Addr) (n c : Nat) (hn : n ≤ c) (W : World) : (Instr.slice 39 (.slice A n c) none (some (.int .i64 (n : Int))) (some (.int .i64 (n : Int)))).run Try.prog W = .ok (.slice A n n) W := by
  have hu := Try.underlying39
  have hk : (Try.prog.info? 42).map (fun i => i.size) = some 3 := by kernel_rfl
  cases A <;> simp [Instr.slice, Instr.sliceBounds, Instr.sliceBound, hu, run_underlying, hn, Result.andThen, go_sem]
/-- The document's session. -/
structure DSt where
  B : ByteArray
  bad : Bool
  ahead : List S44
  code : Int
  alone : Bool
  text : ByteArray
  told : List S42
/-- A row of frames that is read, and grows by a copy: its slice may end ahead of its block's end. -/
def DA (T : Nat → Prop) (b : Nat) (w : World) (v : Value) (xs : List S44) : Prop :=
  (v = .slice none 0 0 ∧ xs = []) ∨ ∃ q cap cur, v = .slice (some ⟨q, 0, none⟩) xs.length cap ∧ T q ∧ b ≤ q ∧ w.heap[q]? = some (.cells cur 44 (0, 0)) ∧ xs.length ≤ cap ∧ cap ≤ maxLen ∧ cur.toList.take (xs.length * 2) = flat xs ∧ (cap = xs.length ∧ cap * 2 ≤ cur.size ∨ cur.size = cap * 2)
def DR (T : Nat → Prop) (b : Nat) (w : World) (g : Nat) (va vt : Value) (D : DSt) : Prop :=
  T g ∧ b ≤ g ∧ w.heap[g]? = some (.cells (cellsZ ⟨va, D.code, D.alone, D.text, vt⟩ D.B D.bad) 57 (0, 0)) ∧ DA T b w va D.ahead ∧ Kd.R k42 42 w b T vt D.told
def DX (T : Nat → Prop) (b : Nat) (w : World) (g : Nat) (D : DSt) : Prop :=
  (∀ k, T k → k < w.heap.size) ∧ b ≤ w.heap.size ∧ ∃ va vt, DR T b w g va vt D
def DGoes (T : Nat → Prop) (b : Nat) (w : World) (g : Nat) (w' : World) (D : DSt) : Prop :=
  ∃ T' : Nat → Prop, (∀ k, T' k → T k ∨ w.heap.size ≤ k) ∧ DX T' b w' g D ∧ Kept w w' T ∧ Below b w w'
section
variable {T T' : Nat → Prop} {b g : Nat} {w w1 : World} {va vt v1 : Value} {D D' : DSt} {xs : List S44}
theorem DA.mono (h : DA T b w v1 xs) (ht : ∀ k, T k → T' k) : DA T' b w v1 xs := by
  rcases h with h | ⟨q, cap, cur, h1, h2, h3⟩
  · exact .inl h
  · exact .inr ⟨q, cap, cur, h1, ht q h2, h3⟩
theorem DA.step (h : DA T b w v1 xs) (hb : ∀ k, T k → k < w.heap.size → w1.heap[k]? = w.heap[k]?) : DA T b w1 v1 xs := by
  rcases h with h | ⟨q, cap, cur, h1, h2, h3, h4, h5⟩
  · exact .inl h
  · exact .inr ⟨q, cap, cur, h1, h2, h3, (hb q h2 (blk_lt h4)).trans h4, h5⟩
theorem DA.bound (h : DA T b w v1 xs) : DA (fun k => T k ∧ k < w.heap.size ∧ ∃ cells, w.heap[k]? = some (.cells cells 44 (0, 0))) b w v1 xs := by
  rcases h with h | ⟨q, cap, cur, h1, h2, h3, h4, h5⟩
  · exact .inl h
  · exact .inr ⟨q, cap, cur, h1, ⟨h2, blk_lt h4, _, h4⟩, h3, h4, h5⟩
theorem DA.of_R (h : Kd.R k44 44 w b T v1 xs) : DA T b w v1 xs := by
  obtain ⟨h1, hl, ho⟩ := row_iff.1 h
  rcases ho with ⟨h2, h3⟩ | ⟨q, cap, cur, a1, a2, a3, a4, a5, a6, a7⟩
  · exact .inl ⟨h2, List.length_eq_zero_iff.1 h3⟩
  · exact .inr ⟨q, cap, cur, a1, h1 q (by rw [a1]; rfl), a2, a3, a4, a5, a7, .inr a6⟩
theorem DA.apart {gx t : Nat} {cs : Array Value} (h : DA T b w v1 xs) (hb : w.heap[gx]? = some (.cells cs t (0, 0))) (ht : t ≠ 44) : DA (fun k => T k ∧ k ≠ gx) b w v1 xs :=
  h.bound.mono fun k hk => ⟨hk.1, fun e => by
    obtain ⟨_, _, cells, hc⟩ := hk
    rw [e, hb] at hc
    injection hc with hc
    injection hc with _ hc
    exact ht hc⟩
theorem DA.set {gx t : Nat} {cs : Array Value} (h : DA T b w v1 xs) (hb : w.heap[gx]? = some (.cells cs t (0, 0))) (ht : t ≠ 44) (i : Nat) (u : Value) : DA T b (w.setCell ⟨gx, i, none⟩ u) v1 xs :=
  ((h.apart hb ht).step fun k hk _ => Go.Deep.blk_setCell_other w ⟨gx, i, none⟩ u k hk.2).mono fun k hk => hk.1
theorem DA.form (h : DA T b w v1 xs) : ∃ A c, v1 = .slice A xs.length c ∧ xs.length ≤ c := by
  rcases h with ⟨h, rfl⟩ | ⟨q, cap, cur, h1, h2, h3, h4, h5, _⟩
  · exact ⟨none, 0, h, Nat.le_refl _⟩
  · exact ⟨_, cap, h1, h5⟩
theorem DR.blk (h : DR T b w g va vt D) : w.heap[g]? = some (.cells (cellsZ ⟨va, D.code, D.alone, D.text, vt⟩ D.B D.bad) 57 (0, 0)) := h.2.2.1
theorem DR.mono (h : DR T b w g va vt D) (ht : ∀ k, T k → T' k) : DR T' b w g va vt D := ⟨ht _ h.1, h.2.1, h.2.2.1, h.2.2.2.1.mono ht, Kd.R_mono h.2.2.2.2 ht⟩
theorem DR.step (h : DR T b w g va vt D) (hb : ∀ k, T k → k < w.heap.size → w1.heap[k]? = w.heap[k]?) : DR T b w1 g va vt D :=
  ⟨h.1, h.2.1, (hb g h.1 (blk_lt h.blk)).trans h.blk, h.2.2.2.1.step hb, Kd.R_step h.2.2.2.2 hb⟩
theorem DR.cells (h : DR T b w g va vt D) : w.cell? ⟨g, 0, none⟩ = some (.string D.B) ∧ w.cell? ⟨g, 1, none⟩ = some (.bool D.bad) ∧ w.cell? ⟨g, 2, none⟩ = some va ∧ w.cell? ⟨g, 3, none⟩ = some (.int .i64 D.code) ∧ w.cell? ⟨g, 4, none⟩ = some (.bool D.alone) ∧ w.cell? ⟨g, 5, none⟩ = some (.string D.text) ∧ w.cell? ⟨g, 6, none⟩ = some vt :=
  ⟨(blk_cell h.blk 0).trans rfl, (blk_cell h.blk 1).trans rfl, (blk_cell h.blk 2).trans rfl, (blk_cell h.blk 3).trans rfl, (blk_cell h.blk 4).trans rfl, (blk_cell h.blk 5).trans rfl, (blk_cell h.blk 6).trans rfl⟩
theorem DR.frozen (h : DR T b w g va vt D) (i : Nat) : w.frozen? ⟨g, i, none⟩ = false := blk_frozen h.blk i
theorem DR.fld (h : DR T b w g va vt D) (i : Nat) (v : Value) (D' : DSt) (hM : cellsZ ⟨va, D'.code, D'.alone, D'.text, vt⟩ D'.B D'.bad = (cellsZ ⟨va, D.code, D.alone, D.text, vt⟩ D.B D.bad).setIfInBounds i v) (ha : D'.ahead = D.ahead) (ht : D'.told = D.told) : DR T b (w.setCell ⟨g, i, none⟩ v) g va vt D' :=
  ⟨h.1, h.2.1, by rw [hM]; exact blk_set h.blk i v, by rw [ha]; exact h.2.2.2.1.set h.blk (by decide) _ _, by rw [ht]; exact Kd.R_set h.2.2.2.2 h.blk (by decide) _ _⟩
theorem DR.toDX (h : DR T b w g va vt D) (hb : b ≤ w.heap.size) : DX (fun k => T k ∧ k < w.heap.size) b w g D :=
  ⟨fun k hk => hk.2, hb, va, vt, ⟨h.1, blk_lt h.blk⟩, h.2.1, h.blk, h.2.2.2.1.bound.mono fun k hk => ⟨hk.1, hk.2.1⟩, Kd.R_mono (Kd.R_bound h.2.2.2.2) fun k hk => ⟨hk.1, hk.2.2.1⟩⟩
theorem DGoes.of (h : DR (fun k => T k ∨ w.heap.size ≤ k) b w1 g va vt D) (hb : b ≤ w.heap.size) (hk : Kept w w1 T) (hB : Below b w w1) : DGoes T b w g w1 D :=
  ⟨_, fun k hk => hk.1, h.toDX (Nat.le_trans hb hk.1), hk, hB⟩
theorem DGoes.refl (h : DX T b w g D) : DGoes T b w g w D := ⟨T, fun k hk => .inl hk, h, Kept.refl _ _, Below.refl _ _⟩
theorem DGoes.then_ {w2 : World} {T1 : Nat → Prop} (hs : ∀ k, T1 k → T k ∨ w.heap.size ≤ k) (hk : Kept w w1 T) (hB : Below b w w1) (h : DGoes T1 b w1 g w2 D) : DGoes T b w g w2 D := by
  obtain ⟨T2, h2, hm, hk2, hb2⟩ := h
  exact ⟨T2, fun k h => (h2 k h).elim (hs k) (fun h => .inr (Nat.le_trans hk.1 h)), hm, hk.then_ hk2 hs, hB.trans hb2⟩
theorem DX.far (h : DX T b w g D) (hz : w.heap.size ≤ w1.heap.size) (hk : ∀ k, T k → k < w.heap.size → w1.heap[k]? = w.heap[k]?) : DX T b w1 g D := by
  obtain ⟨h1, h2, va, vt, hm⟩ := h
  exact ⟨fun k hk => Nat.lt_of_lt_of_le (h1 k hk) hz, Nat.le_trans h2 hz, va, vt, hm.step hk⟩
theorem DX.step (h : DX T b w g D) (hb : Below w.heap.size w w1) : DX T b w1 g D := h.far hb.size (fun k _ hl => hb.block k hl)
theorem DGoes.from_ {w2 : World} (hb : Below w.heap.size w w1) (h2 : b ≤ w.heap.size) (h : DGoes T b w1 g w2 D) : DGoes T b w g w2 D :=
  DGoes.then_ (fun _ hk => .inl hk) (Kept.of_below hb T) (hb.mono h2) h
theorem DGoes.tail {w2 : World} (h : DGoes T b w g w1 D) (hb : Below w1.heap.size w1 w2) : DGoes T b w g w2 D := by
  obtain ⟨S1, h1, h2, h3, h4⟩ := h
  exact ⟨S1, h1, h2.step hb, h3.below hb, h4.trans (hb.mono h2.2.1)⟩
theorem DR.up (h : DR T b w g va vt D) : DR (fun k => T k ∨ w1.heap.size ≤ k) b w g va vt D := h.mono fun _ hk => .inl hk
/-- Another row of replies stands in the field. -/
theorem DR.tell (h : DR T b w g va vt D) (hg : w.grownBy w1 none) {told' : List S42} (ho : Kd.R k42 42 w1 b T v1 told') : DR T b (w1.setCell ⟨g, 6, none⟩ v1) g va v1 { D with told := told' } := by
  have hb : w1.heap[g]? = some (.cells (cellsZ ⟨va, D.code, D.alone, D.text, vt⟩ D.B D.bad) 57 (0, 0)) := (hg.block g (blk_lt h.blk) (by simp)).trans h.blk
  exact ⟨h.1, h.2.1, by simpa [cellsZ] using blk_set hb 6 v1, (h.2.2.2.1.step (w1 := w1) fun k _ hl => hg.block k hl (by simp)).set hb (by decide) _ _, Kd.R_set ho hb (by decide) _ _⟩
theorem DR.more (h : DR T b w g va vt D) (hg : w.grownBy w1 none) {ahead' : List S44} (ho : DA T b w1 v1 ahead') : DR T b (w1.setCell ⟨g, 2, none⟩ v1) g v1 vt { D with ahead := ahead' } := by
  have hb : w1.heap[g]? = some (.cells (cellsZ ⟨va, D.code, D.alone, D.text, vt⟩ D.B D.bad) 57 (0, 0)) := (hg.block g (blk_lt h.blk) (by simp)).trans h.blk
  exact ⟨h.1, h.2.1, by simpa [cellsZ] using blk_set hb 2 v1, ho.set hb (by decide) _ _, Kd.R_set (Kd.R_step h.2.2.2.2 fun k _ hl => hg.block k hl (by simp)) hb (by decide) _ _⟩
end
def dtell (D : DSt) (r : S42) : DSt := { D with told := D.told ++ [r] }
def dend (D : DSt) : DSt := { D with code := 7, ahead := [], text := ⟨#[]⟩ }
set_option maxHeartbeats 4000000 in
set_option maxRecDepth 100000 in
theorem dtell_calls (T : Nat → Prop) (b g : Nat) (D : DSt) (r : S42) (w : World) (h : DX T b w g D) (hlen : D.told.length ≤ 1000000) :
    Calls Try.prog 38 #[.pointer (some ⟨g, 0, none⟩), .agg #[.int .i64 r.f0, .int .i64 r.f1, .string r.f2]] w fun e w' => e = .returned (.tuple #[]) ∧ DGoes T b w g w' (dtell D r) := by
  obtain ⟨c0, c1, s⟩ := r
  have HW := Aside0.mk h.2.1
  have HTB := Aside0.mk h.1
  obtain ⟨l, hl⟩ : ∃ l, l = D.told := ⟨_, rfl⟩
  have hda := h.step (below_alloc (Below.refl w.heap.size w) (.cells #[.int .i64 c0, .int .i64 c1, .string s] 42))
  have hbel := below_alloc (Below.refl w.heap.size w) (.cells #[.int .i64 c0, .int .i64 c1, .string s] 42)
  have hbox := heap_alloc_new w (.cells #[.int .i64 c0, .int .i64 c1, .string s] 42)
  have hsz : (w.alloc (.cells #[.int .i64 c0, .int .i64 c1, .string s] 42)).heap.size = w.heap.size + 1 := by simp
  obtain ⟨wa, hwa⟩ : ∃ wa, w.alloc (.cells #[.int .i64 c0, .int .i64 c1, .string s] 42) = wa := ⟨_, rfl⟩
  obtain ⟨gb, hgb⟩ : ∃ gb, gb = w.heap.size := ⟨_, rfl⟩
  rw [hwa] at hda hbel hbox hsz
  rw [← hgb] at hbox hsz
  have hgb' := hgb.symm
  obtain ⟨i1, i2, va, vt, hm⟩ := hda
  obtain ⟨A, c, ev⟩ := Kd.R_slice hm.2.2.2.2
  subst ev
  have hlc : D.told.length ≤ c := (Kd.R_reads' hm.2.2.2.2).2.1
  rw [← hl] at hlc
  have hsl := slice_fullQ A l.length c hlc
  have HRR := Aside0.mk (row_readsQ hm.2.2.2.2)
  have hcell : wa.cell? ⟨g, 6, none⟩ = some (.slice A l.length c) := by rw [hl]; exact hm.cells.2.2.2.2.2.2
  have b0 : wa.cell? ⟨gb, 0, none⟩ = some (.int .i64 c0) := (blk_cell hbox 0).trans rfl
  have b1 : wa.cell? ⟨gb, 1, none⟩ = some (.int .i64 c1) := (blk_cell hbox 1).trans rfl
  have b2 : wa.cell? ⟨gb, 2, none⟩ = some (.string s) := (blk_cell hbox 2).trans rfl
  have hrd : ∀ b', A = some b' → ∀ j u, (flatQ l)[j]? = some u → wa.cell? (b'.add j) = some u := by rw [hl]; exact (row_readsQ hm.2.2.2.2).2.2
  have HRD := Aside0.mk hrd
  have HM := Aside0.mk hm
  have HL : Aside0 (l.length ≤ 1000000) := ⟨by rw [hl]; exact hlen⟩
  have HLL := Aside0.mk hl
  have HZ : Aside0 (w.heap.size ≤ wa.heap.size ∧ b ≤ wa.heap.size) := ⟨by omega, by have := HW.out; omega⟩
  have HBL := Aside0.mk hbel
  have HNR : Aside0 (∀ b' : Addr, A = none → l.length = 0) := ⟨fun _ hn => by have := (HRR.out.2.1 hn).1; rw [hl]; exact this⟩
  clear hbox hsz hgb hrd h hm hlc hlen hbel i1 i2 HRR hl
  obtain ⟨i0, hi0, hz0, hz1, hz2⟩ := info_parts info42
  have I0 := Aside0.mk hi0
  have I1 := Aside0.mk hz0
  have I2 := Aside0.mk hz1
  have I3 := Aside0.mk hz2
  clear hi0 hz0 hz1 hz2
  go_enter Try.func38, Try.ntmps38
  go_wp2_with fail
  have hHeld : (fun w' => w'.cell? ⟨g, 6, none⟩ = some (.slice A l.length c) ∧ w'.cell? ⟨gb, 0, none⟩ = some (.int .i64 c0) ∧ w'.cell? ⟨gb, 1, none⟩ = some (.int .i64 c1) ∧ w'.cell? ⟨gb, 2, none⟩ = some (.string s)) wa.drew := ⟨hcell, b0, b1, b2⟩
  have hf0 : wa.frozen? ⟨g, 6, none⟩ = false := HM.out.frozen 6
  refine wp_region_noPanic ?_
  refine wp_region_any (by kernel_rfl) ?_
  change wpAny _ _ _ _ _ _ _ (World.drew _)
  refine wpAny_of_T (S := (fun w' => w'.cell? ⟨g, 6, none⟩ = some (.slice A l.length c) ∧ w'.cell? ⟨gb, 0, none⟩ = some (.int .i64 c0) ∧ w'.cell? ⟨gb, 1, none⟩ = some (.int .i64 c1) ∧ w'.cell? ⟨gb, 2, none⟩ = some (.string s))) (t := 21) _ _ _ _ ?_
  refine wpAnyT_take (i := 0) (oi := { dst := some 4, op := Op.move (Operand.tmp 0), type := 55, pos := "ref.go:56", after := #[], guard := none }) (v := ?vr0x1) rfl (by kernel_rfl) (by kernel_rfl) (by kernel_rfl) (by kernel_rfl) (fun _ _ _ h => h) (Or.inl ⟨by rfl, ?hyr0x1⟩) hHeld ?restr0x1
  case hyr0x1 =>
    intro w hSw
    try dsimp only at hSw
    go_simp
    all_goals with_reducible rfl
  (try simp only [Act.put, List.setIfInBounds_toArray, List.set_cons_zero, List.set_cons_succ])
  refine wpAnyT_take (i := 1) (oi := { dst := some 5, op := Op.move (Operand.tmp 0), type := 55, pos := "ref.go:56", after := #[], guard := none }) (v := ?vr1x2) rfl (by kernel_rfl) (by kernel_rfl) (by kernel_rfl) (by kernel_rfl) (fun _ _ _ h => h) (Or.inl ⟨by rfl, ?hyr1x2⟩) hHeld ?restr1x2
  case hyr1x2 =>
    intro w hSw
    try dsimp only at hSw
    go_simp
    all_goals with_reducible rfl
  (try simp only [Act.put, List.setIfInBounds_toArray, List.set_cons_zero, List.set_cons_succ])
  refine wpAnyT_take (i := 2) (oi := { dst := some 6, op := Op.nilCheck (Operand.tmp 5), type := 0, pos := "ref.go:56", after := #[{ on := 1, ground := Ground.data }], guard := none }) (v := ?vr2x3) rfl (by kernel_rfl) (by kernel_rfl) (by kernel_rfl) (by kernel_rfl) (fun _ _ _ h => h) (Or.inl ⟨by rfl, ?hyr2x3⟩) hHeld ?restr2x3
  case hyr2x3 =>
    intro w hSw
    try dsimp only at hSw
    go_simp
    all_goals with_reducible rfl
  (try simp only [Act.put, List.setIfInBounds_toArray, List.set_cons_zero, List.set_cons_succ])
  refine wpAnyT_take (i := 3) (oi := { dst := some 7, op := Op.fieldAddr 57 (Operand.tmp 6) 5, type := 0, pos := "ref.go:56", after := #[{ on := 2, ground := Ground.data }], guard := none }) (v := ?vr3x4) rfl (by kernel_rfl) (by kernel_rfl) (by kernel_rfl) (by kernel_rfl) (fun _ _ _ h => h) (Or.inl ⟨by rfl, ?hyr3x4⟩) hHeld ?restr3x4
  case hyr3x4 =>
    intro w hSw
    try dsimp only at hSw
    go_simp
    all_goals with_reducible rfl
  (try simp only [Act.put, List.setIfInBounds_toArray, List.set_cons_zero, List.set_cons_succ])
  refine wpAnyT_take (i := 4) (oi := { dst := some 8, op := Op.load 39 (Operand.tmp 7), type := 39, pos := "ref.go:56", after := #[{ on := 3, ground := Ground.data }], guard := none }) (v := ?vr4x5) rfl (by kernel_rfl) (by kernel_rfl) (by kernel_rfl) (by kernel_rfl) (fun _ _ _ h => h) (Or.inl ⟨by rfl, ?hyr4x5⟩) hHeld ?restr4x5
  case hyr4x5 =>
    intro w hSw
    try dsimp only at hSw
    go_simp
    all_goals with_reducible rfl
  (try simp only [Act.put, List.setIfInBounds_toArray, List.set_cons_zero, List.set_cons_succ])
  refine wpAnyT_take (i := 5) (oi := { dst := some 9, op := Op.move (Operand.tmp 0), type := 55, pos := "ref.go:56", after := #[], guard := none }) (v := ?vr5x6) rfl (by kernel_rfl) (by kernel_rfl) (by kernel_rfl) (by kernel_rfl) (fun _ _ _ h => h) (Or.inl ⟨by rfl, ?hyr5x6⟩) hHeld ?restr5x6
  case hyr5x6 =>
    intro w hSw
    try dsimp only at hSw
    go_simp
    all_goals with_reducible rfl
  (try simp only [Act.put, List.setIfInBounds_toArray, List.set_cons_zero, List.set_cons_succ])
  refine wpAnyT_take (i := 6) (oi := { dst := some 10, op := Op.nilCheck (Operand.tmp 9), type := 0, pos := "ref.go:56", after := #[{ on := 5, ground := Ground.data }], guard := none }) (v := ?vr6x7) rfl (by kernel_rfl) (by kernel_rfl) (by kernel_rfl) (by kernel_rfl) (fun _ _ _ h => h) (Or.inl ⟨by rfl, ?hyr6x7⟩) hHeld ?restr6x7
  case hyr6x7 =>
    intro w hSw
    try dsimp only at hSw
    go_simp
    all_goals with_reducible rfl
  (try simp only [Act.put, List.setIfInBounds_toArray, List.set_cons_zero, List.set_cons_succ])
  refine wpAnyT_take (i := 7) (oi := { dst := some 11, op := Op.fieldAddr 57 (Operand.tmp 10) 5, type := 0, pos := "ref.go:56", after := #[{ on := 6, ground := Ground.data }], guard := none }) (v := ?vr7x8) rfl (by kernel_rfl) (by kernel_rfl) (by kernel_rfl) (by kernel_rfl) (fun _ _ _ h => h) (Or.inl ⟨by rfl, ?hyr7x8⟩) hHeld ?restr7x8
  case hyr7x8 =>
    intro w hSw
    try dsimp only at hSw
    go_simp
    all_goals with_reducible rfl
  (try simp only [Act.put, List.setIfInBounds_toArray, List.set_cons_zero, List.set_cons_succ])
  refine wpAnyT_take (i := 8) (oi := { dst := some 12, op := Op.load 39 (Operand.tmp 11), type := 39, pos := "ref.go:56", after := #[{ on := 7, ground := Ground.data }], guard := none }) (v := ?vr8x9) rfl (by kernel_rfl) (by kernel_rfl) (by kernel_rfl) (by kernel_rfl) (fun _ _ _ h => h) (Or.inl ⟨by rfl, ?hyr8x9⟩) hHeld ?restr8x9
  case hyr8x9 =>
    intro w hSw
    try dsimp only at hSw
    go_simp
    all_goals with_reducible rfl
  (try simp only [Act.put, List.setIfInBounds_toArray, List.set_cons_zero, List.set_cons_succ])
  refine wpAnyT_take (i := 9) (oi := { dst := some 13, op := Op.call { callee := Callee.builtin Builtin.len, args := #[Operand.tmp 12], argTypes := #[39] }, type := 3, pos := "ref.go:56", after := #[{ on := 8, ground := Ground.data }], guard := none }) (v := ?vr9x10) rfl (by kernel_rfl) (by kernel_rfl) (by kernel_rfl) (by kernel_rfl) (fun _ _ _ h => h) (Or.inl ⟨by rfl, ?hyr9x10⟩) hHeld ?restr9x10
  case hyr9x10 =>
    intro w hSw
    try dsimp only at hSw
    go_simp
    all_goals with_reducible rfl
  (try simp only [Act.put, List.setIfInBounds_toArray, List.set_cons_zero, List.set_cons_succ])
  refine wpAnyT_take (i := 10) (oi := { dst := some 14, op := Op.move (Operand.tmp 0), type := 55, pos := "ref.go:56", after := #[], guard := none }) (v := ?vr10x11) rfl (by kernel_rfl) (by kernel_rfl) (by kernel_rfl) (by kernel_rfl) (fun _ _ _ h => h) (Or.inl ⟨by rfl, ?hyr10x11⟩) hHeld ?restr10x11
  case hyr10x11 =>
    intro w hSw
    try dsimp only at hSw
    go_simp
    all_goals with_reducible rfl
  (try simp only [Act.put, List.setIfInBounds_toArray, List.set_cons_zero, List.set_cons_succ])
  refine wpAnyT_take (i := 11) (oi := { dst := some 15, op := Op.nilCheck (Operand.tmp 14), type := 0, pos := "ref.go:56", after := #[{ on := 10, ground := Ground.data }], guard := none }) (v := ?vr11x12) rfl (by kernel_rfl) (by kernel_rfl) (by kernel_rfl) (by kernel_rfl) (fun _ _ _ h => h) (Or.inl ⟨by rfl, ?hyr11x12⟩) hHeld ?restr11x12
  case hyr11x12 =>
    intro w hSw
    try dsimp only at hSw
    go_simp
    all_goals with_reducible rfl
  (try simp only [Act.put, List.setIfInBounds_toArray, List.set_cons_zero, List.set_cons_succ])
  refine wpAnyT_take (i := 12) (oi := { dst := some 16, op := Op.fieldAddr 57 (Operand.tmp 15) 5, type := 0, pos := "ref.go:56", after := #[{ on := 11, ground := Ground.data }], guard := none }) (v := ?vr12x13) rfl (by kernel_rfl) (by kernel_rfl) (by kernel_rfl) (by kernel_rfl) (fun _ _ _ h => h) (Or.inl ⟨by rfl, ?hyr12x13⟩) hHeld ?restr12x13
  case hyr12x13 =>
    intro w hSw
    try dsimp only at hSw
    go_simp
    all_goals with_reducible rfl
  (try simp only [Act.put, List.setIfInBounds_toArray, List.set_cons_zero, List.set_cons_succ])
  refine wpAnyT_take (i := 13) (oi := { dst := some 17, op := Op.load 39 (Operand.tmp 16), type := 39, pos := "ref.go:56", after := #[{ on := 12, ground := Ground.data }], guard := none }) (v := ?vr13x14) rfl (by kernel_rfl) (by kernel_rfl) (by kernel_rfl) (by kernel_rfl) (fun _ _ _ h => h) (Or.inl ⟨by rfl, ?hyr13x14⟩) hHeld ?restr13x14
  case hyr13x14 =>
    intro w hSw
    try dsimp only at hSw
    go_simp
    all_goals with_reducible rfl
  (try simp only [Act.put, List.setIfInBounds_toArray, List.set_cons_zero, List.set_cons_succ])
  refine wpAnyT_take (i := 14) (oi := { dst := some 18, op := Op.call { callee := Callee.builtin Builtin.len, args := #[Operand.tmp 17], argTypes := #[39] }, type := 3, pos := "ref.go:56", after := #[{ on := 13, ground := Ground.data }], guard := none }) (v := ?vr14x15) rfl (by kernel_rfl) (by kernel_rfl) (by kernel_rfl) (by kernel_rfl) (fun _ _ _ h => h) (Or.inl ⟨by rfl, ?hyr14x15⟩) hHeld ?restr14x15
  case hyr14x15 =>
    intro w hSw
    try dsimp only at hSw
    go_simp
    all_goals with_reducible rfl
  (try simp only [Act.put, List.setIfInBounds_toArray, List.set_cons_zero, List.set_cons_succ])
  refine wpAnyT_take (i := 15) (oi := { dst := some 19, op := Op.slice 39 (Operand.tmp 8) none (some (Operand.tmp 13)) (some (Operand.tmp 18)), type := 39, pos := "ref.go:56", after := #[{ on := 4, ground := Ground.data }, { on := 9, ground := Ground.data }, { on := 14, ground := Ground.data }], guard := none }) (v := ?vr15x16) rfl (by kernel_rfl) (by kernel_rfl) (by kernel_rfl) (by kernel_rfl) (fun _ _ _ h => h) (Or.inl ⟨by rfl, ?hyr15x16⟩) hHeld ?restr15x16
  case hyr15x16 =>
    intro w hSw
    try dsimp only at hSw
    go_simp
    all_goals with_reducible rfl
  (try simp only [Act.put, List.setIfInBounds_toArray, List.set_cons_zero, List.set_cons_succ])
  refine wpAnyT_take (i := 16) (oi := { dst := some 20, op := Op.load 42 (Operand.tmp 3), type := 42, pos := "ref.go:56", after := #[], guard := none }) (v := ?vr16x17) rfl (by kernel_rfl) (by kernel_rfl) (by kernel_rfl) (by kernel_rfl) (fun _ _ _ h => h) (Or.inl ⟨by rfl, ?hyr16x17⟩) hHeld ?restr16x17
  case hyr16x17 =>
    intro w hSw
    try dsimp only at hSw
    go_simp
    all_goals with_reducible rfl
  (try simp only [Act.put, List.setIfInBounds_toArray, List.set_cons_zero, List.set_cons_succ])
  refine wpAnyT_one (i := 17) (o := { dst := some 21, op := Op.buildSlice 39 1 #[(0, Operand.tmp 20)], type := 39, pos := "ref.go:56", after := #[{ on := 16, ground := Ground.data }], guard := none }) rfl (by kernel_rfl) (fun KK hKK => ?_)
  go_simp
  have hH17 : (fun w' => w'.cell? ⟨g, 6, none⟩ = some (.slice A l.length c) ∧ w'.cell? ⟨gb, 0, none⟩ = some (.int .i64 c0) ∧ w'.cell? ⟨gb, 1, none⟩ = some (.int .i64 c1) ∧ w'.cell? ⟨gb, 2, none⟩ = some (.string s)) (wa.drew.alloc (.cells #[.int .i64 c0, .int .i64 c1, .string s] 42)) := ⟨Lib.cell?_alloc_some _ (W := wa.drew) hHeld.1, Lib.cell?_alloc_some _ (W := wa.drew) hHeld.2.1, Lib.cell?_alloc_some _ (W := wa.drew) hHeld.2.2.1, Lib.cell?_alloc_some _ (W := wa.drew) hHeld.2.2.2⟩
  refine hKK _ _ (fun _ => hH17) ?_
  clear hKK KK
  (try simp only [Act.put, List.setIfInBounds_toArray, List.set_cons_zero, List.set_cons_succ])
  refine wpAnyT_one (i := 18) (o := { dst := some 22, op := Op.call { callee := Callee.builtin Builtin.append, args := #[Operand.tmp 19, Operand.tmp 21], argTypes := #[39, 39] }, type := 39, pos := "ref.go:56", after := #[{ on := 15, ground := Ground.data }, { on := 17, ground := Ground.data }], guard := none }) rfl (by kernel_rfl) (fun KK hKK => ?_)
  (refine step_append_grows (by rfl) (.tmp 19) (.tmp 21) 39 (by rfl) 42 i0 _ 3 32 Try.underlying39 I0.out I1.out I2.out I3.out rfl (by omega) A l.length l.length (flatQ l) (by rfl) (fun hn => ⟨HNR.out ⟨0, 0, none⟩ hn, HNR.out ⟨0, 0, none⟩ hn⟩) (flat_lenQ l) (fun b' hb j u hu => Lib.cell?_alloc_some _ (HRD.out b' hb j u hu)) ⟨wa.heap.size, 0, none⟩ 1 1 [.int .i64 c0, .int .i64 c1, .string s] (by rfl) rfl (World.news_of_block (cs := #[.int .i64 c0, .int .i64 c1, .string s]) (t := 42) (fr := (0, 0)) (heap_alloc_new wa.drew _)) (one_cellQ [⟨c0, c1, s⟩]) (by omega) (by simp only [maxLen]; have := HL.out; omega) (by have := HL.out; omega) ?_; intro v1 w1 hown hg; obtain ⟨A1, n1, e1⟩ : ∃ A1 n1, v1 = .slice A1 (l.length + 1) n1 := (by obtain ⟨_, ho⟩ := hown; rcases ho with ⟨h1, h2⟩ | ⟨g', cap, cur, h1, _⟩; exact absurd h2 (by omega); exact ⟨_, _, h1⟩); subst e1; have hbk : w1.heap[g]? = some (.cells (cellsZ ⟨va, D.code, D.alone, D.text, (.slice A D.told.length c)⟩ D.B D.bad) 57 (0, 0)) := (hg.block g (Nat.lt_of_lt_of_le (blk_lt HM.out.blk) (by simp)) (by simp)).trans ((Below.heap_alloc _ _ _ (blk_lt HM.out.blk)).trans HM.out.blk); have q0 : w1.cell? ⟨g, 6, none⟩ = some (.slice A l.length c) := (blk_cell hbk 6).trans (by rw [HLL.out]; rfl); have qf : w1.frozen? ⟨g, 6, none⟩ = false := blk_frozen hbk 6; have HOWN := Aside0.mk hown; have HG := Aside0.mk hg; have HBK := Aside0.mk hbk; clear hown hg hbk)
  have hkk : Kept wa w1 (fun _ => False) := (Kept.refl wa _).below ((Below.refl wa.heap.size wa).drew) |>.alloc _ |> fun h => Kept.of_grown HG.out h (fun k hk => by cases hk)
  have hH18 : (fun w' => w'.cell? ⟨g, 6, none⟩ = some (.slice A l.length c) ∧ w'.cell? ⟨gb, 0, none⟩ = some (.int .i64 c0) ∧ w'.cell? ⟨gb, 1, none⟩ = some (.int .i64 c1) ∧ w'.cell? ⟨gb, 2, none⟩ = some (.string s)) w1 := ⟨q0, cell_kept b0 hkk (fun h => h), cell_kept b1 hkk (fun h => h), cell_kept b2 hkk (fun h => h)⟩
  have HKK := Aside0.mk hkk
  clear hkk
  (try go_simp)
  refine hKK _ _ (fun _ => hH18) ?_
  clear hKK KK
  (try simp only [Act.put, List.setIfInBounds_toArray, List.set_cons_zero, List.set_cons_succ])
  refine wpAnyT_one (i := 19) (o := { dst := some 23, op := Op.nilCheck (Operand.tmp 4), type := 0, pos := "ref.go:56", after := #[{ on := 0, ground := Ground.data }, { on := 0, ground := Ground.phase }, { on := 1, ground := Ground.phase }, { on := 2, ground := Ground.phase }, { on := 3, ground := Ground.phase }, { on := 4, ground := Ground.phase }, { on := 5, ground := Ground.phase }, { on := 6, ground := Ground.phase }, { on := 7, ground := Ground.phase }, { on := 8, ground := Ground.phase }, { on := 9, ground := Ground.phase }, { on := 10, ground := Ground.phase }, { on := 11, ground := Ground.phase }, { on := 12, ground := Ground.phase }, { on := 13, ground := Ground.phase }, { on := 14, ground := Ground.phase }, { on := 15, ground := Ground.phase }, { on := 16, ground := Ground.phase }, { on := 17, ground := Ground.phase }, { on := 18, ground := Ground.phase }], guard := none }) rfl (by kernel_rfl) (fun KK hKK => ?_)
  go_simp
  refine hKK _ _ (fun _ => hH18) ?_
  clear hKK KK
  (try simp only [Act.put, List.setIfInBounds_toArray, List.set_cons_zero, List.set_cons_succ])
  refine wpAnyT_take (i := 20) (oi := { dst := some 24, op := Op.fieldAddr 57 (Operand.tmp 23) 5, type := 0, pos := "ref.go:56", after := #[{ on := 19, ground := Ground.data }, { on := 0, ground := Ground.phase }, { on := 1, ground := Ground.phase }, { on := 2, ground := Ground.phase }, { on := 3, ground := Ground.phase }, { on := 4, ground := Ground.phase }, { on := 5, ground := Ground.phase }, { on := 6, ground := Ground.phase }, { on := 7, ground := Ground.phase }, { on := 8, ground := Ground.phase }, { on := 9, ground := Ground.phase }, { on := 10, ground := Ground.phase }, { on := 11, ground := Ground.phase }, { on := 12, ground := Ground.phase }, { on := 13, ground := Ground.phase }, { on := 14, ground := Ground.phase }, { on := 15, ground := Ground.phase }, { on := 16, ground := Ground.phase }, { on := 17, ground := Ground.phase }, { on := 18, ground := Ground.phase }], guard := none }) (v := ?vr20x18) rfl (by kernel_rfl) (by kernel_rfl) (by kernel_rfl) (by kernel_rfl) (fun _ _ _ h => h) (Or.inl ⟨by rfl, ?hyr20x18⟩) hH18 ?restr20x18
  case hyr20x18 =>
    intro w hSw
    try dsimp only at hSw
    go_simp
    all_goals with_reducible rfl
  (try simp only [Act.put, List.setIfInBounds_toArray, List.set_cons_zero, List.set_cons_succ])
  refine wpAnyT_one (i := 21) (o := { dst := none, op := Op.store 39 (Operand.tmp 24) (Operand.tmp 22), type := 0, pos := "ref.go:56", after := #[{ on := 20, ground := Ground.data }, { on := 18, ground := Ground.data }, { on := 18, ground := Ground.chain }, { on := 0, ground := Ground.phase }, { on := 1, ground := Ground.phase }, { on := 2, ground := Ground.phase }, { on := 3, ground := Ground.phase }, { on := 4, ground := Ground.phase }, { on := 5, ground := Ground.phase }, { on := 6, ground := Ground.phase }, { on := 7, ground := Ground.phase }, { on := 8, ground := Ground.phase }, { on := 9, ground := Ground.phase }, { on := 10, ground := Ground.phase }, { on := 11, ground := Ground.phase }, { on := 12, ground := Ground.phase }, { on := 13, ground := Ground.phase }, { on := 14, ground := Ground.phase }, { on := 15, ground := Ground.phase }, { on := 16, ground := Ground.phase }, { on := 17, ground := Ground.phase }, { on := 18, ground := Ground.phase }], guard := none }) rfl (by kernel_rfl) (fun KK hKK => ?_)
  go_simp
  refine hKK _ _ (fun h => absurd rfl h) ?_
  clear hKK KK
  (try simp only [Act.put, List.setIfInBounds_toArray, List.set_cons_zero, List.set_cons_succ])
  refine wpAnyT_done (by kernel_rfl) ?_ _
  refine NoPanic.normal ?_
  all_goals
    (go_wp2_with fail
     go_end0
     have hl2 : (l ++ [(⟨c0, c1, s⟩ : S42)]).length = l.length + 1 := by simp
     have hrow : Kd.R k42 42 w1 b (fun k => T k ∨ w.heap.size ≤ k) (.slice A1 (l.length + 1) n1) (l ++ [⟨c0, c1, s⟩]) := by
       have hown : w1.ownsRow wa.heap.size.succ 42 3 (.slice A1 (l.length + 1) n1) (l.length + 1) (flatQ l ++ [.int .i64 c0, .int .i64 c1, .string s]) := by simpa using HOWN.out
       refine row_iffQ.2 ⟨fun k hk => ?_, ?_⟩
       · obtain ⟨g', cap, cur, he, hge, _⟩ := hown.2.resolve_left (fun h => by have := h.2; omega)
         have hk : g' = k := by simpa [he, Value.ownBlock] using hk
         have := HZ.out.1
         exact .inr (by omega)
       · rw [hl2, flat_appQ]
         exact own_less hown (by have := HZ.out.2; omega)
     have hba : Below wa.heap.size wa w1 := Below.grown (below_alloc ((Below.refl wa.heap.size wa).drew) _) HG.out (by simp) (fun k h => by cases h)
     have hfin : DR (fun k => T k ∨ w.heap.size ≤ k) b (w1.setCell ⟨g, 6, none⟩ (.slice A1 (l.length + 1) n1)) g va (.slice A1 (l.length + 1) n1) (dtell D ⟨c0, c1, s⟩) := by
       have := (HM.out.up (w1 := w)).tell (grown_of_below hba none) hrow
       rw [HLL.out] at this ⊢
       exact this
     exact ⟨rfl, DGoes.of hfin HW.out (((Kept.of_below HBL.out T).then_ HKK.out (fun _ h => h.elim)).setCell (.inl HM.out.1) _) (Below.setCell ((HBL.out.mono HW.out).trans (hba.mono HZ.out.2)) HM.out.2.1 _)⟩)
theorem DR.drop {T : Nat → Prop} {b g : Nat} {w : World} {va vt : Value} {D : DSt} (h : DR T b w g va vt D) : DR T b (w.setCell ⟨g, 2, none⟩ (.slice none 0 0)) g (.slice none 0 0) vt { D with ahead := [] } :=
  ⟨h.1, h.2.1, by simpa [cellsZ] using blk_set h.blk 2 (.slice none 0 0), .inl ⟨rfl, rfl⟩, Kd.R_set h.2.2.2.2 h.blk (by decide) _ _⟩
def dfree (D : DSt) (f : S44) : Int × DSt :=
  if f.f0 = 66 ∨ f.f0 = 81 then (1, { D with code := 1, alone := f.f0 == 81, text := f.f1 }) else if f.f0 = 69 then (0, dtell D ⟨7, 0, ⟨#[]⟩⟩) else (0, dend (dtell D ⟨8, 0, ⟨#[]⟩⟩))
def dbound (D : DSt) (f : S44) : Int × DSt :=
  if f.f0 = 66 then (0, dtell D ⟨7, 0, ⟨#[]⟩⟩) else if f.f0 = 81 then (2, { D with code := 4, alone := false, text := f.f1 }) else if f.f0 = 69 then (3, { dtell D ⟨3, 0, ⟨#[]⟩⟩ with code := 0 }) else (3, dend (dtell D ⟨8, 0, ⟨#[]⟩⟩))
def ddead (D : DSt) (f : S44) : Int × DSt :=
  if f.f0 = 0 then (0, dend (dtell D ⟨8, 0, ⟨#[]⟩⟩)) else (0, { dtell D ⟨6, 0, ⟨#[]⟩⟩ with code := 0 })
set_option maxRecDepth 100000 in
theorem dend_calls (T : Nat → Prop) (b g : Nat) (D : DSt) (w : World) (h : DX T b w g D) :
    Calls Try.prog 39 #[.pointer (some ⟨g, 0, none⟩)] w fun e w' => e = .returned (.tuple #[]) ∧ DGoes T b w g w' (dend D) := by
  obtain ⟨h1, h2, va, vt, hm⟩ := h
  obtain ⟨c0, c1, c2, c3, c4, c5, c6⟩ := hm.cells
  have f2 := hm.frozen 2
  have f3 := hm.frozen 3
  have f5 := hm.frozen 5
  have H := Aside0.mk hm
  have HW := Aside0.mk h2
  clear hm h1 h2
  go_enter Try.func39, Try.ntmps39
  go_wp2_with fail
  all_goals go_end0
  all_goals exact ⟨rfl, DGoes.of (((H.out.fld 3 (.int .i64 7) { D with code := 7 } rfl rfl rfl).drop).fld 5 (.string ⟨#[]⟩) (dend D) rfl rfl rfl).up HW.out ((((Kept.refl w T).setCell (.inl H.out.1) _).setCell (.inl H.out.1) _).setCell (.inl H.out.1) _) (Below.setCell (Below.setCell (Below.setCell (Below.refl b w) H.out.2.1 _) H.out.2.1 _) H.out.2.1 _)⟩
set_option maxHeartbeats 4000000 in
set_option maxRecDepth 100000 in
theorem dfree_calls (T : Nat → Prop) (b g : Nat) (D : DSt) (f : S44) (w : World) (h : DX T b w g D) (hl : D.told.length ≤ 1000000) :
    Calls Try.prog 35 #[.pointer (some ⟨g, 0, none⟩), .agg #[.int .u8 f.f0, .string f.f1]] w fun e w' => e = .returned (.int .i64 (dfree D f).1) ∧ DGoes T b w g w' (dfree D f).2 := by
  obtain ⟨k, y⟩ := f
  have HB0 := Aside0.mk h.2.1
  have hx1 := h.step (below_alloc (Below.refl w.heap.size w) (.cells #[.int .u8 k, .string y] 44))
  have hbl := below_alloc (Below.refl w.heap.size w) (.cells #[.int .u8 k, .string y] 44)
  have h1f : (w.alloc (.cells #[.int .u8 k, .string y] 44)).heap[w.heap.size]? = some (.cells #[.int .u8 k, .string y] 44 (0, 0)) := heap_alloc_new w _
  obtain ⟨w1, hw1⟩ : ∃ w1, w.alloc (.cells #[.int .u8 k, .string y] 44) = w1 := ⟨_, rfl⟩
  obtain ⟨z, hz⟩ : ∃ z, z = w.heap.size := ⟨_, rfl⟩
  rw [hw1] at hx1 hbl h1f
  rw [← hz] at h1f
  have hzT : ¬ T z := fun hs => Nat.lt_irrefl _ (hz ▸ h.1 z hs)
  have hz' := hz.symm
  have z0 : w1.cell? ⟨z, 0, none⟩ = some (.int .u8 k) := (blk_cell h1f 0).trans rfl
  have z1 : w1.cell? ⟨z, 1, none⟩ = some (.string y) := (blk_cell h1f 1).trans rfl
  have HBL := Aside0.mk hbl
  have HX1 := Aside0.mk hx1
  have HL := Aside0.mk hl
  obtain ⟨i1, i2, va, vt, hm⟩ := hx1
  obtain ⟨c0, c1, c2, c3, c4, c5, c6⟩ := hm.cells
  have f3 := hm.frozen 3
  have f4 := hm.frozen 4
  have f5 := hm.frozen 5
  have H := Aside0.mk hm
  have HI := Aside0.mk i2
  have hzg : z ≠ g := fun e => hzT (e ▸ hm.1)
  have hgz : g ≠ z := fun e => hzg e.symm
  have H1F := Aside0.mk h1f
  clear h hm i1 i2 hl hbl h1f hz hzT
  by_cases h66 : k = 66
  · have e : dfree D ⟨k, y⟩ = (1, { D with code := 1, alone := false, text := y }) := by unfold dfree; rw [if_pos (.inl h66), h66]; rfl
    rw [e]
    have B66 : (k == 66) = true := by rw [h66]; rfl
    clear e
    subst h66
    have q1 : (w1.setCell ⟨g, 3, none⟩ (.int .i64 1)).heap[z]? = some (.cells #[.int .u8 66, .string y] 44 (0, 0)) := (Go.Deep.blk_setCell_other w1 ⟨g, 3, none⟩ _ z hzg).trans H1F.out
    have q2 : ((w1.setCell ⟨g, 3, none⟩ (.int .i64 1)).setCell ⟨g, 4, none⟩ (.bool false)).heap[z]? = some (.cells #[.int .u8 66, .string y] 44 (0, 0)) := (Go.Deep.blk_setCell_other _ ⟨g, 4, none⟩ _ z hzg).trans q1
    have p0 : (w1.setCell ⟨g, 3, none⟩ (.int .i64 1)).cell? ⟨z, 0, none⟩ = some (.int .u8 66) := (blk_cell q1 0).trans rfl
    have p1 : ((w1.setCell ⟨g, 3, none⟩ (.int .i64 1)).setCell ⟨g, 4, none⟩ (.bool false)).cell? ⟨z, 1, none⟩ = some (.string y) := (blk_cell q2 1).trans rfl
    clear q1 q2
    go_enter Try.func35, Try.ntmps35
    go_wp2_with fail
    all_goals go_ret
    all_goals exact ⟨rfl, DGoes.from_ HBL.out HB0.out (DGoes.of (((H.out.fld 3 (.int .i64 1) { D with code := 1 } rfl rfl rfl).fld 4 (.bool false) { D with code := 1, alone := false } rfl rfl rfl).fld 5 (.string y) { D with code := 1, alone := false, text := y } rfl rfl rfl).up HI.out ((((Kept.refl _ T).setCell (.inl H.out.1) _).setCell (.inl H.out.1) _).setCell (.inl H.out.1) _) (Below.setCell (Below.setCell (Below.setCell (Below.refl b _) H.out.2.1 _) H.out.2.1 _) H.out.2.1 _))⟩
  have N66 : (k == 66) = false := beq_eq_false_iff_ne.2 h66
  by_cases h81 : k = 81
  · have e : dfree D ⟨k, y⟩ = (1, { D with code := 1, alone := true, text := y }) := by unfold dfree; rw [if_pos (.inr h81), h81]; rfl
    rw [e]
    have B81 : (k == 81) = true := by rw [h81]; rfl
    clear e
    subst h81
    have q1 : (w1.setCell ⟨g, 3, none⟩ (.int .i64 1)).heap[z]? = some (.cells #[.int .u8 81, .string y] 44 (0, 0)) := (Go.Deep.blk_setCell_other w1 ⟨g, 3, none⟩ _ z hzg).trans H1F.out
    have q2 : ((w1.setCell ⟨g, 3, none⟩ (.int .i64 1)).setCell ⟨g, 4, none⟩ (.bool true)).heap[z]? = some (.cells #[.int .u8 81, .string y] 44 (0, 0)) := (Go.Deep.blk_setCell_other _ ⟨g, 4, none⟩ _ z hzg).trans q1
    have p0 : (w1.setCell ⟨g, 3, none⟩ (.int .i64 1)).cell? ⟨z, 0, none⟩ = some (.int .u8 81) := (blk_cell q1 0).trans rfl
    have p1 : ((w1.setCell ⟨g, 3, none⟩ (.int .i64 1)).setCell ⟨g, 4, none⟩ (.bool true)).cell? ⟨z, 1, none⟩ = some (.string y) := (blk_cell q2 1).trans rfl
    clear q1 q2
    go_enter Try.func35, Try.ntmps35
    go_wp2_with fail
    all_goals go_ret
    all_goals exact ⟨rfl, DGoes.from_ HBL.out HB0.out (DGoes.of (((H.out.fld 3 (.int .i64 1) { D with code := 1 } rfl rfl rfl).fld 4 (.bool true) { D with code := 1, alone := true } rfl rfl rfl).fld 5 (.string y) { D with code := 1, alone := true, text := y } rfl rfl rfl).up HI.out ((((Kept.refl _ T).setCell (.inl H.out.1) _).setCell (.inl H.out.1) _).setCell (.inl H.out.1) _) (Below.setCell (Below.setCell (Below.setCell (Below.refl b _) H.out.2.1 _) H.out.2.1 _) H.out.2.1 _))⟩
  have N81 : (k == 81) = false := beq_eq_false_iff_ne.2 h81
  by_cases h69 : k = 69
  · have e : dfree D ⟨k, y⟩ = (0, dtell D ⟨7, 0, ⟨#[]⟩⟩) := by unfold dfree; rw [if_neg (fun h => h.elim h66 h81), if_pos h69]
    rw [e]
    have B69 : (k == 69) = true := by rw [h69]; rfl
    clear e
    subst h69
    go_enter Try.func35, Try.ntmps35
    go_wp2_with fail
    refine Calls.mono (show Calls Try.prog 38 #[.pointer (some ⟨g, 0, none⟩), .agg #[.int .i64 7, .int .i64 0, .string ⟨#[]⟩]] w1 _ from dtell_calls T b g D ⟨7, 0, ⟨#[]⟩⟩ w1 HX1.out HL.out) ?_
    rintro e w2 ⟨rfl, hg⟩
    have HG := Aside0.mk hg
    clear hg
    go_wp2_with fail
    all_goals go_ret
    all_goals exact ⟨rfl, DGoes.from_ HBL.out HB0.out HG.out⟩
  have N69 : (k == 69) = false := beq_eq_false_iff_ne.2 h69
  have e : dfree D ⟨k, y⟩ = (0, dend (dtell D ⟨8, 0, ⟨#[]⟩⟩)) := by unfold dfree; rw [if_neg (fun h => h.elim h66 h81), if_neg h69]
  rw [e]
  clear e
  go_enter Try.func35, Try.ntmps35
  go_wp2_with fail
  refine Calls.mono (show Calls Try.prog 38 #[.pointer (some ⟨g, 0, none⟩), .agg #[.int .i64 8, .int .i64 0, .string ⟨#[]⟩]] w1 _ from dtell_calls T b g D ⟨8, 0, ⟨#[]⟩⟩ w1 HX1.out HL.out) ?_
  rintro e w2 ⟨rfl, T1, s1, hx2, s3, s4⟩
  have HX2 := Aside0.mk hx2
  have HS1 := Aside0.mk s1
  have HK := Aside0.mk s3
  have HB := Aside0.mk s4
  clear hx2 s1 s3 s4
  go_wp2_with fail
  refine (dend_calls T1 b g _ w2 HX2.out).mono ?_
  rintro e w3 ⟨rfl, hg⟩
  have HG := Aside0.mk hg
  clear hg
  go_wp2_with fail
  all_goals go_ret
  all_goals exact ⟨rfl, DGoes.from_ HBL.out HB0.out (DGoes.then_ HS1.out HK.out HB.out HG.out)⟩
set_option maxHeartbeats 4000000 in
set_option maxRecDepth 100000 in
theorem dbound_calls (T : Nat → Prop) (b g : Nat) (D : DSt) (f : S44) (w : World) (h : DX T b w g D) (hl : D.told.length ≤ 1000000) :
    Calls Try.prog 36 #[.pointer (some ⟨g, 0, none⟩), .agg #[.int .u8 f.f0, .string f.f1]] w fun e w' => e = .returned (.int .i64 (dbound D f).1) ∧ DGoes T b w g w' (dbound D f).2 := by
  obtain ⟨k, y⟩ := f
  have HB0 := Aside0.mk h.2.1
  have hx1 := h.step (below_alloc (Below.refl w.heap.size w) (.cells #[.int .u8 k, .string y] 44))
  have hbl := below_alloc (Below.refl w.heap.size w) (.cells #[.int .u8 k, .string y] 44)
  have h1f : (w.alloc (.cells #[.int .u8 k, .string y] 44)).heap[w.heap.size]? = some (.cells #[.int .u8 k, .string y] 44 (0, 0)) := heap_alloc_new w _
  obtain ⟨w1, hw1⟩ : ∃ w1, w.alloc (.cells #[.int .u8 k, .string y] 44) = w1 := ⟨_, rfl⟩
  obtain ⟨z, hz⟩ : ∃ z, z = w.heap.size := ⟨_, rfl⟩
  rw [hw1] at hx1 hbl h1f
  rw [← hz] at h1f
  have hzT : ¬ T z := fun hs => Nat.lt_irrefl _ (hz ▸ h.1 z hs)
  have hz' := hz.symm
  have z0 : w1.cell? ⟨z, 0, none⟩ = some (.int .u8 k) := (blk_cell h1f 0).trans rfl
  have z1 : w1.cell? ⟨z, 1, none⟩ = some (.string y) := (blk_cell h1f 1).trans rfl
  have HBL := Aside0.mk hbl
  have HX1 := Aside0.mk hx1
  have HL := Aside0.mk hl
  obtain ⟨i1, i2, va, vt, hm⟩ := hx1
  obtain ⟨c0, c1, c2, c3, c4, c5, c6⟩ := hm.cells
  have f3 := hm.frozen 3
  have f4 := hm.frozen 4
  have f5 := hm.frozen 5
  have H := Aside0.mk hm
  have HI := Aside0.mk i2
  have hzg : z ≠ g := fun e => hzT (e ▸ hm.1)
  have hgz : g ≠ z := fun e => hzg e.symm
  have H1F := Aside0.mk h1f
  clear h hm i1 i2 hl hbl h1f hz hzT
  by_cases h66 : k = 66
  · have e : dbound D ⟨k, y⟩ = (0, dtell D ⟨7, 0, ⟨#[]⟩⟩) := by unfold dbound; rw [if_pos h66]
    rw [e]
    have B66 : (k == 66) = true := by rw [h66]; rfl
    clear e
    subst h66
    go_enter Try.func36, Try.ntmps36
    go_wp2_with fail
    refine Calls.mono (show Calls Try.prog 38 #[.pointer (some ⟨g, 0, none⟩), .agg #[.int .i64 7, .int .i64 0, .string ⟨#[]⟩]] w1 _ from dtell_calls T b g D ⟨7, 0, ⟨#[]⟩⟩ w1 HX1.out HL.out) ?_
    rintro e w2 ⟨rfl, hg⟩
    have HG := Aside0.mk hg
    clear hg
    go_wp2_with fail
    all_goals go_ret
    all_goals exact ⟨rfl, DGoes.from_ HBL.out HB0.out HG.out⟩
  have N66 : (k == 66) = false := beq_eq_false_iff_ne.2 h66
  by_cases h81 : k = 81
  · have e : dbound D ⟨k, y⟩ = (2, { D with code := 4, alone := false, text := y }) := by unfold dbound; rw [if_neg h66, if_pos h81]
    rw [e]
    have B81 : (k == 81) = true := by rw [h81]; rfl
    clear e
    subst h81
    have q1 : (w1.setCell ⟨g, 3, none⟩ (.int .i64 4)).heap[z]? = some (.cells #[.int .u8 81, .string y] 44 (0, 0)) := (Go.Deep.blk_setCell_other w1 ⟨g, 3, none⟩ _ z hzg).trans H1F.out
    have q2 : ((w1.setCell ⟨g, 3, none⟩ (.int .i64 4)).setCell ⟨g, 4, none⟩ (.bool false)).heap[z]? = some (.cells #[.int .u8 81, .string y] 44 (0, 0)) := (Go.Deep.blk_setCell_other _ ⟨g, 4, none⟩ _ z hzg).trans q1
    have p0 : (w1.setCell ⟨g, 3, none⟩ (.int .i64 4)).cell? ⟨z, 0, none⟩ = some (.int .u8 81) := (blk_cell q1 0).trans rfl
    have p1 : ((w1.setCell ⟨g, 3, none⟩ (.int .i64 4)).setCell ⟨g, 4, none⟩ (.bool false)).cell? ⟨z, 1, none⟩ = some (.string y) := (blk_cell q2 1).trans rfl
    clear q1 q2
    go_enter Try.func36, Try.ntmps36
    go_wp2_with fail
    all_goals go_ret
    all_goals exact ⟨rfl, DGoes.from_ HBL.out HB0.out (DGoes.of (((H.out.fld 3 (.int .i64 4) { D with code := 4 } rfl rfl rfl).fld 4 (.bool false) { D with code := 4, alone := false } rfl rfl rfl).fld 5 (.string y) { D with code := 4, alone := false, text := y } rfl rfl rfl).up HI.out ((((Kept.refl _ T).setCell (.inl H.out.1) _).setCell (.inl H.out.1) _).setCell (.inl H.out.1) _) (Below.setCell (Below.setCell (Below.setCell (Below.refl b _) H.out.2.1 _) H.out.2.1 _) H.out.2.1 _))⟩
  have N81 : (k == 81) = false := beq_eq_false_iff_ne.2 h81
  by_cases h69 : k = 69
  · have e : dbound D ⟨k, y⟩ = (3, { dtell D ⟨3, 0, ⟨#[]⟩⟩ with code := 0 }) := by unfold dbound; rw [if_neg h66, if_neg h81, if_pos h69]
    rw [e]
    have B69 : (k == 69) = true := by rw [h69]; rfl
    clear e
    subst h69
    go_enter Try.func36, Try.ntmps36
    go_wp2_with fail
    refine Calls.mono (show Calls Try.prog 38 #[.pointer (some ⟨g, 0, none⟩), .agg #[.int .i64 3, .int .i64 0, .string ⟨#[]⟩]] w1 _ from dtell_calls T b g D ⟨3, 0, ⟨#[]⟩⟩ w1 HX1.out HL.out) ?_
    rintro e w2 ⟨rfl, T1, s1, ⟨m1, m2, va1, vt1, hm⟩, s3, s4⟩
    obtain ⟨k0, k1, k2, k3, k4, k5, k6⟩ := hm.cells
    have f3' := hm.frozen 3
    have HM := Aside0.mk hm
    have HI2 := Aside0.mk m2
    have HS1 := Aside0.mk s1
    have HK := Aside0.mk s3
    have HB := Aside0.mk s4
    clear hm m1 m2 s1 s3 s4
    go_wp2_with fail
    all_goals go_ret
    all_goals exact ⟨rfl, DGoes.from_ HBL.out HB0.out (DGoes.then_ HS1.out HK.out HB.out (DGoes.of (HM.out.fld 3 (.int .i64 0) { dtell D ⟨3, 0, ⟨#[]⟩⟩ with code := 0 } rfl rfl rfl).up HI2.out ((Kept.refl _ _).setCell (.inl HM.out.1) _) (Below.setCell (Below.refl b _) HM.out.2.1 _)))⟩
  have N69 : (k == 69) = false := beq_eq_false_iff_ne.2 h69
  have e : dbound D ⟨k, y⟩ = (3, dend (dtell D ⟨8, 0, ⟨#[]⟩⟩)) := by unfold dbound; rw [if_neg h66, if_neg h81, if_neg h69]
  rw [e]
  clear e
  go_enter Try.func36, Try.ntmps36
  go_wp2_with fail
  refine Calls.mono (show Calls Try.prog 38 #[.pointer (some ⟨g, 0, none⟩), .agg #[.int .i64 8, .int .i64 0, .string ⟨#[]⟩]] w1 _ from dtell_calls T b g D ⟨8, 0, ⟨#[]⟩⟩ w1 HX1.out HL.out) ?_
  rintro e w2 ⟨rfl, T1, s1, hx2, s3, s4⟩
  have HX2 := Aside0.mk hx2
  have HS1 := Aside0.mk s1
  have HK := Aside0.mk s3
  have HB := Aside0.mk s4
  clear hx2 s1 s3 s4
  go_wp2_with fail
  refine (dend_calls T1 b g _ w2 HX2.out).mono ?_
  rintro e w3 ⟨rfl, hg⟩
  have HG := Aside0.mk hg
  clear hg
  go_wp2_with fail
  all_goals go_ret
  all_goals exact ⟨rfl, DGoes.from_ HBL.out HB0.out (DGoes.then_ HS1.out HK.out HB.out HG.out)⟩
set_option maxHeartbeats 4000000 in
set_option maxRecDepth 100000 in
theorem ddead_calls (T : Nat → Prop) (b g : Nat) (D : DSt) (f : S44) (w : World) (h : DX T b w g D) (hl : D.told.length ≤ 1000000) :
    Calls Try.prog 37 #[.pointer (some ⟨g, 0, none⟩), .agg #[.int .u8 f.f0, .string f.f1]] w fun e w' => e = .returned (.int .i64 (ddead D f).1) ∧ DGoes T b w g w' (ddead D f).2 := by
  obtain ⟨k, y⟩ := f
  have HB0 := Aside0.mk h.2.1
  have hx1 := h.step (below_alloc (Below.refl w.heap.size w) (.cells #[.int .u8 k, .string y] 44))
  have hbl := below_alloc (Below.refl w.heap.size w) (.cells #[.int .u8 k, .string y] 44)
  have h1f : (w.alloc (.cells #[.int .u8 k, .string y] 44)).heap[w.heap.size]? = some (.cells #[.int .u8 k, .string y] 44 (0, 0)) := heap_alloc_new w _
  obtain ⟨w1, hw1⟩ : ∃ w1, w.alloc (.cells #[.int .u8 k, .string y] 44) = w1 := ⟨_, rfl⟩
  obtain ⟨z, hz⟩ : ∃ z, z = w.heap.size := ⟨_, rfl⟩
  rw [hw1] at hx1 hbl h1f
  rw [← hz] at h1f
  have hzT : ¬ T z := fun hs => Nat.lt_irrefl _ (hz ▸ h.1 z hs)
  have hz' := hz.symm
  have z0 : w1.cell? ⟨z, 0, none⟩ = some (.int .u8 k) := (blk_cell h1f 0).trans rfl
  have z1 : w1.cell? ⟨z, 1, none⟩ = some (.string y) := (blk_cell h1f 1).trans rfl
  have HBL := Aside0.mk hbl
  have HX1 := Aside0.mk hx1
  have HL := Aside0.mk hl
  obtain ⟨i1, i2, va, vt, hm⟩ := hx1
  obtain ⟨c0, c1, c2, c3, c4, c5, c6⟩ := hm.cells
  have f3 := hm.frozen 3
  have f4 := hm.frozen 4
  have f5 := hm.frozen 5
  have H := Aside0.mk hm
  have HI := Aside0.mk i2
  have hzg : z ≠ g := fun e => hzT (e ▸ hm.1)
  have hgz : g ≠ z := fun e => hzg e.symm
  have H1F := Aside0.mk h1f
  clear h hm i1 i2 hl hbl h1f hz hzT
  by_cases h0 : k = 0
  · have e : ddead D ⟨k, y⟩ = (0, dend (dtell D ⟨8, 0, ⟨#[]⟩⟩)) := by unfold ddead; rw [if_pos h0]
    rw [e]
    have B0 : (k == 0) = true := by rw [h0]; rfl
    clear e
    subst h0
    go_enter Try.func37, Try.ntmps37
    go_wp2_with fail
    refine Calls.mono (show Calls Try.prog 38 #[.pointer (some ⟨g, 0, none⟩), .agg #[.int .i64 8, .int .i64 0, .string ⟨#[]⟩]] w1 _ from dtell_calls T b g D ⟨8, 0, ⟨#[]⟩⟩ w1 HX1.out HL.out) ?_
    rintro e w2 ⟨rfl, T1, s1, hx2, s3, s4⟩
    have HX2 := Aside0.mk hx2
    have HS1 := Aside0.mk s1
    have HK := Aside0.mk s3
    have HB := Aside0.mk s4
    clear hx2 s1 s3 s4
    go_wp2_with fail
    refine (dend_calls T1 b g _ w2 HX2.out).mono ?_
    rintro e w3 ⟨rfl, hg⟩
    have HG := Aside0.mk hg
    clear hg
    go_wp2_with fail
    all_goals go_ret
    all_goals exact ⟨rfl, DGoes.from_ HBL.out HB0.out (DGoes.then_ HS1.out HK.out HB.out HG.out)⟩
  have N0 : (k == 0) = false := beq_eq_false_iff_ne.2 h0
  have e : ddead D ⟨k, y⟩ = (0, { dtell D ⟨6, 0, ⟨#[]⟩⟩ with code := 0 }) := by unfold ddead; rw [if_neg h0]
  rw [e]
  clear e
  go_enter Try.func37, Try.ntmps37
  go_wp2_with fail
  refine Calls.mono (show Calls Try.prog 38 #[.pointer (some ⟨g, 0, none⟩), .agg #[.int .i64 6, .int .i64 0, .string ⟨#[]⟩]] w1 _ from dtell_calls T b g D ⟨6, 0, ⟨#[]⟩⟩ w1 HX1.out HL.out) ?_
  rintro e w2 ⟨rfl, T1, s1, ⟨m1, m2, va1, vt1, hm⟩, s3, s4⟩
  obtain ⟨k0, k1, k2, k3, k4, k5, k6⟩ := hm.cells
  have f3' := hm.frozen 3
  have HM := Aside0.mk hm
  have HI2 := Aside0.mk m2
  have HS1 := Aside0.mk s1
  have HK := Aside0.mk s3
  have HB := Aside0.mk s4
  clear hm m1 m2 s1 s3 s4
  go_wp2_with fail
  all_goals go_ret
  all_goals exact ⟨rfl, DGoes.from_ HBL.out HB0.out (DGoes.then_ HS1.out HK.out HB.out (DGoes.of (HM.out.fld 3 (.int .i64 0) { dtell D ⟨6, 0, ⟨#[]⟩⟩ with code := 0 } rfl rfl rfl).up HI2.out ((Kept.refl _ _).setCell (.inl HM.out.1) _) (Below.setCell (Below.refl b _) HM.out.2.1 _)))⟩
end Go.Proofs.Ythjjblnkaikmlaa.Mx
