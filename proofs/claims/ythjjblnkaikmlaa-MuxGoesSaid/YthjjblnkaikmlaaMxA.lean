/- A session of package mux: its state as the proof knows it; what its inner methods do to it. -/
import Derived.Test.YthjjblnkaikmlaaStB
import Derived.Deep.RegionWith
import Derived.Deep.Heap
namespace Go.Proofs.Ythjjblnkaikmlaa.Mx
open Go.RowKit Go.Proofs.Ythjjblnkaikmlaa.St Go.Proofs.Ythjjblnkaikmlaa.PMuxOnce Go.Proofs.YthjjblnkaikmlaaW.PrintWords Go.Proofs.YthjjblnkaikmlaaW.PrintLast Go.Proofs.YthjjblnkaikmlaaW.PrintMore
set_option linter.unusedVariables false
set_option linter.unusedSimpArgs false
/-- A session: its reader, the frames ahead, whether the stream's bad end has been told, its state (by the type that stands for it), its word, whether it is for one query, that query's text, the replies. -/
structure MSt where
  s : RS
  ahead : List S44
  broke : Bool
  st : Nat
  wd : Int
  alone : Bool
  text : ByteArray
  told : List S42
def cellsM (gr : Nat) (va vb : Value) (M : MSt) : Array Value := #[.pointer (some ⟨gr, 0, none⟩), va, .bool M.broke, .iface M.st (.agg #[]), .int .i64 M.wd, .bool M.alone, .string M.text, vb]
def MR (S Sr : Nat → Prop) (b : Nat) (w : World) (g gr : Nat) (vt va vb : Value) (M : MSt) : Prop :=
  S g ∧ b ≤ g ∧ ¬ Sr g ∧ (∀ k, Sr k → S k) ∧ w.heap[g]? = some (.cells (cellsM gr va vb M) 71 (0, 0)) ∧ RdrS Sr b b w gr M.s vt (.slice none 0 0) ∧ Kd.R k44 44 w b (fun k => S k ∧ ¬ Sr k) va M.ahead ∧ Kd.R k42 42 w b (fun k => S k ∧ ¬ Sr k) vb M.told ∧ M.s.out = [] ∧ okS M.s
def MX (S : Nat → Prop) (b : Nat) (w : World) (g : Nat) (M : MSt) : Prop :=
  (∀ k, S k → k < w.heap.size) ∧ b ≤ w.heap.size ∧ ∃ Sr gr vt va vb, MR S Sr b w g gr vt va vb M
/-- What a call leaves: the session in its new state, on blocks of its own or new ones; all else is as it was. -/
def Goes (S : Nat → Prop) (b : Nat) (w : World) (g : Nat) (w' : World) (M : MSt) : Prop :=
  ∃ S' : Nat → Prop, (∀ k, S' k → S k ∨ w.heap.size ≤ k) ∧ MX S' b w' g M ∧ Kept w w' S ∧ Below b w w'
section
variable {S S' Sr : Nat → Prop} {b g gr : Nat} {w w1 : World} {vt va vb v1 : Value} {M M' : MSt}
theorem MR.mono (h : MR S Sr b w g gr vt va vb M) (hs : ∀ k, S k → S' k) : MR S' Sr b w g gr vt va vb M :=
  ⟨hs _ h.1, h.2.1, h.2.2.1, fun k hk => hs _ (h.2.2.2.1 k hk), h.2.2.2.2.1, h.2.2.2.2.2.1, Kd.R_mono h.2.2.2.2.2.2.1 (fun k hk => ⟨hs _ hk.1, hk.2⟩), Kd.R_mono h.2.2.2.2.2.2.2.1 (fun k hk => ⟨hs _ hk.1, hk.2⟩), h.2.2.2.2.2.2.2.2⟩
theorem MR.step (h : MR S Sr b w g gr vt va vb M) (hb : ∀ k, S k → k < w.heap.size → w1.heap[k]? = w.heap[k]?) : MR S Sr b w1 g gr vt va vb M :=
  ⟨h.1, h.2.1, h.2.2.1, h.2.2.2.1, (hb g h.1 (blk_lt h.2.2.2.2.1)).trans h.2.2.2.2.1, Rdr.step h.2.2.2.2.2.1 (fun k hk hl => hb k (h.2.2.2.1 k hk) hl), Kd.R_step h.2.2.2.2.2.2.1 (fun k hk hl => hb k hk.1 hl), Kd.R_step h.2.2.2.2.2.2.2.1 (fun k hk hl => hb k hk.1 hl), h.2.2.2.2.2.2.2.2⟩
theorem MR.blk (h : MR S Sr b w g gr vt va vb M) : w.heap[g]? = some (.cells (cellsM gr va vb M) 71 (0, 0)) := h.2.2.2.2.1
theorem MR.cells (h : MR S Sr b w g gr vt va vb M) : w.cell? ⟨g, 0, none⟩ = some (.pointer (some ⟨gr, 0, none⟩)) ∧ w.cell? ⟨g, 1, none⟩ = some va ∧ w.cell? ⟨g, 2, none⟩ = some (.bool M.broke) ∧ w.cell? ⟨g, 3, none⟩ = some (.iface M.st (.agg #[])) ∧ w.cell? ⟨g, 4, none⟩ = some (.int .i64 M.wd) ∧ w.cell? ⟨g, 5, none⟩ = some (.bool M.alone) ∧ w.cell? ⟨g, 6, none⟩ = some (.string M.text) ∧ w.cell? ⟨g, 7, none⟩ = some vb :=
  ⟨(blk_cell h.blk 0).trans rfl, (blk_cell h.blk 1).trans rfl, (blk_cell h.blk 2).trans rfl, (blk_cell h.blk 3).trans rfl, (blk_cell h.blk 4).trans rfl, (blk_cell h.blk 5).trans rfl, (blk_cell h.blk 6).trans rfl, (blk_cell h.blk 7).trans rfl⟩
theorem MR.frozen (h : MR S Sr b w g gr vt va vb M) (i : Nat) : w.frozen? ⟨g, i, none⟩ = false := blk_frozen h.blk i
theorem MR.apart (h : MR S Sr b w g gr vt va vb M) : Rdr (fun k => Sr k ∧ k ≠ g) b b w gr M.s.at_ M.s.lacks vt (.slice none 0 0) M.s.text M.s.out :=
  Rdr.mono h.2.2.2.2.2.1 fun k hk => ⟨hk, fun e => h.2.2.1 (e ▸ hk)⟩
/-- A field that holds no row is set. -/
theorem MR.fld (h : MR S Sr b w g gr vt va vb M) (i : Nat) (v : Value) (M' : MSt) (hM : cellsM gr va vb M' = (cellsM gr va vb M).setIfInBounds i v) (hs : M'.s = M.s) (ha : M'.ahead = M.ahead) (ht : M'.told = M.told) : MR S Sr b (w.setCell ⟨g, i, none⟩ v) g gr vt va vb M' := by
  refine ⟨h.1, h.2.1, h.2.2.1, h.2.2.2.1, by rw [hM]; exact blk_set h.blk i v, ?_, ?_, ?_, by rw [hs]; exact h.2.2.2.2.2.2.2.2.1, by rw [hs]; exact h.2.2.2.2.2.2.2.2.2⟩
  · have h2 := Rdr.mono (Rdr.step (w1 := w.setCell ⟨g, i, none⟩ v) h.apart fun k hk hl => Go.Deep.blk_setCell_other w ⟨g, i, none⟩ v k hk.2) (S' := Sr) (fun k hk => hk.1)
    unfold RdrS
    rw [hs]
    exact h2
  · rw [ha]; exact Kd.R_set h.2.2.2.2.2.2.1 h.blk (by decide) _ _
  · rw [ht]; exact Kd.R_set h.2.2.2.2.2.2.2.1 h.blk (by decide) _ _
theorem MR.far (h : MR S Sr b w g gr vt va vb M) {row : Option Nat} (hg : w.grownBy w1 row) (hr : ∀ k, row = some k → ¬ Sr k) : RdrS Sr b b w1 gr M.s vt (.slice none 0 0) :=
  Rdr.step h.2.2.2.2.2.1 fun k hk hl => hg.block k hl (fun e => hr k e.symm hk)
/-- The replies have grown: another row stands in the field. -/
theorem MR.tell (h : MR S Sr b w g gr vt va vb M) (hg : w.grownBy w1 vb.ownBlock) {told' : List S42} (ho : Kd.R k42 42 w1 b (fun k => S k ∧ ¬ Sr k) v1 told') : MR S Sr b (w1.setCell ⟨g, 7, none⟩ v1) g gr vt va v1 { M with told := told' } := by
  have hne := Kd.R_ne h.2.2.2.2.2.2.2.1 h.blk (by decide)
  have hb : w1.heap[g]? = some (.cells (cellsM gr va vb M) 71 (0, 0)) := (hg.block g (blk_lt h.blk) hne).trans h.blk
  have h1 : Rdr (fun k => Sr k ∧ k ≠ g) b b w1 gr M.s.at_ M.s.lacks vt (.slice none 0 0) M.s.text M.s.out := Rdr.mono (h.far hg (fun k hk => (h.2.2.2.2.2.2.2.1.1 k hk).2)) fun k hk => ⟨hk, fun e => h.2.2.1 (e ▸ hk)⟩
  have ha := Kd.R_mono (Kd.R_grown (R_apart h.2.2.2.2.2.2.1 h.2.2.2.2.2.2.2.1 (by decide)) hg (fun k hk => hk.2)) (fun k hk => hk.1)
  exact ⟨h.1, h.2.1, h.2.2.1, h.2.2.2.1, by simpa [cellsM] using blk_set hb 7 v1, Rdr.mono (Rdr.step (w1 := w1.setCell ⟨g, 7, none⟩ v1) h1 fun k hk hl => Go.Deep.blk_setCell_other w1 ⟨g, 7, none⟩ v1 k hk.2) (fun k hk => hk.1), Kd.R_set ha hb (by decide) _ _, Kd.R_set ho hb (by decide) _ _, h.2.2.2.2.2.2.2.2⟩
/-- The frames ahead have grown. -/
theorem MR.more (h : MR S Sr b w g gr vt va vb M) (hg : w.grownBy w1 va.ownBlock) {ahead' : List S44} (ho : Kd.R k44 44 w1 b (fun k => S k ∧ ¬ Sr k) v1 ahead') : MR S Sr b (w1.setCell ⟨g, 1, none⟩ v1) g gr vt v1 vb { M with ahead := ahead' } := by
  have hne := Kd.R_ne h.2.2.2.2.2.2.1 h.blk (by decide)
  have hb : w1.heap[g]? = some (.cells (cellsM gr va vb M) 71 (0, 0)) := (hg.block g (blk_lt h.blk) hne).trans h.blk
  have h1 : Rdr (fun k => Sr k ∧ k ≠ g) b b w1 gr M.s.at_ M.s.lacks vt (.slice none 0 0) M.s.text M.s.out := Rdr.mono (h.far hg (fun k hk => (h.2.2.2.2.2.2.1.1 k hk).2)) fun k hk => ⟨hk, fun e => h.2.2.1 (e ▸ hk)⟩
  have ha := Kd.R_mono (Kd.R_grown (R_apart h.2.2.2.2.2.2.2.1 h.2.2.2.2.2.2.1 (by decide)) hg (fun k hk => hk.2)) (fun k hk => hk.1)
  exact ⟨h.1, h.2.1, h.2.2.1, h.2.2.2.1, by simpa [cellsM] using blk_set hb 1 v1, Rdr.mono (Rdr.step (w1 := w1.setCell ⟨g, 1, none⟩ v1) h1 fun k hk hl => Go.Deep.blk_setCell_other w1 ⟨g, 1, none⟩ v1 k hk.2) (fun k hk => hk.1), Kd.R_set ho hb (by decide) _ _, Kd.R_set ha hb (by decide) _ _, h.2.2.2.2.2.2.2.2⟩
theorem MR.toMX (h : MR S Sr b w g gr vt va vb M) (hb : b ≤ w.heap.size) : MX (fun k => S k ∧ k < w.heap.size) b w g M := by
  have hr := h.2.2.2.2.2.1
  refine ⟨fun k hk => hk.2, hb, fun k => Sr k ∧ k < w.heap.size, gr, vt, va, vb, ⟨h.1, blk_lt h.blk⟩, h.2.1, fun hk => h.2.2.1 hk.1, fun k hk => ⟨h.2.2.2.1 k hk.1, hk.2⟩, h.blk, ⟨⟨hr.1, blk_lt hr.2.2.1⟩, hr.2.1, hr.2.2.1, Kd.R_mono (Kd.R_bound hr.2.2.2.1) fun k hk => ⟨hk.1, hk.2.2.1⟩, Kd.R_mono (Kd.R_bound hr.2.2.2.2) fun k hk => ⟨hk.1, hk.2.2.1⟩⟩, Kd.R_mono (Kd.R_bound h.2.2.2.2.2.2.1) fun k hk => ⟨⟨hk.1.1, hk.2.2.1⟩, fun hn => hk.1.2 hn.1⟩, Kd.R_mono (Kd.R_bound h.2.2.2.2.2.2.2.1) fun k hk => ⟨⟨hk.1.1, hk.2.2.1⟩, fun hn => hk.1.2 hn.1⟩, h.2.2.2.2.2.2.2.2⟩
theorem Goes.of (h : MR (fun k => S k ∨ w.heap.size ≤ k) Sr b w1 g gr vt va vb M) (hb : b ≤ w.heap.size) (hk : Kept w w1 S) (hB : Below b w w1) : Goes S b w g w1 M :=
  ⟨_, fun k hk => hk.1, h.toMX (Nat.le_trans hb hk.1), hk, hB⟩
theorem Goes.refl (h : MX S b w g M) : Goes S b w g w M := ⟨S, fun k hk => .inl hk, h, Kept.refl _ _, Below.refl _ _⟩
theorem Goes.then_ {w2 : World} {S1 : Nat → Prop} (hs : ∀ k, S1 k → S k ∨ w.heap.size ≤ k) (hk : Kept w w1 S) (hB : Below b w w1) (h : Goes S1 b w1 g w2 M) : Goes S b w g w2 M := by
  obtain ⟨S2, h2, hm, hk2, hb2⟩ := h
  exact ⟨S2, fun k h => (h2 k h).elim (hs k) (fun h => .inr (Nat.le_trans hk.1 h)), hm, hk.then_ hk2 hs, hB.trans hb2⟩
theorem MX.step (h : MX S b w g M) (hb : Below w.heap.size w w1) : MX S b w1 g M := by
  obtain ⟨h1, h2, Sr, gr, vt, va, vb, hm⟩ := h
  exact ⟨fun k hk => Nat.lt_of_lt_of_le (h1 k hk) hb.size, Nat.le_trans h2 hb.size, Sr, gr, vt, va, vb, hm.step fun k hk hl => hb.block k hl⟩
theorem Goes.below (h : MX S b w g M) (hb : Below w.heap.size w w1) : Goes S b w g w1 M := ⟨S, fun k hk => .inl hk, h.step hb, Kept.of_below hb S, hb.mono h.2.1⟩
end
theorem k42_KM {w w' : World} {base : Nat} {ok : Nat → Prop} {x : S42} {cs : List Value} (h : k42.K w x cs) : k42.M w' base ok x cs := by
  obtain rfl := k42_open h
  exact k42_mkM w' base ok x
def tellM (M : MSt) (k : Int) : MSt := { M with told := M.told ++ [⟨k, 0, ⟨#[]⟩⟩] }
def hangM (M : MSt) : MSt := { M with wd := 5, ahead := [] }
def waitM (M : MSt) (al : Bool) (tx : ByteArray) : MSt := { M with wd := 1, alone := al, text := tx }
theorem info42 : (Try.prog.info? 42).map (fun i => (i.zero, i.size, i.bytes)) = some (some (.agg #[(.int .i64 0), (.int .i64 0), (.string ⟨#[]⟩)]), 3, 32) := by kernel_rfl
set_option maxRecDepth 100000 in
theorem tell_calls (S : Nat → Prop) (b g : Nat) (M : MSt) (k : Int) (w : World) (h : MX S b w g M) (hl : M.told.length ≤ 1000000000) :
    Calls Try.prog 34 #[.pointer (some ⟨g, 0, none⟩), .int .i64 k] w fun e w' => e = .returned (.tuple #[]) ∧ Goes S b w g w' (tellM M k) := by
  obtain ⟨h1, h2, Sr, gr, vt, va, vb, hm⟩ := h
  obtain ⟨c0, c1, c2, c3, c4, c5, c6, c7⟩ := hm.cells
  have f7 := hm.frozen 7
  have H := Aside0.mk hm
  have HL := Aside0.mk hl
  have HW := Aside0.mk h2
  have HS := Aside0.mk h1
  clear hm hl h1 h2 c0 c1 c2 c3 c4 c5 c6
  go_enter Try.func34, Try.ntmps34
  go_wp2_with ((with_reducible refine gate_builtin (b := .append) (xs := #[.tmp 8, .tmp 11]) rfl ?_); at_builtin; refine Kd.R_append k42 (w0 := w) (W := w) b rfl (.tmp 8) (.tmp 11) 39 42 (.agg #[(.int .i64 0), (.int .i64 0), (.string ⟨#[]⟩)]) 32 rfl Try.underlying39 info42 rfl (by decide) (by omega) vb M.told (⟨k, 0, ⟨#[]⟩⟩ : S42) [.int .i64 k, .int .i64 0, .string ⟨#[]⟩] (fun k => (S k ∨ w.heap.size ≤ k) ∧ ¬ Sr k) (fun _ => False) rfl rfl (k42_mkM _ _ _ (⟨k, 0, ⟨#[]⟩⟩ : S42)) (fun _ hk => hk.elim) (fun _ hk => ⟨.inr hk, fun hs => Nat.not_lt.2 hk (HS.out _ (H.out.2.2.2.1 _ hs))⟩) (Kd.R_mono H.out.2.2.2.2.2.2.2.1 (fun _ hk => ⟨.inl hk.1, hk.2⟩)) (Below.refl _ _) HW.out (by have := HL.out; omega) ?_; intro v1 w1 ho hb hg hat; obtain ⟨m1, A1, n1, e1⟩ : ∃ m1 A1 n1, v1 = Value.slice A1 m1 n1 := (by obtain ⟨A, c, e⟩ := Kd.R_slice ho; exact ⟨_, A, c, e⟩); subst e1; have HQ := Aside0.mk (MR.tell (H.out.mono (S' := fun k => S k ∨ w.heap.size ≤ k) (fun _ hk => .inl hk)) hg ho); have hf1 : w1.frozen? ⟨g, 7, none⟩ = false := blk_frozen (blk_grown H.out.blk hg (Kd.R_ne H.out.2.2.2.2.2.2.2.1 H.out.blk (by decide))) 7; have hd1 : w1.cell? ⟨g, 7, none⟩ = some vb := (blk_cell (blk_grown H.out.blk hg (Kd.R_ne H.out.2.2.2.2.2.2.2.1 H.out.blk (by decide))) 7).trans rfl; have HG := Aside0.mk hg; have HB := Aside0.mk hb; clear ho hb hg hat)
  all_goals go_end0
  all_goals exact ⟨rfl, Goes.of HQ.out HW.out ((Kept.of_grown HG.out (Kept.refl w S) (fun k hk => .inl (H.out.2.2.2.2.2.2.2.1.1 k hk).1)).setCell (.inl H.out.1) _) (Below.setCell HB.out H.out.2.1 _)⟩
section
variable {S S' Sr : Nat → Prop} {b g gr : Nat} {w w1 : World} {vt va vb v1 : Value} {M M' : MSt}
theorem MR.drop (h : MR S Sr b w g gr vt va vb M) : MR S Sr b (w.setCell ⟨g, 1, none⟩ (.slice none 0 0)) g gr vt (.slice none 0 0) vb { M with ahead := [] } :=
  ⟨h.1, h.2.1, h.2.2.1, h.2.2.2.1, by simpa [cellsM] using blk_set h.blk 1 (.slice none 0 0), Rdr.mono (Rdr.step (w1 := w.setCell ⟨g, 1, none⟩ (.slice none 0 0)) h.apart fun k hk hl => Go.Deep.blk_setCell_other w ⟨g, 1, none⟩ _ k hk.2) (S' := Sr) (fun k hk => hk.1), Kd.R_nil _ _ _ _ _, Kd.R_set h.2.2.2.2.2.2.2.1 h.blk (by decide) _ _, h.2.2.2.2.2.2.2.2⟩
theorem MR.quiet (h : MR S Sr b w g gr vt va vb M) : MR S Sr b (w.setCell ⟨g, 7, none⟩ (.slice none 0 0)) g gr vt va (.slice none 0 0) { M with told := [] } :=
  ⟨h.1, h.2.1, h.2.2.1, h.2.2.2.1, by simpa [cellsM] using blk_set h.blk 7 (.slice none 0 0), Rdr.mono (Rdr.step (w1 := w.setCell ⟨g, 7, none⟩ (.slice none 0 0)) h.apart fun k hk hl => Go.Deep.blk_setCell_other w ⟨g, 7, none⟩ _ k hk.2) (S' := Sr) (fun k hk => hk.1), Kd.R_set h.2.2.2.2.2.2.1 h.blk (by decide) _ _, Kd.R_nil _ _ _ _ _, h.2.2.2.2.2.2.2.2⟩
/-- One field is set: what the call leaves so far. -/
theorem MR.up (h : MR S Sr b w g gr vt va vb M) : MR (fun k => S k ∨ w1.heap.size ≤ k) Sr b w g gr vt va vb M := h.mono fun _ hk => .inl hk
end
set_option maxRecDepth 100000 in
theorem hang_calls (S : Nat → Prop) (b g : Nat) (M : MSt) (w : World) (h : MX S b w g M) :
    Calls Try.prog 25 #[.pointer (some ⟨g, 0, none⟩)] w fun e w' => e = .returned (.tuple #[]) ∧ Goes S b w g w' (hangM M) := by
  obtain ⟨h1, h2, Sr, gr, vt, va, vb, hm⟩ := h
  obtain ⟨c0, c1, c2, c3, c4, c5, c6, c7⟩ := hm.cells
  have f1 := hm.frozen 1
  have f4 := hm.frozen 4
  have H := Aside0.mk hm
  have HW := Aside0.mk h2
  have HS := Aside0.mk h1
  clear hm h1 h2
  go_enter Try.func25, Try.ntmps25
  go_wp2_with fail
  all_goals go_end0
  all_goals exact ⟨rfl, Goes.of ((H.out.fld 4 (.int .i64 5) { M with wd := 5 } rfl rfl rfl rfl).drop).up HW.out (((Kept.refl w S).setCell (.inl H.out.1) _).setCell (.inl H.out.1) _) (Below.setCell (Below.setCell (Below.refl b w) H.out.2.1 _) H.out.2.1 _)⟩
set_option maxRecDepth 100000 in
theorem wait_calls (S : Nat → Prop) (b g : Nat) (M : MSt) (al : Bool) (tx : ByteArray) (w : World) (h : MX S b w g M) :
    Calls Try.prog 68 #[.pointer (some ⟨g, 0, none⟩), .bool al, .string tx] w fun e w' => e = .returned (.int .i64 1) ∧ Goes S b w g w' (waitM M al tx) := by
  obtain ⟨h1, h2, Sr, gr, vt, va, vb, hm⟩ := h
  obtain ⟨c0, c1, c2, c3, c4, c5, c6, c7⟩ := hm.cells
  have f5 := hm.frozen 5
  have f4 := hm.frozen 4
  have f6 := hm.frozen 6
  have H := Aside0.mk hm
  have HW := Aside0.mk h2
  have HS := Aside0.mk h1
  clear hm h1 h2
  go_enter Try.func68, Try.ntmps68
  go_wp2_with fail
  all_goals go_ret
  all_goals exact ⟨rfl, Goes.of (((H.out.fld 4 (.int .i64 1) { M with wd := 1 } rfl rfl rfl rfl).fld 5 (.bool al) { M with wd := 1, alone := al } rfl rfl rfl rfl).fld 6 (.string tx) (waitM M al tx) rfl rfl rfl rfl).up HW.out ((((Kept.refl w S).setCell (.inl H.out.1) _).setCell (.inl H.out.1) _).setCell (.inl H.out.1) _) (Below.setCell (Below.setCell (Below.setCell (Below.refl b w) H.out.2.1 _) H.out.2.1 _) H.out.2.1 _)⟩
set_option maxRecDepth 100000 in
theorem close_calls (S : Nat → Prop) (b g : Nat) (M : MSt) (d : Int) (w : World) (h : MX S b w g M) (hl : M.told.length ≤ 1000000000) :
    Calls Try.prog 67 #[.pointer (some ⟨g, 0, none⟩), .int .i64 d] w fun e w' => e = .returned (.int .i64 d) ∧ Goes S b w g w' (hangM (tellM M 8)) := by
  have H := Aside0.mk h
  have HL := Aside0.mk hl
  clear h hl
  go_enter Try.func67, Try.ntmps67
  go_wp2_with fail
  refine (tell_calls S b g M 8 w H.out HL.out).mono ?_
  rintro e w1 ⟨rfl, S1, h1, hm1, hk1, hb1⟩
  have HM1 := Aside0.mk hm1
  have HK1 := Aside0.mk hk1
  have HB1 := Aside0.mk hb1
  have H1 := Aside0.mk h1
  clear hm1 hk1 hb1 h1
  go_wp2_with fail
  refine (hang_calls S1 b g _ w1 HM1.out).mono ?_
  rintro e w2 ⟨rfl, hg⟩
  have HG := Aside0.mk hg
  clear hg
  go_wp2_with fail
  go_ret
  exact ⟨rfl, Goes.then_ H1.out HK1.out HB1.out HG.out⟩
theorem Goes.from_ {S : Nat → Prop} {b g : Nat} {w w1 w2 : World} {M : MSt} (hb : Below w.heap.size w w1) (h2 : b ≤ w.heap.size) (h : Goes S b w1 g w2 M) : Goes S b w g w2 M :=
  Goes.then_ (fun _ hk => .inl hk) (Kept.of_below hb S) (hb.mono h2) h
def setSt (M : MSt) (t : Nat) : MSt := { M with st := t }
def sentM (M : MSt) (tx : ByteArray) : MSt := { M with wd := 3, alone := false, text := tx }
set_option maxRecDepth 100000 in
theorem free_bad_calls (S : Nat → Prop) (b g : Nat) (M : MSt) (w : World) (h : MX S b w g M) (hl : M.told.length ≤ 1000000000) :
    Calls Try.prog 63 #[.agg #[], .pointer (some ⟨g, 0, none⟩)] w fun e w' => e = .returned (.int .i64 0) ∧ Goes S b w g w' (hangM (tellM M 8)) := by
  have hW := Aside0.mk h.2.1
  have H := Aside0.mk h
  have HL := Aside0.mk hl
  clear h hl
  go_enter Try.func63, Try.ntmps63
  go_wp2_with fail
  refine (close_calls S b g M 0 (w.alloc _) (H.out.step (below_alloc (Below.refl _ _) _)) HL.out).mono ?_
  rintro e w2 ⟨rfl, hg⟩
  have HG := Aside0.mk hg
  clear hg
  go_wp2_with fail
  go_ret
  exact ⟨rfl, Goes.from_ (below_alloc (Below.refl _ _) _) hW.out HG.out⟩
set_option maxRecDepth 100000 in
theorem free_begin_calls (S : Nat → Prop) (b g : Nat) (M : MSt) (w : World) (h : MX S b w g M) (hl : M.told.length ≤ 1000000000) :
    Calls Try.prog 64 #[.agg #[], .pointer (some ⟨g, 0, none⟩)] w fun e w' => e = .returned (.int .i64 1) ∧ Goes S b w g w' (waitM M false ⟨#[]⟩) := by
  have hW := Aside0.mk h.2.1
  have H := Aside0.mk h
  have HL := Aside0.mk hl
  clear h hl
  go_enter Try.func64, Try.ntmps64
  go_wp2_with fail
  refine (wait_calls S b g M false ⟨#[]⟩ (w.alloc _) (H.out.step (below_alloc (Below.refl _ _) _))).mono ?_
  rintro e w2 ⟨rfl, hg⟩
  have HG := Aside0.mk hg
  clear hg
  go_wp2_with fail
  go_ret
  exact ⟨rfl, Goes.from_ (below_alloc (Below.refl _ _) _) hW.out HG.out⟩
set_option maxRecDepth 100000 in
theorem free_end_calls (S : Nat → Prop) (b g : Nat) (M : MSt) (w : World) (h : MX S b w g M) (hl : M.told.length ≤ 1000000000) :
    Calls Try.prog 65 #[.agg #[], .pointer (some ⟨g, 0, none⟩)] w fun e w' => e = .returned (.int .i64 0) ∧ Goes S b w g w' (tellM M 7) := by
  have hW := Aside0.mk h.2.1
  have H := Aside0.mk h
  have HL := Aside0.mk hl
  clear h hl
  go_enter Try.func65, Try.ntmps65
  go_wp2_with fail
  refine (tell_calls S b g M 7 (w.alloc _) (H.out.step (below_alloc (Below.refl _ _) _)) HL.out).mono ?_
  rintro e w2 ⟨rfl, hg⟩
  have HG := Aside0.mk hg
  clear hg
  go_wp2_with fail
  go_ret
  exact ⟨rfl, Goes.from_ (below_alloc (Below.refl _ _) _) hW.out HG.out⟩
set_option maxRecDepth 100000 in
theorem free_query_calls (S : Nat → Prop) (b g : Nat) (M : MSt) (tx : ByteArray) (w : World) (h : MX S b w g M) (hl : M.told.length ≤ 1000000000) :
    Calls Try.prog 66 #[.agg #[], .pointer (some ⟨g, 0, none⟩), .string tx] w fun e w' => e = .returned (.int .i64 1) ∧ Goes S b w g w' (waitM M true tx) := by
  have hW := Aside0.mk h.2.1
  have H := Aside0.mk h
  have HL := Aside0.mk hl
  clear h hl
  go_enter Try.func66, Try.ntmps66
  go_wp2_with fail
  refine (wait_calls S b g M true tx (w.alloc _) (H.out.step (below_alloc (Below.refl _ _) _))).mono ?_
  rintro e w2 ⟨rfl, hg⟩
  have HG := Aside0.mk hg
  clear hg
  go_wp2_with fail
  go_ret
  exact ⟨rfl, Goes.from_ (below_alloc (Below.refl _ _) _) hW.out HG.out⟩
set_option maxRecDepth 100000 in
theorem bound_bad_calls (S : Nat → Prop) (b g : Nat) (M : MSt) (w : World) (h : MX S b w g M) (hl : M.told.length ≤ 1000000000) :
    Calls Try.prog 69 #[.agg #[], .pointer (some ⟨g, 0, none⟩)] w fun e w' => e = .returned (.int .i64 3) ∧ Goes S b w g w' (hangM (tellM M 8)) := by
  have hW := Aside0.mk h.2.1
  have H := Aside0.mk h
  have HL := Aside0.mk hl
  clear h hl
  go_enter Try.func69, Try.ntmps69
  go_wp2_with fail
  refine (close_calls S b g M 3 (w.alloc _) (H.out.step (below_alloc (Below.refl _ _) _)) HL.out).mono ?_
  rintro e w2 ⟨rfl, hg⟩
  have HG := Aside0.mk hg
  clear hg
  go_wp2_with fail
  go_ret
  exact ⟨rfl, Goes.from_ (below_alloc (Below.refl _ _) _) hW.out HG.out⟩
set_option maxRecDepth 100000 in
theorem bound_begin_calls (S : Nat → Prop) (b g : Nat) (M : MSt) (w : World) (h : MX S b w g M) (hl : M.told.length ≤ 1000000000) :
    Calls Try.prog 70 #[.agg #[], .pointer (some ⟨g, 0, none⟩)] w fun e w' => e = .returned (.int .i64 0) ∧ Goes S b w g w' (tellM M 7) := by
  have hW := Aside0.mk h.2.1
  have H := Aside0.mk h
  have HL := Aside0.mk hl
  clear h hl
  go_enter Try.func70, Try.ntmps70
  go_wp2_with fail
  refine (tell_calls S b g M 7 (w.alloc _) (H.out.step (below_alloc (Below.refl _ _) _)) HL.out).mono ?_
  rintro e w2 ⟨rfl, hg⟩
  have HG := Aside0.mk hg
  clear hg
  go_wp2_with fail
  go_ret
  exact ⟨rfl, Goes.from_ (below_alloc (Below.refl _ _) _) hW.out HG.out⟩
set_option maxRecDepth 100000 in
theorem bound_end_calls (S : Nat → Prop) (b g : Nat) (M : MSt) (w : World) (h : MX S b w g M) (hl : M.told.length ≤ 1000000000) :
    Calls Try.prog 71 #[.agg #[], .pointer (some ⟨g, 0, none⟩)] w fun e w' => e = .returned (.int .i64 3) ∧ Goes S b w g w' (setSt (tellM M 3) 66) := by
  have hW := Aside0.mk h.2.1
  have H := Aside0.mk h
  have HL := Aside0.mk hl
  clear h hl
  go_enter Try.func71, Try.ntmps71
  go_wp2_with fail
  refine (tell_calls S b g M 3 (w.alloc _) (H.out.step (below_alloc (Below.refl _ _) _)) HL.out).mono ?_
  rintro e w2 ⟨rfl, S1, h1, hm1, hk1, hb1⟩
  have HK1 := Aside0.mk hk1
  have HB1 := Aside0.mk hb1
  have H1 := Aside0.mk h1
  obtain ⟨i1, i2, Sr, gr, vt, va, vb, hm⟩ := hm1
  obtain ⟨c0, c1, c2, c3, c4, c5, c6, c7⟩ := hm.cells
  have f3 := hm.frozen 3
  have HM := Aside0.mk hm
  have HI := Aside0.mk i2
  clear hm i1 i2 hk1 hb1 h1
  go_wp2_with fail
  all_goals go_ret
  all_goals exact ⟨rfl, Goes.from_ (below_alloc (Below.refl _ _) _) hW.out (Goes.then_ H1.out HK1.out HB1.out (Goes.of (HM.out.fld 3 (.iface 66 (.agg #[])) (setSt (tellM M 3) 66) rfl rfl rfl rfl).up HI.out ((Kept.refl _ _).setCell (.inl HM.out.1) _) (Below.setCell (Below.refl b _) HM.out.2.1 _)))⟩
set_option maxRecDepth 100000 in
theorem bound_query_calls (S : Nat → Prop) (b g : Nat) (M : MSt) (tx : ByteArray) (w : World) (h : MX S b w g M) (hl : M.told.length ≤ 1000000000) :
    Calls Try.prog 72 #[.agg #[], .pointer (some ⟨g, 0, none⟩), .string tx] w fun e w' => e = .returned (.int .i64 2) ∧ Goes S b w g w' (sentM M tx) := by
  have hW := Aside0.mk h.2.1
  obtain ⟨h1, h2, Sr, gr, vt, va, vb, hm⟩ := h.step (below_alloc (Below.refl w.heap.size w) (.cells #[] 76))
  obtain ⟨w1, hw1⟩ : ∃ w1, w1 = w.alloc (.cells #[] 76) := ⟨_, rfl⟩
  rw [← hw1] at hm h2
  obtain ⟨c0, c1, c2, c3, c4, c5, c6, c7⟩ := hm.cells
  have f4 := hm.frozen 4
  have f5 := hm.frozen 5
  have f6 := hm.frozen 6
  have HM := Aside0.mk hm
  have HI := Aside0.mk h2
  have HW1 := Aside0.mk hw1
  have hal : w.alloc (.cells #[] 76) = w1 := hw1.symm
  clear hm h1 h2 hw1
  have H := Aside0.mk h
  have HL := Aside0.mk hl
  clear h hl
  go_enter Try.func72, Try.ntmps72
  go_wp2_with fail
  all_goals go_ret
  all_goals exact ⟨rfl, Goes.from_ (w1 := w1) (by rw [HW1.out]; exact below_alloc (Below.refl _ _) _) hW.out (Goes.of (((HM.out.fld 4 (.int .i64 3) { M with wd := 3 } rfl rfl rfl rfl).fld 5 (.bool false) { M with wd := 3, alone := false } rfl rfl rfl rfl).fld 6 (.string tx) (sentM M tx) rfl rfl rfl rfl).up HI.out ((((Kept.refl _ S).setCell (.inl HM.out.1) _).setCell (.inl HM.out.1) _).setCell (.inl HM.out.1) _) (Below.setCell (Below.setCell (Below.setCell (Below.refl b _) HM.out.2.1 _) HM.out.2.1 _) HM.out.2.1 _))⟩
set_option maxRecDepth 100000 in
theorem dead_bad_calls (S : Nat → Prop) (b g : Nat) (M : MSt) (w : World) (h : MX S b w g M) (hl : M.told.length ≤ 1000000000) :
    Calls Try.prog 73 #[.agg #[], .pointer (some ⟨g, 0, none⟩)] w fun e w' => e = .returned (.int .i64 0) ∧ Goes S b w g w' (hangM (tellM M 8)) := by
  have hW := Aside0.mk h.2.1
  have H := Aside0.mk h
  have HL := Aside0.mk hl
  clear h hl
  go_enter Try.func73, Try.ntmps73
  go_wp2_with fail
  refine (close_calls S b g M 0 (w.alloc _) (H.out.step (below_alloc (Below.refl _ _) _)) HL.out).mono ?_
  rintro e w2 ⟨rfl, hg⟩
  have HG := Aside0.mk hg
  clear hg
  go_wp2_with fail
  go_ret
  exact ⟨rfl, Goes.from_ (below_alloc (Below.refl _ _) _) hW.out HG.out⟩
set_option maxRecDepth 100000 in
theorem dead_end_calls (S : Nat → Prop) (b g : Nat) (M : MSt) (w : World) (h : MX S b w g M) (hl : M.told.length ≤ 1000000000) :
    Calls Try.prog 75 #[.agg #[], .pointer (some ⟨g, 0, none⟩)] w fun e w' => e = .returned (.int .i64 0) ∧ Goes S b w g w' (setSt (tellM M 6) 66) := by
  have hW := Aside0.mk h.2.1
  have H := Aside0.mk h
  have HL := Aside0.mk hl
  clear h hl
  go_enter Try.func75, Try.ntmps75
  go_wp2_with fail
  refine (tell_calls S b g M 6 (w.alloc _) (H.out.step (below_alloc (Below.refl _ _) _)) HL.out).mono ?_
  rintro e w2 ⟨rfl, S1, h1, hm1, hk1, hb1⟩
  have HK1 := Aside0.mk hk1
  have HB1 := Aside0.mk hb1
  have H1 := Aside0.mk h1
  obtain ⟨i1, i2, Sr, gr, vt, va, vb, hm⟩ := hm1
  obtain ⟨c0, c1, c2, c3, c4, c5, c6, c7⟩ := hm.cells
  have f3 := hm.frozen 3
  have HM := Aside0.mk hm
  have HI := Aside0.mk i2
  clear hm i1 i2 hk1 hb1 h1
  go_wp2_with fail
  all_goals go_ret
  all_goals exact ⟨rfl, Goes.from_ (below_alloc (Below.refl _ _) _) hW.out (Goes.then_ H1.out HK1.out HB1.out (Goes.of (HM.out.fld 3 (.iface 66 (.agg #[])) (setSt (tellM M 6) 66) rfl rfl rfl rfl).up HI.out ((Kept.refl _ _).setCell (.inl HM.out.1) _) (Below.setCell (Below.refl b _) HM.out.2.1 _)))⟩
set_option maxRecDepth 100000 in
theorem dead_begin_calls (S : Nat → Prop) (b g : Nat) (M : MSt) (w : World) (h : MX S b w g M) (hl : M.told.length ≤ 1000000000) :
    Calls Try.prog 74 #[.agg #[], .pointer (some ⟨g, 0, none⟩)] w fun e w' => e = .returned (.int .i64 0) ∧ Goes S b w g w' (setSt (tellM M 6) 66) := by
  have hW := Aside0.mk h.2.1
  have H := Aside0.mk h
  have HL := Aside0.mk hl
  clear h hl
  go_enter Try.func74, Try.ntmps74
  go_wp2_with fail
  refine (dead_end_calls S b g M (w.alloc _) (H.out.step (below_alloc (Below.refl _ _) _)) HL.out).mono ?_
  rintro e w2 ⟨rfl, hg⟩
  have HG := Aside0.mk hg
  clear hg
  go_wp2_with fail
  go_ret
  exact ⟨rfl, Goes.from_ (below_alloc (Below.refl _ _) _) hW.out HG.out⟩
set_option maxRecDepth 100000 in
theorem dead_query_calls (S : Nat → Prop) (b g : Nat) (M : MSt) (tx : ByteArray) (w : World) (h : MX S b w g M) (hl : M.told.length ≤ 1000000000) :
    Calls Try.prog 76 #[.agg #[], .pointer (some ⟨g, 0, none⟩), .string tx] w fun e w' => e = .returned (.int .i64 0) ∧ Goes S b w g w' (setSt (tellM M 6) 66) := by
  have hW := Aside0.mk h.2.1
  have H := Aside0.mk h
  have HL := Aside0.mk hl
  clear h hl
  go_enter Try.func76, Try.ntmps76
  go_wp2_with fail
  refine (dead_end_calls S b g M (w.alloc _) (H.out.step (below_alloc (Below.refl _ _) _)) HL.out).mono ?_
  rintro e w2 ⟨rfl, hg⟩
  have HG := Aside0.mk hg
  clear hg
  go_wp2_with fail
  go_ret
  exact ⟨rfl, Goes.from_ (below_alloc (Below.refl _ _) _) hW.out HG.out⟩
end Go.Proofs.Ythjjblnkaikmlaa.Mx
