/- The reader of package stream, walked: what each of its functions does to the state that it keeps. -/
import Derived.Test.YthjjblnkaikmlaaPMuxOncex2
import Derived.Test.YthjjblnkaikmlaaPMuxOncex3
import Derived.Test.YthjjblnkaikmlaaWKept
import Derived.Outline
import Derived.WalkSpells
import Derived.OpenShut
import Derived.Lib.Bytes
import Derived.Lib.SlBytesConst
import Derived.Lib.ConvBytes
import Derived.Deep.AppendLies
import Derived.Deep.RegionLaw
import Derived.StillTailTactics
namespace Go.Proofs.Ythjjblnkaikmlaa.St
open Go.RowKit Go.Proofs.Ythjjblnkaikmlaa.PMuxOnce Go.Proofs.YthjjblnkaikmlaaW.PrintWords Go.Proofs.YthjjblnkaikmlaaW.PrintLast Go.Proofs.YthjjblnkaikmlaaW.PrintMore
set_option linter.unusedVariables false
set_option linter.unusedSimpArgs false
theorem info5 : (Try.prog.info? 5).map (fun i => (i.zero, i.size, i.bytes)) = some (some (.int .u8 0), 1, 1) := by kernel_rfl
/-- A reader at block g: where it stands, what it lacks, its text and its frames, rows of its own. -/
def Rdr (S : Nat → Prop) (b bo : Nat) (w : World) (g : Nat) (at_ lacks : Int) (vt vo : Value) (text : List Int) (out : List S44) : Prop :=
  S g ∧ b ≤ g ∧ w.heap[g]? = some (.cells #[.int .i64 at_, .int .i64 lacks, vt, vo] 86 (0, 0)) ∧ Kd.R (Kd.int .u8) 5 w b S vt text ∧ Kd.R k44 44 w bo S vo out
section
variable {S S' : Nat → Prop} {b bo g : Nat} {w w1 : World} {at_ lacks : Int} {vt vo v1 : Value} {text : List Int} {out : List S44}
theorem R_apart {α β : Type} {d : Kd α} {d2 : Kd β} {e e2 : Nat} {S2 : Nat → Prop} {b2 : Nat} {v v2 : Value} {xs : List α} {ys : List β} (h : d.R e w b S v xs) (h2 : d2.R e2 w b2 S2 v2 ys) (ht : ∀ q, q ∈ e :: d.E → q ≠ e2) : d.R e w b (fun k => S k ∧ some k ≠ v2.ownBlock) v xs :=
  Kd.R_mono (Kd.R_bound h) fun k hk => ⟨hk.1, fun he => by
    obtain ⟨inner, ho⟩ := Kd.R_own h2
    obtain ⟨cs, hc⟩ := own_typed ho k he.symm
    obtain ⟨_, _, _, q, hq, cs', hc'⟩ := hk
    rw [hc] at hc'
    injection hc' with hc'
    injection hc' with _ hc'
    exact ht q hq hc'.symm⟩
theorem Rdr.mono (h : Rdr S b bo w g at_ lacks vt vo text out) (hs : ∀ k, S k → S' k) : Rdr S' b bo w g at_ lacks vt vo text out :=
  ⟨hs _ h.1, h.2.1, h.2.2.1, Kd.R_mono h.2.2.2.1 hs, Kd.R_mono h.2.2.2.2 hs⟩
theorem Rdr.step (h : Rdr S b bo w g at_ lacks vt vo text out) (hb : ∀ k, S k → k < w.heap.size → w1.heap[k]? = w.heap[k]?) : Rdr S b bo w1 g at_ lacks vt vo text out :=
  ⟨h.1, h.2.1, (hb g h.1 (blk_lt h.2.2.1)).trans h.2.2.1, Kd.R_step h.2.2.2.1 hb, Kd.R_step h.2.2.2.2 hb⟩
theorem Rdr.set0 (h : Rdr S b bo w g at_ lacks vt vo text out) (x : Int) : Rdr S b bo (w.setCell ⟨g, 0, none⟩ (.int .i64 x)) g x lacks vt vo text out :=
  ⟨h.1, h.2.1, by simpa using blk_set h.2.2.1 0 (.int .i64 x), Kd.R_set h.2.2.2.1 h.2.2.1 (by decide) _ _, Kd.R_set h.2.2.2.2 h.2.2.1 (by decide) _ _⟩
theorem Rdr.set1 (h : Rdr S b bo w g at_ lacks vt vo text out) (x : Int) : Rdr S b bo (w.setCell ⟨g, 1, none⟩ (.int .i64 x)) g at_ x vt vo text out :=
  ⟨h.1, h.2.1, by simpa using blk_set h.2.2.1 1 (.int .i64 x), Kd.R_set h.2.2.2.1 h.2.2.1 (by decide) _ _, Kd.R_set h.2.2.2.2 h.2.2.1 (by decide) _ _⟩
theorem Rdr.set2 (h : Rdr S b bo w g at_ lacks vt vo text out) : Rdr S b bo (w.setCell ⟨g, 2, none⟩ (.slice none 0 0)) g at_ lacks (.slice none 0 0) vo [] out :=
  ⟨h.1, h.2.1, by simpa using blk_set h.2.2.1 2 (.slice none 0 0), Kd.R_nil _ _ _ _ _, Kd.R_set h.2.2.2.2 h.2.2.1 (by decide) _ _⟩
theorem Rdr.set3 (h : Rdr S b bo w g at_ lacks vt vo text out) : Rdr S b bo (w.setCell ⟨g, 3, none⟩ (.slice none 0 0)) g at_ lacks vt (.slice none 0 0) text [] :=
  ⟨h.1, h.2.1, by simpa using blk_set h.2.2.1 3 (.slice none 0 0), Kd.R_set h.2.2.2.1 h.2.2.1 (by decide) _ _, Kd.R_nil _ _ _ _ _⟩
/-- The frames have grown: another row stands in the field. -/
theorem Rdr.grow3 {out' : List S44} (h : Rdr S b bo w g at_ lacks vt vo text out) (hg : w.grownBy w1 vo.ownBlock) (ho : Kd.R k44 44 w1 bo S v1 out') : Rdr S b bo (w1.setCell ⟨g, 3, none⟩ v1) g at_ lacks vt v1 text out' := by
  have hne := Kd.R_ne h.2.2.2.2 h.2.2.1 (by decide)
  have hb : w1.heap[g]? = some (.cells #[.int .i64 at_, .int .i64 lacks, vt, vo] 86 (0, 0)) := (hg.block g (blk_lt h.2.2.1) hne).trans h.2.2.1
  have ht := Kd.R_mono (Kd.R_grown (R_apart h.2.2.2.1 h.2.2.2.2 (by decide)) hg (fun k hk => hk.2)) (fun k hk => hk.1)
  exact ⟨h.1, h.2.1, by simpa using blk_set hb 3 v1, Kd.R_set ht hb (by decide) _ _, Kd.R_set ho hb (by decide) _ _⟩
theorem Rdr.grow2 {text' : List Int} (h : Rdr S b bo w g at_ lacks vt vo text out) (hg : w.grownBy w1 vt.ownBlock) (ho : Kd.R (Kd.int .u8) 5 w1 b S v1 text') : Rdr S b bo (w1.setCell ⟨g, 2, none⟩ v1) g at_ lacks v1 vo text' out := by
  have hne := Kd.R_ne h.2.2.2.1 h.2.2.1 (by decide)
  have hb : w1.heap[g]? = some (.cells #[.int .i64 at_, .int .i64 lacks, vt, vo] 86 (0, 0)) := (hg.block g (blk_lt h.2.2.1) hne).trans h.2.2.1
  have ht := Kd.R_mono (Kd.R_grown (R_apart h.2.2.2.2 h.2.2.2.1 (by decide)) hg (fun k hk => hk.2)) (fun k hk => hk.1)
  exact ⟨h.1, h.2.1, by simpa using blk_set hb 2 v1, Kd.R_set ho hb (by decide) _ _, Kd.R_set ht hb (by decide) _ _⟩
theorem Rdr.cells (h : Rdr S b bo w g at_ lacks vt vo text out) : w.cell? ⟨g, 0, none⟩ = some (.int .i64 at_) ∧ w.cell? ⟨g, 1, none⟩ = some (.int .i64 lacks) ∧ w.cell? ⟨g, 2, none⟩ = some vt ∧ w.cell? ⟨g, 3, none⟩ = some vo :=
  ⟨(blk_cell h.2.2.1 0).trans rfl, (blk_cell h.2.2.1 1).trans rfl, (blk_cell h.2.2.1 2).trans rfl, (blk_cell h.2.2.1 3).trans rfl⟩
end
/-- The frames are told, the field is emptied: the row is apart from what the reader keeps. -/
theorem told {S : Nat → Prop} {b bo g : Nat} {w : World} {at_ lacks : Int} {vt vo : Value} {text : List Int} {out : List S44} (h : Rdr S b bo w g at_ lacks vt vo text out) (b2 : Nat) :
    ∃ S' : Nat → Prop, (∀ k, S' k → S k) ∧ (∀ k, S' k → k < (w.setCell ⟨g, 3, none⟩ (.slice none 0 0)).heap.size) ∧ Rdr S' b b2 (w.setCell ⟨g, 3, none⟩ (.slice none 0 0)) g at_ lacks vt (.slice none 0 0) text [] ∧ Kd.R k44 44 (w.setCell ⟨g, 3, none⟩ (.slice none 0 0)) bo (fun k => ¬ S' k) vo out := by
  have h3 := h.set3
  refine ⟨fun k => S k ∧ k < (w.setCell ⟨g, 3, none⟩ (.slice none 0 0)).heap.size ∧ ¬ ∃ cells, (w.setCell ⟨g, 3, none⟩ (.slice none 0 0)).heap[k]? = some (.cells cells 44 (0, 0)), fun k hk => hk.1, fun k hk => hk.2.1, ⟨⟨h.1, blk_lt h3.2.2.1, ?_⟩, h.2.1, h3.2.2.1, Kd.R_mono (Kd.R_bound h3.2.2.2.1) fun k hk => ⟨hk.1, hk.2.2.1, ?_⟩, Kd.R_nil _ _ _ _ _⟩, Kd.R_mono (Kd.R_bound (Kd.R_set h.2.2.2.2 h.2.2.1 (by decide) _ _)) fun k hk hn => hn.2.2 ?_⟩
  · rintro ⟨cells, hc⟩
    rw [h3.2.2.1] at hc
    injection hc with hc
    injection hc with _ hc
    exact absurd hc (by decide)
  · obtain ⟨_, _, _, q, hq, cs, hc⟩ := hk
    have hq5 : q = 5 := (by decide : ∀ q, q ∈ 5 :: (Kd.int .u8).E → q = 5) q hq
    rintro ⟨cells, hc'⟩
    rw [hc] at hc'
    injection hc' with hc'
    injection hc' with _ hc'
    rw [hq5] at hc'
    exact absurd hc' (by decide)
  · obtain ⟨_, _, _, q, hq, cs, hc⟩ := hk
    have hq64 : q = 44 := (by decide : ∀ q, q ∈ 44 :: k44.E → q = 44) q hq
    rw [hq64] at hc
    exact ⟨cs, hc⟩
set_option maxRecDepth 100000 in
theorem whole_calls (S : Nat → Prop) (b bo g : Nat) (at_ lacks : Int) (vt vo : Value) (text : List Int) (out : List S44) (w : World) (h : Rdr S b bo w g at_ lacks vt vo text out) (hbo : b ≤ bo) (hbw : bo ≤ w.heap.size) (hl : out.length ≤ 1000000000) :
    Calls Try.prog 47 #[.pointer (some ⟨g, 0, none⟩)] w fun e w' => e = .returned (.tuple #[]) ∧ ∃ vo', Rdr (fun k => S k ∨ w.heap.size ≤ k) b bo w' g 0 lacks vt vo' text (out ++ [⟨81, strOfNums text⟩]) ∧ Kept w w' S ∧ Below b w w' := by
  obtain ⟨hc0, hc1, hc2, hc3⟩ := h.cells
  have hf := blk_frozen h.2.2.1 3
  have hf0 := blk_frozen h.2.2.1 0
  obtain ⟨A, n, ev⟩ := Kd.R_slice h.2.2.2.1
  subst ev
  have HD : Aside0 (Rdr S b bo w.drew g at_ lacks (.slice A text.length n) vo text out) := ⟨h.step fun _ _ _ => rfl⟩
  have hcvD := Kd.C_string (P := Try.prog) (c := n) Try.underlying31 Try.underlying5 Try.underlying9 (Kd.R_reads' HD.out.2.2.2.1).2.2
  obtain ⟨x, hx⟩ : ∃ x, x = strOfNums text := ⟨_, rfl⟩
  rw [← hx] at hcvD ⊢
  have hca : ∀ o, (w.alloc o).cell? ⟨g, 3, none⟩ = some vo := fun o => (h.step fun k hk hl => (below_alloc (Below.refl w.heap.size w) o).block k hl).cells.2.2.2
  have H := Aside0.mk h
  have HL := Aside0.mk hl
  have HW := Aside0.mk hbw
  have HBo := Aside0.mk hbo
  clear h hl hbw hx hbo
  go_enter Try.func47, Try.ntmps47
  go_wp2_with fail
  go_region_law (refine Kd.R_append_step k44 (w0 := w.drew) (W := w.drew) bo rfl (.tmp 6) (.tmp 13) 22 44 (.agg #[(.int .u8 0), (.string ⟨#[]⟩)]) 24 rfl Try.underlying22 info44 rfl (by decide) (by omega) vo out (⟨81, x⟩ : S44) [.int .u8 81, .string x] (fun k => S k ∨ w.heap.size ≤ k) (fun _ => False) (by simp [Act.eval, Act.put]) (by simp [Act.eval, Act.put]) (k44_mkM _ _ _ (⟨81, x⟩ : S44)) (fun _ hk => hk.elim) (fun _ hk => .inr hk) (Kd.R_mono HD.out.2.2.2.2 (fun _ hk => .inl hk)) (Below.refl _ _) HW.out (by have := HL.out; omega) ?_; intro v1 w1 ho hb hg hat; obtain ⟨m1, A1, n1, e1⟩ : ∃ m1 A1 n1, v1 = Value.slice A1 m1 n1 := (by obtain ⟨A, c, e⟩ := Kd.R_slice ho; exact ⟨_, A, c, e⟩); subst e1; have HQ := Aside0.mk (Rdr.grow3 (HD.out.mono (S' := fun k => S k ∨ w.heap.size ≤ k) (fun _ hk => .inl hk)) hg ho); have hf1 : w1.frozen? ⟨g, 3, none⟩ = false := blk_frozen (blk_grown HD.out.2.2.1 hg (Kd.R_ne HD.out.2.2.2.2 HD.out.2.2.1 (by decide))) 3; have hd1 : w1.cell? ⟨g, 3, none⟩ = some vo := (blk_cell (blk_grown HD.out.2.2.1 hg (Kd.R_ne HD.out.2.2.2.2 HD.out.2.2.1 (by decide))) 3).trans rfl; have hf2 := blk_frozen HQ.out.2.2.1 0; have hd2 := HQ.out.cells.1; have HG := Aside0.mk hg; have HB := Aside0.mk hb; clear ho hb hg hat)
  all_goals go_wp2
  all_goals go_end0
  all_goals exact ⟨rfl, _, HQ.out.set0 0, (((Kept.of_grown HG.out (Kept.drew (Kept.refl w S)) (fun k hk => .inl (H.out.2.2.2.2.1 k hk))).setCell (.inl H.out.1) _).setCell (.inl H.out.1) _), Below.setCell (Below.setCell (((Below.refl b w).drew).trans (HB.out.mono HBo.out)) H.out.2.1 _) H.out.2.1 _⟩
set_option maxRecDepth 100000 in
theorem kind_calls (S : Nat → Prop) (b bo g : Nat) (at_ lacks : Int) (vt vo : Value) (text : List Int) (out : List S44) (c : Int) (w : World) (h : Rdr S b bo w g at_ lacks vt vo text out) (hbo : b ≤ bo) (hbw : bo ≤ w.heap.size) (hl : out.length ≤ 1000000000) (hc : c = 66 ∨ c = 69) :
    Calls Try.prog 43 #[.pointer (some ⟨g, 0, none⟩), .int .u8 c] w fun e w' => e = .returned (.tuple #[]) ∧ ∃ vo', Rdr (fun k => S k ∨ w.heap.size ≤ k) b bo w' g at_ lacks vt vo' text (out ++ [⟨c, ⟨#[]⟩⟩]) ∧ Kept w w' S ∧ Below b w w' := by
  obtain ⟨hc0, hc1, hc2, hc3⟩ := h.cells
  have hf := blk_frozen h.2.2.1 3
  have H := Aside0.mk h
  have HL := Aside0.mk hl
  have HW := Aside0.mk hbw
  have HBo := Aside0.mk hbo
  clear h hl hbw hbo
  go_enter Try.func43, Try.ntmps43
  rcases hc with rfl | rfl
  · go_wp2_with ((with_reducible refine gate_builtin (b := .append) (xs := #[.tmp 15, .tmp 18]) rfl ?_); at_builtin; refine Kd.R_append k44 (w0 := w) (W := w) bo rfl (.tmp 15) (.tmp 18) 22 44 (.agg #[(.int .u8 0), (.string ⟨#[]⟩)]) 24 rfl Try.underlying22 info44 rfl (by decide) (by omega) vo out (⟨66, ⟨#[]⟩⟩ : S44) [.int .u8 66, .string ⟨#[]⟩] (fun k => S k ∨ w.heap.size ≤ k) (fun _ => False) rfl rfl (k44_mkM _ _ _ (⟨66, ⟨#[]⟩⟩ : S44)) (fun _ hk => hk.elim) (fun _ hk => .inr hk) (Kd.R_mono H.out.2.2.2.2 (fun _ hk => .inl hk)) (Below.refl _ _) HW.out (by have := HL.out; omega) ?_; intro v1 w1 ho hb hg hat; obtain ⟨m1, A1, n1, e1⟩ : ∃ m1 A1 n1, v1 = Value.slice A1 m1 n1 := (by obtain ⟨A, c, e⟩ := Kd.R_slice ho; exact ⟨_, A, c, e⟩); subst e1; have HQ := Aside0.mk (Rdr.grow3 (H.out.mono (S' := fun k => S k ∨ w.heap.size ≤ k) (fun _ hk => .inl hk)) hg ho); have hf1 : w1.frozen? ⟨g, 3, none⟩ = false := blk_frozen (blk_grown H.out.2.2.1 hg (Kd.R_ne H.out.2.2.2.2 H.out.2.2.1 (by decide))) 3; have hd1 : w1.cell? ⟨g, 3, none⟩ = some vo := (blk_cell (blk_grown H.out.2.2.1 hg (Kd.R_ne H.out.2.2.2.2 H.out.2.2.1 (by decide))) 3).trans rfl; have hf2 := blk_frozen HQ.out.2.2.1 0; have hd2 := HQ.out.cells.1; have HG := Aside0.mk hg; have HB := Aside0.mk hb; clear ho hb hg hat)
    all_goals go_end0
    all_goals exact ⟨rfl, _, HQ.out, ((Kept.of_grown HG.out (Kept.refl w S) (fun k hk => .inl (H.out.2.2.2.2.1 k hk))).setCell (.inl H.out.1) _), Below.setCell (HB.out.mono HBo.out) H.out.2.1 _⟩
  · go_wp2_with ((with_reducible refine gate_builtin (b := .append) (xs := #[.tmp 15, .tmp 18]) rfl ?_); at_builtin; refine Kd.R_append k44 (w0 := w) (W := w) bo rfl (.tmp 15) (.tmp 18) 22 44 (.agg #[(.int .u8 0), (.string ⟨#[]⟩)]) 24 rfl Try.underlying22 info44 rfl (by decide) (by omega) vo out (⟨69, ⟨#[]⟩⟩ : S44) [.int .u8 69, .string ⟨#[]⟩] (fun k => S k ∨ w.heap.size ≤ k) (fun _ => False) rfl rfl (k44_mkM _ _ _ (⟨69, ⟨#[]⟩⟩ : S44)) (fun _ hk => hk.elim) (fun _ hk => .inr hk) (Kd.R_mono H.out.2.2.2.2 (fun _ hk => .inl hk)) (Below.refl _ _) HW.out (by have := HL.out; omega) ?_; intro v1 w1 ho hb hg hat; obtain ⟨m1, A1, n1, e1⟩ : ∃ m1 A1 n1, v1 = Value.slice A1 m1 n1 := (by obtain ⟨A, c, e⟩ := Kd.R_slice ho; exact ⟨_, A, c, e⟩); subst e1; have HQ := Aside0.mk (Rdr.grow3 (H.out.mono (S' := fun k => S k ∨ w.heap.size ≤ k) (fun _ hk => .inl hk)) hg ho); have hf1 : w1.frozen? ⟨g, 3, none⟩ = false := blk_frozen (blk_grown H.out.2.2.1 hg (Kd.R_ne H.out.2.2.2.2 H.out.2.2.1 (by decide))) 3; have hd1 : w1.cell? ⟨g, 3, none⟩ = some vo := (blk_cell (blk_grown H.out.2.2.1 hg (Kd.R_ne H.out.2.2.2.2 H.out.2.2.1 (by decide))) 3).trans rfl; have hf2 := blk_frozen HQ.out.2.2.1 0; have hd2 := HQ.out.cells.1; have HG := Aside0.mk hg; have HB := Aside0.mk hb; clear ho hb hg hat)
    all_goals go_end0
    all_goals exact ⟨rfl, _, HQ.out, ((Kept.of_grown HG.out (Kept.refl w S) (fun k hk => .inl (H.out.2.2.2.2.1 k hk))).setCell (.inl H.out.1) _), Below.setCell (HB.out.mono HBo.out) H.out.2.1 _⟩
set_option maxRecDepth 100000 in
theorem kind_other (S : Nat → Prop) (b bo g : Nat) (at_ lacks : Int) (vt vo : Value) (text : List Int) (out : List S44) (c : Int) (w : World) (h : Rdr S b bo w g at_ lacks vt vo text out) (h1 : c ≠ 66) (h2 : c ≠ 69) :
    Calls Try.prog 43 #[.pointer (some ⟨g, 0, none⟩), .int .u8 c] w fun e w' => e = .returned (.tuple #[]) ∧ Rdr S b bo w' g (if c = 81 then 1 else 3) lacks vt vo text out ∧ Kept w w' S ∧ Below b w w' := by
  obtain ⟨hc0, hc1, hc2, hc3⟩ := h.cells
  have hf := blk_frozen h.2.2.1 0
  have H := Aside0.mk h
  have c1 : (c == 66) = false := beq_eq_false_iff_ne.2 h1
  have c2 : (c == 69) = false := beq_eq_false_iff_ne.2 h2
  clear h
  go_enter Try.func43, Try.ntmps43
  by_cases c3 : c = 81
  · subst c3
    go_wp2_with fail
    all_goals go_end0
    all_goals exact ⟨rfl, H.out.set0 1, (Kept.refl w S).setCell (.inl H.out.1) _, Below.setCell (Below.refl b w) H.out.2.1 _⟩
  · have c4 : (c == 81) = false := beq_eq_false_iff_ne.2 c3
    rw [if_neg c3]
    go_wp2_with fail
    all_goals go_end0
    all_goals exact ⟨rfl, H.out.set0 3, (Kept.refl w S).setCell (.inl H.out.1) _, Below.setCell (Below.refl b w) H.out.2.1 _⟩
set_option maxRecDepth 100000 in
theorem length_other (S : Nat → Prop) (b bo g : Nat) (at_ lacks : Int) (vt vo : Value) (text : List Int) (out : List S44) (c : Int) (w : World) (h : Rdr S b bo w g at_ lacks vt vo text out) (h0 : 0 < c) (h1 : c < 256) :
    Calls Try.prog 44 #[.pointer (some ⟨g, 0, none⟩), .int .u8 c] w fun e w' => e = .returned (.tuple #[]) ∧ Rdr S b bo w' g (if 48 < c then 3 else 2) c (.slice none 0 0) vo [] out ∧ Kept w w' S ∧ Below b w w' := by
  obtain ⟨hc0, hc1, hc2, hc3⟩ := h.cells
  have hf := blk_frozen h.2.2.1 0
  have hf1 := blk_frozen h.2.2.1 1
  have hf2 := blk_frozen h.2.2.1 2
  have H := Aside0.mk h
  have H1 := h.set1 c
  have H2 := H1.set2
  obtain ⟨ic0, ic1, ic2, ic3⟩ := H2.cells
  have if0 := blk_frozen H2.2.2.1 0
  have jc2 := H1.cells.2.2.1
  have jf2 := blk_frozen H1.2.2.1 2
  have H3 := Aside0.mk H2
  have e1 : IntKind.i64.wrap c = c := by rw [IntKind.wrap_i64]; omega
  have c0 : (c == 0) = false := beq_eq_false_iff_ne.2 (by omega)
  clear h H1 H2
  go_enter Try.func44, Try.ntmps44
  by_cases c3 : 48 < c
  · rw [if_pos c3]
    go_wp2_with fail
    all_goals go_end0
    all_goals exact ⟨rfl, H3.out.set0 3, (((Kept.refl w S).setCell (.inl H.out.1) _).setCell (.inl H.out.1) _).setCell (.inl H.out.1) _, Below.setCell (Below.setCell (Below.setCell (Below.refl b w) H.out.2.1 _) H.out.2.1 _) H.out.2.1 _⟩
  · rw [if_neg c3]
    go_wp2_with fail
    all_goals go_end0
    all_goals exact ⟨rfl, H3.out.set0 2, (((Kept.refl w S).setCell (.inl H.out.1) _).setCell (.inl H.out.1) _).setCell (.inl H.out.1) _, Below.setCell (Below.setCell (Below.setCell (Below.refl b w) H.out.2.1 _) H.out.2.1 _) H.out.2.1 _⟩
set_option maxRecDepth 100000 in
theorem length_none (S : Nat → Prop) (b bo g : Nat) (at_ lacks : Int) (vt vo : Value) (text : List Int) (out : List S44) (w : World) (h : Rdr S b bo w g at_ lacks vt vo text out) (hbo : b ≤ bo) (hbw : bo ≤ w.heap.size) (hl : out.length ≤ 1000000000) :
    Calls Try.prog 44 #[.pointer (some ⟨g, 0, none⟩), .int .u8 0] w fun e w' => e = .returned (.tuple #[]) ∧ ∃ vo', Rdr (fun k => S k ∨ w.heap.size ≤ k) b bo w' g 0 0 (.slice none 0 0) vo' [] (out ++ [⟨81, strOfNums []⟩]) ∧ Kept w w' S ∧ Below b w w' := by
  obtain ⟨hc0, hc1, hc2, hc3⟩ := h.cells
  have hf := blk_frozen h.2.2.1 0
  have hf1 := blk_frozen h.2.2.1 1
  have hf2 := blk_frozen h.2.2.1 2
  have H := Aside0.mk h
  have H1 := h.set1 0
  have H2 := H1.set2
  obtain ⟨ic0, ic1, ic2, ic3⟩ := H2.cells
  have if0 := blk_frozen H2.2.2.1 0
  have jc2 := H1.cells.2.2.1
  have jf2 := blk_frozen H1.2.2.1 2
  have H3 := Aside0.mk H2
  have HK := Aside0.mk (((Kept.refl w S).setCell (p := ⟨g, 1, none⟩) (.inl H.out.1) (.int .i64 0)).setCell (p := ⟨g, 2, none⟩) (.inl H.out.1) (.slice none 0 0))
  have HB := Aside0.mk (Below.setCell (p := ⟨g, 2, none⟩) (Below.setCell (p := ⟨g, 1, none⟩) (Below.refl b w) H.out.2.1 (.int .i64 0)) H.out.2.1 (.slice none 0 0))
  have HZ : Aside0 (((w.setCell ⟨g, 1, none⟩ (.int .i64 0)).setCell ⟨g, 2, none⟩ (.slice none 0 0)).heap.size = w.heap.size) := ⟨by simp [World.setCell]⟩
  have HW := Aside0.mk hbw
  have HL := Aside0.mk hl
  have HBo := Aside0.mk hbo
  clear h H1 H2 hbw hl hbo
  go_enter Try.func44, Try.ntmps44
  go_wp2_with fail
  generalize (w.setCell ⟨g, 1, none⟩ (.int .i64 0)).setCell ⟨g, 2, none⟩ (.slice none 0 0) = w2 at *
  refine (whole_calls S b bo g at_ 0 _ vo [] out w2 H3.out HBo.out (by rw [HZ.out]; exact HW.out) HL.out).mono ?_
  rintro e w3 ⟨rfl, vo', h3, hk3, hb3⟩
  rw [HZ.out] at h3
  have H4 := Aside0.mk h3
  have HK4 := Aside0.mk (HK.out.then_ hk3 (fun _ hk => .inl hk))
  have HB4 := Aside0.mk (HB.out.trans hb3)
  clear h3 hk3 hb3
  go_wp2_with fail
  go_end0
  exact ⟨rfl, vo', H4.out, HK4.out, HB4.out⟩
set_option maxRecDepth 100000 in
theorem next_more (S : Nat → Prop) (b bo g : Nat) (at_ lacks : Int) (vt vo : Value) (text : List Int) (out : List S44) (c : Int) (w : World) (h : Rdr S b bo w g at_ lacks vt vo text out) (hbw : b ≤ w.heap.size) (hl : text.length ≤ 1000000000) (h0 : 1 < lacks) (h1 : lacks < 256) :
    Calls Try.prog 45 #[.pointer (some ⟨g, 0, none⟩), .int .u8 c] w fun e w' => e = .returned (.tuple #[]) ∧ ∃ vt', Rdr (fun k => S k ∨ w.heap.size ≤ k) b bo w' g at_ (lacks - 1) vt' vo (text ++ [c]) out ∧ Kept w w' S ∧ Below b w w' := by
  obtain ⟨hc0, hc1, hc2, hc3⟩ := h.cells
  have hf := blk_frozen h.2.2.1 2
  have H := Aside0.mk h
  have HL := Aside0.mk hl
  have HW := Aside0.mk hbw
  have e1 : wrap64 (lacks - 1) = lacks - 1 := by unfold wrap64; omega
  have e2 : IntKind.i64.wrap (lacks - 1) = lacks - 1 := by rw [IntKind.wrap_i64]; omega
  have c0 : (lacks - 1 == 0) = false := beq_eq_false_iff_ne.2 (by omega)
  clear h hl hbw
  go_enter Try.func45, Try.ntmps45
  go_wp2_with ((with_reducible refine gate_builtin (b := .append) (xs := #[.tmp 8, .tmp 10]) rfl ?_); at_builtin; refine Kd.R_append (Kd.int .u8) (w0 := w) (W := w) b rfl (.tmp 8) (.tmp 10) 31 5 (.int .u8 0) 1 rfl Try.underlying31 info5 rfl (by decide) (by omega) vt text c [.int .u8 c] (fun k => S k ∨ w.heap.size ≤ k) (fun _ => False) rfl rfl rfl (fun _ hk => hk.elim) (fun _ hk => .inr hk) (Kd.R_mono H.out.2.2.2.1 (fun _ hk => .inl hk)) (Below.refl _ _) HW.out (by have := HL.out; omega) ?_; intro v1 w1 ho hb hg hat; obtain ⟨m1, A1, n1, e1⟩ : ∃ m1 A1 n1, v1 = Value.slice A1 m1 n1 := (by obtain ⟨A, c, e⟩ := Kd.R_slice ho; exact ⟨_, A, c, e⟩); subst e1; have HQ := Aside0.mk (Rdr.grow2 (H.out.mono (S' := fun k => S k ∨ w.heap.size ≤ k) (fun _ hk => .inl hk)) hg ho); have hf1 : w1.frozen? ⟨g, 2, none⟩ = false := blk_frozen (blk_grown H.out.2.2.1 hg (Kd.R_ne H.out.2.2.2.1 H.out.2.2.1 (by decide))) 2; have hd1 : w1.cell? ⟨g, 2, none⟩ = some vt := (blk_cell (blk_grown H.out.2.2.1 hg (Kd.R_ne H.out.2.2.2.1 H.out.2.2.1 (by decide))) 2).trans rfl; have hf2 := blk_frozen HQ.out.2.2.1 1; have hd2 := HQ.out.cells.2.1; have hf3 := blk_frozen HQ.out.2.2.1 0; have hz1 := (HQ.out.set1 (lacks - 1)).cells.2.1; have HG := Aside0.mk hg; have HB := Aside0.mk hb; clear ho hb hg hat)
  all_goals go_end0
  all_goals exact ⟨rfl, _, HQ.out.set1 (lacks - 1), ((Kept.of_grown HG.out (Kept.refl w S) (fun k hk => .inl (H.out.2.2.2.1.1 k hk))).setCell (.inl H.out.1) _).setCell (.inl H.out.1) _, Below.setCell (Below.setCell HB.out H.out.2.1 _) H.out.2.1 _⟩
set_option maxRecDepth 100000 in
theorem next_last (S : Nat → Prop) (b bo g : Nat) (at_ : Int) (vt vo : Value) (text : List Int) (out : List S44) (c : Int) (w : World) (h : Rdr S b bo w g at_ 1 vt vo text out) (hbo : b ≤ bo) (hbw : b ≤ w.heap.size) (hbow : bo ≤ w.heap.size) (hl : text.length ≤ 1000000000) (hlo : out.length ≤ 1000000000) :
    Calls Try.prog 45 #[.pointer (some ⟨g, 0, none⟩), .int .u8 c] w fun e w' => e = .returned (.tuple #[]) ∧ ∃ vt' vo', Rdr (fun k => S k ∨ w.heap.size ≤ k) b bo w' g 0 0 vt' vo' (text ++ [c]) (out ++ [⟨81, strOfNums (text ++ [c])⟩]) ∧ Kept w w' S ∧ Below b w w' := by
  obtain ⟨lacks, el⟩ : ∃ n : Int, n = 1 := ⟨_, rfl⟩
  rw [← el] at h
  obtain ⟨hc0, hc1, hc2, hc3⟩ := h.cells
  have hf := blk_frozen h.2.2.1 2
  have H := Aside0.mk h
  have HL := Aside0.mk hl
  have HLo := Aside0.mk hlo
  have HW := Aside0.mk hbw
  have HWo := Aside0.mk hbow
  have HBo := Aside0.mk hbo
  have e1 : wrap64 (lacks - 1) = lacks - 1 := by unfold wrap64; omega
  have e2 : IntKind.i64.wrap (lacks - 1) = lacks - 1 := by rw [IntKind.wrap_i64]; omega
  have c0 : (lacks - 1 == 0) = true := beq_iff_eq.2 (by omega)
  have El := Aside0.mk el
  clear h hl hbw hlo hbow hbo el
  go_enter Try.func45, Try.ntmps45
  go_wp2_with ((with_reducible refine gate_builtin (b := .append) (xs := #[.tmp 8, .tmp 10]) rfl ?_); at_builtin; refine Kd.R_append (Kd.int .u8) (w0 := w) (W := w) b rfl (.tmp 8) (.tmp 10) 31 5 (.int .u8 0) 1 rfl Try.underlying31 info5 rfl (by decide) (by omega) vt text c [.int .u8 c] (fun k => S k ∨ w.heap.size ≤ k) (fun _ => False) rfl rfl rfl (fun _ hk => hk.elim) (fun _ hk => .inr hk) (Kd.R_mono H.out.2.2.2.1 (fun _ hk => .inl hk)) (Below.refl _ _) HW.out (by have := HL.out; omega) ?_; intro v1 w1 ho hb hg hat; obtain ⟨m1, A1, n1, e1⟩ : ∃ m1 A1 n1, v1 = Value.slice A1 m1 n1 := (by obtain ⟨A, c, e⟩ := Kd.R_slice ho; exact ⟨_, A, c, e⟩); subst e1; have HQ := Aside0.mk (Rdr.grow2 (H.out.mono (S' := fun k => S k ∨ w.heap.size ≤ k) (fun _ hk => .inl hk)) hg ho); have hf1 : w1.frozen? ⟨g, 2, none⟩ = false := blk_frozen (blk_grown H.out.2.2.1 hg (Kd.R_ne H.out.2.2.2.1 H.out.2.2.1 (by decide))) 2; have hd1 : w1.cell? ⟨g, 2, none⟩ = some vt := (blk_cell (blk_grown H.out.2.2.1 hg (Kd.R_ne H.out.2.2.2.1 H.out.2.2.1 (by decide))) 2).trans rfl; have hf2 := blk_frozen HQ.out.2.2.1 1; have hd2 := HQ.out.cells.2.1; have hf3 := blk_frozen HQ.out.2.2.1 0; have hz1 := (HQ.out.set1 (lacks - 1)).cells.2.1; have HG := Aside0.mk hg; have HB := Aside0.mk hb; clear ho hb hg hat)
  have hs1 := HG.out.size
  have HK1 := Aside0.mk (((Kept.of_grown HG.out (Kept.refl w S) (fun k hk => .inl (H.out.2.2.2.1.1 k hk))).setCell (p := ⟨g, 2, none⟩) (.inl H.out.1) (Value.slice A1 m1 n1)).setCell (p := ⟨g, 1, none⟩) (.inl H.out.1) (.int .i64 (lacks - 1)))
  have HB1 := Aside0.mk (Below.setCell (p := ⟨g, 1, none⟩) (Below.setCell (p := ⟨g, 2, none⟩) HB.out H.out.2.1 (Value.slice A1 m1 n1)) H.out.2.1 (.int .i64 (lacks - 1)))
  have HQ1 := Aside0.mk (HQ.out.set1 (lacks - 1))
  clear hs1 hd1 hd2 hf1 hf2 hf3 hz1 HB HG HQ
  generalize (w1.setCell ⟨g, 2, none⟩ (Value.slice A1 m1 n1)).setCell ⟨g, 1, none⟩ (.int .i64 (lacks - 1)) = w2 at *
  refine (whole_calls (fun k => S k ∨ w.heap.size ≤ k) b bo g at_ (lacks - 1) _ vo (text ++ [c]) out w2 HQ1.out HBo.out (Nat.le_trans HWo.out HK1.out.1) HLo.out).mono ?_
  rintro e w3 ⟨rfl, vo', h3, hk3, hb3⟩
  have H4 := Aside0.mk (h3.mono (S' := fun k => S k ∨ w.heap.size ≤ k) (fun k hk => hk.elim id (fun hk => .inr (Nat.le_trans HK1.out.1 hk))))
  have HK4 := Aside0.mk (HK1.out.then_ hk3 (fun _ hk => hk))
  have HB4 := Aside0.mk (HB1.out.trans hb3)
  clear h3 hk3 hb3
  go_wp2_with fail
  go_end0
  have h5 := H4.out
  rw [El.out] at h5
  exact ⟨rfl, _, vo', h5, HK4.out, HB4.out⟩
structure RS where
  at_ : Int
  lacks : Int
  text : List Int
  out : List S44
def stepS (s : RS) (c : Int) : RS :=
  if s.at_ = 0 then (if c = 66 ∨ c = 69 then { s with out := s.out ++ [⟨c, ⟨#[]⟩⟩] } else { s with at_ := if c = 81 then 1 else 3 })
  else if s.at_ = 1 then (if c = 0 then ⟨0, 0, [], s.out ++ [⟨81, strOfNums []⟩]⟩ else ⟨if 48 < c then 3 else 2, c, [], s.out⟩)
  else if s.at_ = 2 then (if s.lacks = 1 then ⟨0, 0, s.text ++ [c], s.out ++ [⟨81, strOfNums (s.text ++ [c])⟩]⟩ else ⟨2, s.lacks - 1, s.text ++ [c], s.out⟩)
  else s
def okS (s : RS) : Prop := (s.at_ = 0 ∨ s.at_ = 1 ∨ s.at_ = 2 ∨ s.at_ = 3) ∧ (s.at_ = 2 → 1 ≤ s.lacks ∧ (s.text.length : Int) + s.lacks ≤ 48)
def runS (s : RS) (l : List Int) : RS := l.foldl stepS s
theorem step_ok {s : RS} (h : okS s) {c : Int} (h0 : 0 ≤ c) : okS (stepS s c) := by
  obtain ⟨ha, h2⟩ := h
  unfold stepS
  split
  · split
    · exact ⟨ha, h2⟩
    · refine ⟨?_, ?_⟩ <;> (simp only []; split <;> simp)
  · split
    · split
      · exact ⟨.inl rfl, by simp⟩
      · refine ⟨?_, ?_⟩
        · simp only []; split <;> simp
        · simp only []; split <;> simp <;> omega
    · split
      · rename_i a2
        have := h2 a2
        split
        · exact ⟨.inl rfl, by simp⟩
        · refine ⟨.inr (.inr (.inl rfl)), fun _ => ?_⟩
          simp only [List.length_append, List.length_cons, List.length_nil]
          omega
      · exact ⟨ha, h2⟩
theorem step_out (s : RS) (c : Int) : (stepS s c).out.length ≤ s.out.length + 1 := by
  unfold stepS
  repeat' split
  all_goals simp
theorem run_snoc (s : RS) (l : List Int) (i : Nat) (h : i < l.length) : runS s (l.take (i + 1)) = stepS (runS s (l.take i)) (rdOf 0 l (i : Int)) := by
  unfold runS
  rw [List.take_succ_eq_append_getElem h, List.foldl_append]
  simp [rdOf, List.getD_eq_getElem?_getD, List.getElem?_eq_getElem h]
abbrev RdrS (S : Nat → Prop) (b bo : Nat) (w : World) (g : Nat) (s : RS) (vt vo : Value) : Prop := Rdr S b bo w g s.at_ s.lacks vt vo s.text s.out
theorem kind_step (S : Nat → Prop) (b bo g : Nat) (s : RS) (vt vo : Value) (c : Int) (w : World) (h : RdrS S b bo w g s vt vo) (hbo : b ≤ bo) (hbw : bo ≤ w.heap.size) (hl : s.out.length ≤ 1000000000) (ha : s.at_ = 0) :
    Calls Try.prog 43 #[.pointer (some ⟨g, 0, none⟩), .int .u8 c] w fun e w' => e = .returned (.tuple #[]) ∧ ∃ vt' vo', RdrS (fun k => S k ∨ w.heap.size ≤ k) b bo w' g (stepS s c) vt' vo' ∧ Kept w w' S ∧ Below b w w' := by
  unfold stepS
  rw [if_pos ha]
  by_cases hc : c = 66 ∨ c = 69
  · rw [if_pos hc]
    exact (kind_calls S b bo g _ _ vt vo s.text s.out c w h hbo hbw hl hc).mono fun e w' ⟨he, vo', h1, h2⟩ => ⟨he, vt, vo', h1, h2⟩
  · rw [if_neg hc]
    exact (kind_other S b bo g _ _ vt vo s.text s.out c w h (fun e => hc (.inl e)) (fun e => hc (.inr e))).mono fun e w' ⟨he, h1, h2⟩ => ⟨he, vt, vo, h1.mono fun _ hk => .inl hk, h2⟩
theorem length_step (S : Nat → Prop) (b bo g : Nat) (s : RS) (vt vo : Value) (c : Int) (w : World) (h : RdrS S b bo w g s vt vo) (hbo : b ≤ bo) (hbw : bo ≤ w.heap.size) (hl : s.out.length ≤ 1000000000) (ha : s.at_ = 1) (h0 : 0 ≤ c) (h1 : c < 256) :
    Calls Try.prog 44 #[.pointer (some ⟨g, 0, none⟩), .int .u8 c] w fun e w' => e = .returned (.tuple #[]) ∧ ∃ vt' vo', RdrS (fun k => S k ∨ w.heap.size ≤ k) b bo w' g (stepS s c) vt' vo' ∧ Kept w w' S ∧ Below b w w' := by
  unfold stepS
  rw [if_neg (by omega), if_pos ha]
  by_cases hc : c = 0
  · rw [if_pos hc]
    subst hc
    exact (length_none S b bo g _ _ vt vo s.text s.out w h hbo hbw hl).mono fun e w' ⟨he, vo', h1, h2⟩ => ⟨he, _, vo', h1, h2⟩
  · rw [if_neg hc]
    exact (length_other S b bo g _ _ vt vo s.text s.out c w h (by omega) h1).mono fun e w' ⟨he, h1, h2⟩ => ⟨he, _, vo, h1.mono fun _ hk => .inl hk, h2⟩
theorem next_step (S : Nat → Prop) (b bo g : Nat) (s : RS) (vt vo : Value) (c : Int) (w : World) (h : RdrS S b bo w g s vt vo) (hbo : b ≤ bo) (hbw : bo ≤ w.heap.size) (hl : s.out.length ≤ 1000000000) (ha : s.at_ = 2) (hok : okS s) :
    Calls Try.prog 45 #[.pointer (some ⟨g, 0, none⟩), .int .u8 c] w fun e w' => e = .returned (.tuple #[]) ∧ ∃ vt' vo', RdrS (fun k => S k ∨ w.heap.size ≤ k) b bo w' g (stepS s c) vt' vo' ∧ Kept w w' S ∧ Below b w w' := by
  have := hok.2 ha
  unfold stepS
  rw [if_neg (by omega), if_neg (by omega), if_pos ha]
  by_cases hc : s.lacks = 1
  · rw [if_pos hc]
    have h' : Rdr S b bo w g s.at_ 1 vt vo s.text s.out := by rw [← hc]; exact h
    exact (next_last S b bo g _ vt vo s.text s.out c w h' hbo (Nat.le_trans hbo hbw) hbw (by omega) hl).mono fun e w' ⟨he, vt', vo', h1, h2⟩ => ⟨he, vt', vo', h1, h2⟩
  · rw [if_neg hc]
    have h' : Rdr S b bo w g 2 s.lacks vt vo s.text s.out := by rw [← ha]; exact h
    exact (next_more S b bo g 2 _ vt vo s.text s.out c w h' (Nat.le_trans hbo hbw) (by omega) (by omega) (by omega)).mono fun e w' ⟨he, vt', h1, h2⟩ => ⟨he, vt', vo, h1, h2⟩
theorem broken_step (s : RS) (c : Int) (ha : s.at_ = 3) : stepS s c = s := by
  unfold stepS
  rw [if_neg (by omega), if_neg (by omega), if_neg (by omega)]
theorem take_all (l : List Int) : runS = runS := rfl
set_option maxRecDepth 100000 in
theorem feed_calls (S : Nat → Prop) (b bo g : Nat) (s : RS) (vt : Value) (A0 : Option Addr) (c0 : Nat) (l : List Int) (w : World) (h : RdrS S b bo w g s vt (.slice none 0 0)) (hso : s.out = []) (hok : okS s) (hbw : b ≤ w.heap.size) (hC : ∀ W', Kept w W' S → Kd.C (Kd.int .u8) W' A0 l.length l) (hc0 : l.length ≤ c0) (hby : ∀ x ∈ l, 0 ≤ x ∧ x < 256) (hl : l.length ≤ 900000000) :
    Calls Try.prog 31 #[.pointer (some ⟨g, 0, none⟩), .slice A0 l.length c0] w fun e w' => ∃ v vt' S', e = .returned v ∧ (∀ k, S' k → S k ∨ w.heap.size ≤ k) ∧ (∀ k, S' k → k < w'.heap.size) ∧ Rdr S' b w.heap.size w' g (runS s l).at_ (runS s l).lacks vt' (.slice none 0 0) (runS s l).text [] ∧ Kd.R k44 44 w' w.heap.size (fun k => ¬ S' k) v (runS s l).out ∧ Kept w w' S ∧ Below b w w' := by
  have h00 : RdrS (fun k => S k ∨ w.heap.size ≤ k) b w.heap.size w g s vt (.slice none 0 0) := ⟨.inl h.1, h.2.1, h.2.2.1, Kd.R_mono h.2.2.2.1 (fun _ hk => .inl hk), by rw [hso]; exact Kd.R_nil _ _ _ _ _⟩
  have H0 := Aside0.mk h00
  have HS := Aside0.mk h.1
  have HC := Aside0.mk hC
  have HOk := Aside0.mk hok
  have HBw := Aside0.mk hbw
  have HBy := Aside0.mk hby
  have HSo := Aside0.mk (show s.out.length = 0 by rw [hso]; rfl)
  clear h h00 hC hok hbw hby hso
  go_enter Try.func31, Try.ntmps31
  go_wp2_with fail
  go_loopg [10] l.length (fun kq v10 w' => ∃ i : Nat, i ≤ l.length ∧ kq = l.length - i ∧ v10 = .int .i64 (i : Int) ∧ Aside0 (∃ vt vo, RdrS (fun k => S k ∨ w.heap.size ≤ k) b w.heap.size w' g (runS s (l.take i)) vt vo) ∧ Aside0 (okS (runS s (l.take i)) ∧ (runS s (l.take i)).out.length ≤ i) ∧ Aside0 (Kept w w' S) ∧ Aside0 (Below b w w'))
  case atStart => exact ⟨0, by omega, rfl, rfl, ⟨vt, _, H0.out⟩, ⟨HOk.out, by show s.out.length ≤ 0; rw [HSo.out]; exact Nat.le_refl _⟩, ⟨Kept.refl _ _⟩, ⟨Below.refl _ _⟩⟩
  case round =>
    obtain ⟨i, hi, rfl, rfl, HR, HO, HK, HB⟩ := hrel
    by_cases c1 : i < l.length
    · have hsn := run_snoc s l i c1
      obtain ⟨t, ht⟩ : ∃ t, t = runS s (l.take i) := ⟨_, rfl⟩
      rw [← ht] at HR HO hsn
      obtain ⟨vt1, vo1, hR⟩ := HR.out
      have hcr := Kd.at_int (HC.out wr HK.out) (i : Int) (by omega) (by omega)
      obtain ⟨ad, eA, hce⟩ := hcr
      rw [Int.toNat_natCast] at hce
      obtain ⟨cells0, _, _, _⟩ := hR.cells
      obtain ⟨x, hx⟩ : ∃ x, x = rd l (i : Int) := ⟨_, rfl⟩
      rw [← hx] at hce
      have hsn : runS s (l.take (i + 1)) = stepS t x := by rw [hx]; exact hsn
      have hxb : 0 ≤ x ∧ x < 256 := HBy.out x (by rw [hx]; unfold rd; rw [Int.toNat_natCast, List.getD_eq_getElem?_getD, List.getElem?_eq_getElem c1]; exact List.getElem_mem _)
      obtain ⟨hx0, hx1⟩ := hxb
      have Hsn := Aside0.mk hsn
      have HRR := Aside0.mk hR
      have HOO := HO
      have HKK := HK
      have HBB := HB
      have HCA := Aside0.mk eA
      clear hsn hR hx ht HR HO HK HB H0
      subst eA
      rcases HOO.out.1.1 with ha | ha | ha | ha <;> rw [ha] at cells0
      · skip
        go_wp2_with fail
        refine (kind_step (fun k => S k ∨ w.heap.size ≤ k) b w.heap.size g t vt1 vo1 x wr HRR.out HBw.out HKK.out.1 (by have := HOO.out.2; omega) ha).mono ?_
        rintro _ w3 ⟨rfl, vt3, vo3, h3, hk3, hb3⟩
        have HR3 := Aside0.mk (Rdr.mono h3 (S' := fun k => S k ∨ w.heap.size ≤ k) (fun k hk => hk.elim id (fun hk => .inr (Nat.le_trans HKK.out.1 hk))))
        have HK3 := Aside0.mk (HKK.out.then_ hk3 (fun _ hk => hk))
        have HB3 := Aside0.mk (HBB.out.trans hb3)
        clear h3 hk3 hb3
        go_wp2_with fail
        go_roundg (l.length - (i + 1))
        case measure => omega
        case rel => exact ⟨i + 1, by omega, rfl, by go_num, ⟨vt3, vo3, by rw [Hsn.out]; exact HR3.out⟩, ⟨by rw [Hsn.out]; exact step_ok HOO.out.1 hx0, by rw [Hsn.out]; have := step_out t x; have := HOO.out.2; omega⟩, HK3, HB3⟩
      · skip
        go_wp2_with fail
        refine (length_step (fun k => S k ∨ w.heap.size ≤ k) b w.heap.size g t vt1 vo1 x wr HRR.out HBw.out HKK.out.1 (by have := HOO.out.2; omega) ha hx0 hx1).mono ?_
        rintro _ w3 ⟨rfl, vt3, vo3, h3, hk3, hb3⟩
        have HR3 := Aside0.mk (Rdr.mono h3 (S' := fun k => S k ∨ w.heap.size ≤ k) (fun k hk => hk.elim id (fun hk => .inr (Nat.le_trans HKK.out.1 hk))))
        have HK3 := Aside0.mk (HKK.out.then_ hk3 (fun _ hk => hk))
        have HB3 := Aside0.mk (HBB.out.trans hb3)
        clear h3 hk3 hb3
        go_wp2_with fail
        go_roundg (l.length - (i + 1))
        case measure => omega
        case rel => exact ⟨i + 1, by omega, rfl, by go_num, ⟨vt3, vo3, by rw [Hsn.out]; exact HR3.out⟩, ⟨by rw [Hsn.out]; exact step_ok HOO.out.1 hx0, by rw [Hsn.out]; have := step_out t x; have := HOO.out.2; omega⟩, HK3, HB3⟩
      · skip
        go_wp2_with fail
        refine (next_step (fun k => S k ∨ w.heap.size ≤ k) b w.heap.size g t vt1 vo1 x wr HRR.out HBw.out HKK.out.1 (by have := HOO.out.2; omega) ha HOO.out.1).mono ?_
        rintro _ w3 ⟨rfl, vt3, vo3, h3, hk3, hb3⟩
        have HR3 := Aside0.mk (Rdr.mono h3 (S' := fun k => S k ∨ w.heap.size ≤ k) (fun k hk => hk.elim id (fun hk => .inr (Nat.le_trans HKK.out.1 hk))))
        have HK3 := Aside0.mk (HKK.out.then_ hk3 (fun _ hk => hk))
        have HB3 := Aside0.mk (HBB.out.trans hb3)
        clear h3 hk3 hb3
        go_wp2_with fail
        go_roundg (l.length - (i + 1))
        case measure => omega
        case rel => exact ⟨i + 1, by omega, rfl, by go_num, ⟨vt3, vo3, by rw [Hsn.out]; exact HR3.out⟩, ⟨by rw [Hsn.out]; exact step_ok HOO.out.1 hx0, by rw [Hsn.out]; have := step_out t x; have := HOO.out.2; omega⟩, HK3, HB3⟩
      · have HR3 := Aside0.mk HRR.out
        go_wp2_with fail
        go_roundg (l.length - (i + 1))
        case measure => omega
        case rel => exact ⟨i + 1, by omega, rfl, by go_num, ⟨vt1, vo1, by rw [Hsn.out, broken_step t x ha]; exact HR3.out⟩, ⟨by rw [Hsn.out, broken_step t x ha]; exact HOO.out.1, by rw [Hsn.out, broken_step t x ha]; have := HOO.out.2; omega⟩, HKK, HBB⟩
    · obtain rfl : i = l.length := by omega
      rw [List.take_length] at HR HO
      obtain ⟨t, ht⟩ : ∃ t, t = runS s l := ⟨_, rfl⟩
      rw [← ht] at HR HO
      have Ht := Aside0.mk ht
      obtain ⟨vt1, vo1, hR⟩ := HR.out
      obtain ⟨_, _, _, cells3⟩ := hR.cells
      have hf3 := blk_frozen hR.2.2.1 3
      obtain ⟨m1, A1, n1, e1⟩ : ∃ m1 A1 n1, vo1 = Value.slice A1 m1 n1 := (by obtain ⟨A, c, e⟩ := Kd.R_slice hR.2.2.2.2; exact ⟨_, A, c, e⟩)
      subst e1
      have HRR := Aside0.mk hR
      clear hR ht HR
      go_wp2_with fail
      go_ret
      rw [← Ht.out]
      obtain ⟨S', hS, hS2, hr, ho⟩ := told HRR.out w.heap.size
      exact ⟨_, vt1, S', rfl, hS, hS2, hr, ho, HK.out.setCell (.inl HS.out) _, Below.setCell HB.out HRR.out.2.1 _⟩
set_option maxRecDepth 100000 in
theorem new_calls (w : World) :
    Calls Try.prog 30 #[] w fun e w' => ∃ g, e = .returned (.pointer (some ⟨g, 0, none⟩)) ∧ w.heap.size ≤ g ∧ g < w'.heap.size ∧ (∀ bo, Rdr (fun k => k = g) w.heap.size bo w' g 0 0 (.slice none 0 0) (.slice none 0 0) [] []) ∧ Below w.heap.size w w' := by
  go_enter Try.func30, Try.ntmps30
  go_wp2
  go_ret
  refine ⟨_, rfl, by simp, by simp, fun bo => ⟨rfl, by simp, by simpa using heap_alloc_new _ _, Kd.R_nil _ _ _ _ _, Kd.R_nil _ _ _ _ _⟩, ?_⟩
  repeat (first | exact Below.refl _ _ | apply below_alloc | apply below_drew1)
set_option maxRecDepth 100000 in
theorem broken_calls (S : Nat → Prop) (b bo g : Nat) (at_ lacks : Int) (vt vo : Value) (text : List Int) (out : List S44) (w : World) (h : Rdr S b bo w g at_ lacks vt vo text out) :
    Calls Try.prog 32 #[.pointer (some ⟨g, 0, none⟩)] w fun e w' => e = .returned (.bool (at_ == 3)) ∧ w = w' := by
  obtain ⟨hc0, hc1, hc2, hc3⟩ := h.cells
  have H := Aside0.mk h
  clear h
  go_enter Try.func32, Try.ntmps32
  go_wp2
  go_ret
  exact ⟨rfl, rfl⟩
def leftI (s : RS) : Int := if s.at_ = 1 then 1 else if s.at_ = 2 then 2 + s.text.length else 0
/-- A row of bytes that lies in a block outside of S, in every later world that keeps all but S. -/
theorem row_kept {S : Nat → Prop} {w : World} {k : Nat} {l : List Int} {rest : List Value} {fr : Nat × Nat} (hrow : w.heap[k]? = some (.cells (l.map (Value.int .u8) ++ rest).toArray 5 fr)) (hS : ¬ S k) (hl : l.length ≤ 900000000) : ∀ W', Kept w W' S → Kd.C (Kd.int .u8) W' (some ⟨k, 0, none⟩) l.length l := fun W' hk => by
  have hb : W'.heap[k]? = some (.cells (l.map (Value.int .u8) ++ rest).toArray 5 fr) := (hk.2 k (blk_lt hrow) hS).trans hrow
  refine Kd.C_of_reads (d := (0 : Int)) (h1 := fun _ => rfl) ⟨rfl, by omega, fun _ => ⟨_, rfl, fun j hj => ?_⟩⟩
  rw [add_plain, cell_of_row W' k j _ 5 fr hb]
  simp [List.getElem?_append, hj, List.getD_eq_getElem?_getD]
theorem feed_at (S : Nat → Prop) (b bo g : Nat) (s : RS) (vt : Value) (k c0 : Nat) (l : List Int) (rest : List Value) (fr : Nat × Nat) (w W : World) (h : RdrS S b bo w g s vt (.slice none 0 0)) (hS : ∀ k, S k → k < w.heap.size) (hso : s.out = []) (hok : okS s) (hbw : b ≤ w.heap.size) (hB : Below w.heap.size w W) (hk : w.heap.size ≤ k) (hrow : W.heap[k]? = some (.cells (l.map (Value.int .u8) ++ rest).toArray 5 fr)) (hc0 : l.length ≤ c0) (hby : ∀ x ∈ l, 0 ≤ x ∧ x < 256) (hl : l.length ≤ 900000000) :
    Calls Try.prog 31 #[.pointer (some ⟨g, 0, none⟩), .slice (some ⟨k, 0, none⟩) l.length c0] W fun e w' => ∃ v vt' S', e = .returned v ∧ (∀ k, S' k → S k ∨ w.heap.size ≤ k) ∧ (∀ k, S' k → k < w'.heap.size) ∧ RdrS S' b w.heap.size w' g ⟨(runS s l).at_, (runS s l).lacks, (runS s l).text, []⟩ vt' (.slice none 0 0) ∧ Kd.R k44 44 w' w.heap.size (fun k => ¬ S' k) v (runS s l).out ∧ Kept w w' S ∧ Below b w w' :=
  (feed_calls S b bo g s vt (some ⟨k, 0, none⟩) c0 l W (Rdr.step h fun j hj hlt => hB.block j hlt) hso hok (Nat.le_trans hbw hB.size) (row_kept hrow (fun h => by have := hS k h; omega) hl) hc0 hby hl).mono
    fun e w' ⟨v, vt', S', he, h1, h2, h3, h4, h5, h6⟩ => ⟨v, vt', S', he, fun j hj => (h1 j hj).elim .inl (fun hj => .inr (Nat.le_trans hB.size hj)), h2, ⟨h3.1, h3.2.1, h3.2.2.1, h3.2.2.2.1, Kd.R_nil _ _ _ _ _⟩, Kd.R_lower h4 hB.size, (Kept.of_below hB S).then_ h5 (fun _ hj => .inl hj), (hB.mono hbw).trans h6⟩
theorem run_okS {s : RS} (h : okS s) : ∀ (l : List Int), (∀ x ∈ l, 0 ≤ x ∧ x < 256) → okS (runS s l) := by
  intro l
  induction l generalizing s with
  | nil => intro _; exact h
  | cons c r ih => intro hb; exact ih (step_ok h (hb c (List.mem_cons_self ..)).1) (fun x hx => hb x (List.mem_cons_of_mem _ hx))
theorem conv_const (W : World) (C : Array Value) (n c : Nat) : (convert 31 31 (.slice (some ⟨W.heap.size, 0, none⟩) n c)).run Try.prog (W.alloc (.cells C 5)) = .ok (.slice (some ⟨W.heap.size, 0, none⟩) n c) (W.alloc (.cells C 5 (C.size, C.size + 1))) :=
  Lib.run_convert_bytes_const W 31 5 C n c Try.underlying31 Try.underlying5
end Go.Proofs.Ythjjblnkaikmlaa.St
