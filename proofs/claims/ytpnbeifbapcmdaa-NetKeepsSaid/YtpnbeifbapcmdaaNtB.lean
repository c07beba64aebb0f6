/- The document's Send walked; how a drawn region is walked whose last operation stores what its loads read. -/
import Derived.Test.YtpnbeifbapcmdaaNtA
import Derived.Deep.RegionLawGrows
import Derived.Deep.RegionLaw
import Derived.Lib.SliceRun
import Derived.Lib.Bytes
namespace Go.Proofs.Ytpnbeifbapcmdaa.Nt
open Go.RowKit Go.Proofs.Ytpnbeifbapcmdaa.PNetGoes Go.Proofs.YtpnbeifbapcmdaaW.PrintWords Go.Proofs.YtpnbeifbapcmdaaW.PrintLast Go.Proofs.YtpnbeifbapcmdaaW.PrintMore
set_option linter.unusedVariables false
set_option linter.unusedSimpArgs false
attribute [local go_sem] max2_int min2_int max_two min_two
theorem row_reads {e b : Nat} {S : Nat → Prop} {w : World} {A : Option Addr} {n c : Nat} {l : List S28} (h : Kd.R k28 e w b S (.slice A n c) l) : n = l.length ∧ (A = none → n = 0 ∧ c = 0) ∧ (∀ b', A = some b' → ∀ j u, (flat l)[j]? = some u → w.cell? (b'.add j) = some u) := by
  obtain ⟨_, hl, ho⟩ := row_iff.1 h
  rcases ho with ⟨h1, h2⟩ | ⟨g, cap, cur, h1, h2, h3, h4, h5, h6, h7⟩
  · injection h1 with a1 a2 a3
    exact ⟨by omega, fun _ => ⟨a2, a3⟩, fun b' hb => (by rw [a1] at hb; cases hb)⟩
  · injection h1 with a1 a2 a3
    refine ⟨a2, fun hn => (by rw [a1] at hn; cases hn), fun b' hb j u hu => ?_⟩
    rw [a1] at hb
    injection hb with hb
    subst hb
    have hj : (⟨g, 0, none⟩ : Addr).add j = ⟨g, j, none⟩ := by unfold Addr.add; split <;> simp_all
    rw [hj, cell_of_row w g j cur e (0, 0) h3]
    rw [← h7, List.getElem?_take] at hu
    split at hu
    · simpa using hu
    · cases hu
theorem slice_full (A : Option Addr) (n c : Nat) (hn : n ≤ c) (W : World) : (Instr.slice 41 (.slice A n c) none (some (.int .i64 (n : Int))) (some (.int .i64 (n : Int)))).run Try.prog W = .ok (.slice A n n) W := by
  have hu := Try.underlying41
  have hk : (Try.prog.info? 45).map (fun i => i.size) = some 3 := by kernel_rfl
  cases A <;> simp [Instr.slice, Instr.sliceBounds, Instr.sliceBound, hu, run_underlying, hn, Result.andThen, go_sem]
/-! A region that draws its order, whose last operation t stores what the region's own loads read: S is kept by every operation but t, and t waits for what is taken first. -/
section
variable {P : Program} {ops : Array Oper} {Q : Exit → Act → World → Prop} {md : Region.Mode} {S : World → Prop} {t : Nat}
def wpAnyT (P : Program) (md : Region.Mode) (ops : Array Oper) (Q : Exit → Act → World → Prop) (S : World → Prop) (t : Nat) : Nat → Array Bool → Act → World → Prop
  | 0, listed, a, w => Region.ready md ops listed = [] ∧ Q .normal a w
  | fuel + 1, listed, a, w =>
    (Region.ready md ops listed = [] → Q .normal a w) ∧
    ∀ i ∈ Region.ready md ops listed, wpOp P ops Q i (fun a' w' => (i ≠ t → S w') ∧ wpAnyT P md ops Q S t fuel (listed.setIfInBounds i true) a' w') a w
theorem wpAny_of_T : ∀ (fuel : Nat) (listed : Array Bool) (a : Act) (w : World), wpAnyT P md ops Q S t fuel listed a w → wpAny P md ops Q fuel listed a w
  | 0, _, _, _, h => h
  | fuel + 1, _, _, _, h => ⟨h.1, fun i hi => wpOp_mono (fun a' w' h' => wpAny_of_T fuel _ a' w' h'.2) (h.2 i hi)⟩
def waitsB (md : Region.Mode) (ops : Array Oper) (t i : Nat) : Bool := match ops[t]? with
  | some o => o.after.any fun e => Region.binds md e && e.on == i
  | none => false
theorem wpAnyT_first {i : Nat} {oi : Oper} {v : Value} (hi : ops[i]? = some oi) (hsel : ∀ (j : Nat) (o : Oper) cs b, ops[j]? = some o → o.op ≠ .select cs b)
    (hQ : ∀ c a w, Q (.panic c) (a.put oi.dst v) w → Q (.panic c) a w) (hw : waitsB md ops t i = true) :
    ∀ (fuel : Nat) (listed : Array Bool) (a : Act) (w : World),
      (∀ j oj, ops[j]? = some oj → j ≠ i → listed.getD j true = false → (∀ e ∈ oj.after, Region.binds md e = true → e.on ≠ i) → oi.apart ops oj = true) →
      i ∈ Region.ready md ops listed → YieldsIf P ops S oi v a → S w →
      wpAnyT P md ops Q S t fuel (listed.setIfInBounds i true) (a.put oi.dst v) w → wpAnyT P md ops Q S t (fuel + 1) listed a w := by
  intro fuel
  induction fuel with
  | zero =>
    intro listed a w _ hr hy hS H
    refine ⟨fun h => (by rw [h] at hr; cases hr), fun j hj => ?_⟩
    by_cases hji : j = i
    · subst hji; exact hy.wpOp hi hS ⟨fun _ => hS, H⟩
    · have := ready_mono hj hji
      rw [H.1] at this
      cases this
  | succ fuel ih =>
    intro listed a w hfree hr hy hS H
    refine ⟨fun h => (by rw [h] at hr; cases hr), fun j hj => ?_⟩
    by_cases hji : j = i
    · subst hji; exact hy.wpOp hi hS ⟨fun _ => hS, H⟩
    · have h1 := H.2 j (ready_mono hj hji)
      obtain ⟨hjun, oj, hoj, hall⟩ := mem_ready.1 hj
      have hnot : ∀ e ∈ oj.after, Region.binds md e = true → e.on ≠ i := fun e he hb heq => by
        have h1 := hall e he hb
        have h0 := (mem_ready.1 hr).1
        rw [heq] at h1
        rcases Nat.lt_or_ge i listed.size with h' | h'
        · simp [h'] at h0 h1; rw [h0] at h1; cases h1
        · simp [Array.getElem?_eq_none h'] at h1
      have hjt : j ≠ t := fun e => by
        subst e
        unfold waitsB at hw
        rw [hoj] at hw
        simp only [Array.any_eq_true, Bool.and_eq_true, beq_iff_eq] at hw
        obtain ⟨k, hk, hb, he⟩ := hw
        exact hnot _ (Array.getElem_mem hk) hb he
      have h2 := wpOp_putIf hoj (hfree j oj hoj hji hjun hnot) (fun cs b => hsel i oi cs b hi) (fun cs b => hsel j oj cs b hoj) hQ hy h1
      have hfree' : ∀ k ok, ops[k]? = some ok → k ≠ i → (listed.setIfInBounds j true).getD k true = false →
          (∀ e ∈ ok.after, Region.binds md e = true → e.on ≠ i) → oi.apart ops ok = true := fun k ok hk hki hun hno => by
        refine hfree k ok hk hki ?_ hno
        by_cases hjk : j = k
        · subst hjk; exact hjun
        · rw [getD_set_ne true hjk] at hun; exact hun
      refine wpOp_mono (fun a' w' h3 => ⟨fun _ => h3.2.1 hjt, ih (listed.setIfInBounds j true) a' w' hfree' (ready_mono hr (Ne.symm hji)) h3.1 (h3.2.1 hjt) ?_⟩) h2
      rw [Array.setIfInBounds_comm _ _ hji]
      exact h3.2.2
theorem wpAnyT_take {i : Nat} {oi : Oper} {v : Value} {fuel : Nat} {listed : Array Bool} {a : Act} {w : World} (hi : ops[i]? = some oi)
    (hs : Region.noSelect ops = true) (hf : Region.free md ops listed i = true) (hr : (Region.ready md ops listed).contains i = true) (hw : waitsB md ops t i = true)
    (hQ : ∀ c a w, Q (.panic c) (a.put oi.dst v) w → Q (.panic c) a w) (hy : YieldsIf P ops S oi v a) (hS : S w)
    (h : wpAnyT P md ops Q S t fuel (listed.setIfInBounds i true) (a.put oi.dst v) w) : wpAnyT P md ops Q S t (fuel + 1) listed a w :=
  wpAnyT_first hi (Region.noSelect_spec hs) hQ hw fuel listed a w (Region.free_spec hi hf) (by simpa using hr) hy hS h
theorem wpAnyT_one {i : Nat} {o : Oper} {fuel : Nat} {listed : Array Bool} {a : Act} {w : World} (ho : ops[i]? = some o) (hr : Region.ready md ops listed = [i])
    (h : ∀ K' : Act → World → Prop, (∀ a w, (i ≠ t → S w) → wpAnyT P md ops Q S t fuel (listed.setIfInBounds i true) a w → K' a w) → if Region.wanted o (yielded ops a.tmps) = true then Oper.wp P o a w K' Q else K' (a.put o.dst undef) w) :
    wpAnyT P md ops Q S t (fuel + 1) listed a w := by
  refine ⟨fun h0 => (by rw [hr] at h0; cases h0), fun j hj => ?_⟩
  rw [hr] at hj
  obtain rfl : j = i := by simpa using hj
  exact wpOp_step ho (fun K' hK => h K' (fun a w hS hW => hK a w ⟨hS, hW⟩))
theorem wpAnyT_two {i j : Nat} {o p : Oper} {fuel : Nat} {listed : Array Bool} {a : Act} {w : World} (ho : ops[i]? = some o) (hp : ops[j]? = some p) (hr : Region.ready md ops listed = [i, j])
    (h : ∀ K' : Act → World → Prop, (∀ a w, (i ≠ t → S w) → wpAnyT P md ops Q S t fuel (listed.setIfInBounds i true) a w → K' a w) → if Region.wanted o (yielded ops a.tmps) = true then Oper.wp P o a w K' Q else K' (a.put o.dst undef) w)
    (h2 : ∀ K' : Act → World → Prop, (∀ a w, (j ≠ t → S w) → wpAnyT P md ops Q S t fuel (listed.setIfInBounds j true) a w → K' a w) → if Region.wanted p (yielded ops a.tmps) = true then Oper.wp P p a w K' Q else K' (a.put p.dst undef) w) :
    wpAnyT P md ops Q S t (fuel + 1) listed a w := by
  refine ⟨fun h0 => (by rw [hr] at h0; cases h0), fun k hk => ?_⟩
  rw [hr] at hk
  rcases List.mem_cons.1 hk with rfl | hk
  · exact wpOp_step ho (fun K' hK => h K' (fun a w hS hW => hK a w ⟨hS, hW⟩))
  · obtain rfl : k = j := by simpa using hk
    exact wpOp_step hp (fun K' hK => h2 K' (fun a w hS hW => hK a w ⟨hS, hW⟩))
theorem wpAnyT_done {listed : Array Bool} {a : Act} {w : World} (hr : Region.ready md ops listed = []) (h : Q .normal a w) :
    ∀ fuel, wpAnyT P md ops Q S t fuel listed a w
  | 0 => ⟨hr, h⟩
  | _ + 1 => ⟨fun _ => h, by rw [hr]; simp⟩
end
set_option maxHeartbeats 4000000 in
set_option maxRecDepth 100000 in
theorem rsend_calls (S : Nat → Prop) (b g : Nat) (v : Value) (l : List S28) (x : S28) (w : World) (h : RB S b w g v l) (hb : b ≤ w.heap.size) (hl : l.length ≤ 200) :
    Calls Try.prog 16 #[.pointer (some ⟨g, 0, none⟩), .agg #[.int .i64 x.f0, .int .i64 x.f1, .string x.f2]] w fun e w' => ∃ v', e = .returned (.int .i64 (sendI l x).2) ∧ RB (fun k => S k ∨ w.heap.size ≤ k) b w' g v' (sendI l x).1 ∧ Kept w w' S ∧ Below b w w' := by
  obtain ⟨c0, c1, s⟩ := x
  obtain ⟨A, c, rfl⟩ := Kd.R_slice h.2.2.2
  have hlc : l.length ≤ c := (Kd.R_reads' h.2.2.2).2.1
  have hsl := slice_full A l.length c hlc
  have HRR := Aside0.mk (row_reads h.2.2.2)
  have H := Aside0.mk h
  have HBW := Aside0.mk hb
  have HL := Aside0.mk hl
  clear h hlc
  have hbel := below_alloc (Below.refl w.heap.size w) (.cells #[.int .i64 c0, .int .i64 c1, .string s] 45)
  have hna : RB S b (w.alloc (.cells #[.int .i64 c0, .int .i64 c1, .string s] 45)) g (.slice A l.length c) l := H.out.step fun k _ hlt => Below.heap_alloc _ _ _ hlt
  have HN : Aside0 (RB (fun k => S k ∨ w.heap.size ≤ k) b (w.alloc (.cells #[.int .i64 c0, .int .i64 c1, .string s] 45)) g (.slice A l.length c) l) := ⟨hna.mono (fun k hk => .inl hk)⟩
  have hcell : (w.alloc (.cells #[.int .i64 c0, .int .i64 c1, .string s] 45)).cell? ⟨g, 0, none⟩ = some (.slice A l.length c) := (blk_cell hna.2.2.1 0).trans rfl
  have HBL := Aside0.mk hbel
  have HNA := Aside0.mk hna
  clear hna hbel
  by_cases n0 : c0 < 1
  · go_enter Try.func16, Try.ntmps16
    have e : sendI l ⟨c0, c1, s⟩ = (l, 1) := by unfold sendI; rw [if_neg (fun h => by have h1 : 1 ≤ c0 := h.1; have h2 : c0 ≤ 7 := h.2.1; have h3 : 1 ≤ c1 := h.2.2.1; have h4 : c1 ≤ 7 := h.2.2.2; omega)]
    have E := Aside0.mk e
    clear e
    go_wp2_with fail
    go_ret
    rw [E.out]
    first | exact ⟨_, rfl, HN.out, Kept.of_below HBL.out S, HBL.out.mono HBW.out⟩ | exact ⟨rfl, ⟨_, HN.out⟩, Kept.of_below HBL.out S, HBL.out.mono HBW.out⟩
  by_cases n1 : 7 < c0
  · go_enter Try.func16, Try.ntmps16
    have e : sendI l ⟨c0, c1, s⟩ = (l, 1) := by unfold sendI; rw [if_neg (fun h => by have h1 : 1 ≤ c0 := h.1; have h2 : c0 ≤ 7 := h.2.1; have h3 : 1 ≤ c1 := h.2.2.1; have h4 : c1 ≤ 7 := h.2.2.2; omega)]
    have E := Aside0.mk e
    clear e
    go_wp2_with fail
    go_ret
    rw [E.out]
    first | exact ⟨_, rfl, HN.out, Kept.of_below HBL.out S, HBL.out.mono HBW.out⟩ | exact ⟨rfl, ⟨_, HN.out⟩, Kept.of_below HBL.out S, HBL.out.mono HBW.out⟩
  by_cases n2 : c1 < 1
  · go_enter Try.func16, Try.ntmps16
    have e : sendI l ⟨c0, c1, s⟩ = (l, 1) := by unfold sendI; rw [if_neg (fun h => by have h1 : 1 ≤ c0 := h.1; have h2 : c0 ≤ 7 := h.2.1; have h3 : 1 ≤ c1 := h.2.2.1; have h4 : c1 ≤ 7 := h.2.2.2; omega)]
    have E := Aside0.mk e
    clear e
    go_wp2_with fail
    go_ret
    rw [E.out]
    first | exact ⟨_, rfl, HN.out, Kept.of_below HBL.out S, HBL.out.mono HBW.out⟩ | exact ⟨rfl, ⟨_, HN.out⟩, Kept.of_below HBL.out S, HBL.out.mono HBW.out⟩
  by_cases n3 : 7 < c1
  · go_enter Try.func16, Try.ntmps16
    have e : sendI l ⟨c0, c1, s⟩ = (l, 1) := by unfold sendI; rw [if_neg (fun h => by have h1 : 1 ≤ c0 := h.1; have h2 : c0 ≤ 7 := h.2.1; have h3 : 1 ≤ c1 := h.2.2.1; have h4 : c1 ≤ 7 := h.2.2.2; omega)]
    have E := Aside0.mk e
    clear e
    go_wp2_with fail
    go_ret
    rw [E.out]
    first | exact ⟨_, rfl, HN.out, Kept.of_below HBL.out S, HBL.out.mono HBW.out⟩ | exact ⟨rfl, ⟨_, HN.out⟩, Kept.of_below HBL.out S, HBL.out.mono HBW.out⟩
  have hok : okX ⟨c0, c1, s⟩ := ⟨by show (1 : Int) ≤ c0; omega, by show c0 ≤ 7; omega, by show (1 : Int) ≤ c1; omega, by show c1 ≤ 7; omega⟩
  by_cases n4 : 8200 < s.size
  · have k2 : (8200 : Int) < (s.size : Int) := by omega
    have e : sendI l ⟨c0, c1, s⟩ = (l, 2) := by unfold sendI; rw [if_pos hok, if_pos n4]
    have E := Aside0.mk e
    clear e n4 hok
    go_enter Try.func16, Try.ntmps16
    go_wp2_with fail
    go_ret
    rw [E.out]
    first | exact ⟨_, rfl, HN.out, Kept.of_below HBL.out S, HBL.out.mono HBW.out⟩ | exact ⟨rfl, ⟨_, HN.out⟩, Kept.of_below HBL.out S, HBL.out.mono HBW.out⟩
  have k2 : ¬ ((8200 : Int) < (s.size : Int)) := by omega
  by_cases n5 : 200 ≤ l.length
  · have k3 : (200 : Int) ≤ (l.length : Int) := by omega
    have e : sendI l ⟨c0, c1, s⟩ = (l, 5) := by unfold sendI; rw [if_pos hok, if_neg n4, if_pos n5]
    have E := Aside0.mk e
    clear e n4 n5 hok
    go_enter Try.func16, Try.ntmps16
    go_wp2_with fail
    go_ret
    rw [E.out]
    first | exact ⟨_, rfl, HN.out, Kept.of_below HBL.out S, HBL.out.mono HBW.out⟩ | exact ⟨rfl, ⟨_, HN.out⟩, Kept.of_below HBL.out S, HBL.out.mono HBW.out⟩
  have k3 : ¬ ((200 : Int) ≤ (l.length : Int)) := by omega
  have e : sendI l ⟨c0, c1, s⟩ = (l ++ [⟨c0, c1, s⟩], 0) := by unfold sendI; rw [if_pos hok, if_neg n4, if_neg n5]
  have E := Aside0.mk e
  clear e n4 n5 hok
  go_enter Try.func16, Try.ntmps16
  go_wp2_with fail
  have hbox := heap_alloc_new w (.cells #[.int .i64 c0, .int .i64 c1, .string s] 45)
  have hsz : (w.alloc (.cells #[.int .i64 c0, .int .i64 c1, .string s] 45)).heap.size = w.heap.size + 1 := by simp
  clear HN
  generalize w.alloc (.cells #[.int .i64 c0, .int .i64 c1, .string s] 45) = wa at *
  obtain ⟨gb, hgb⟩ : ∃ gb, gb = w.heap.size := ⟨_, rfl⟩
  rw [← hgb] at hbox ⊢
  have b0 : wa.cell? ⟨gb, 0, none⟩ = some (.int .i64 c0) := (blk_cell hbox 0).trans rfl
  have b1 : wa.cell? ⟨gb, 1, none⟩ = some (.int .i64 c1) := (blk_cell hbox 1).trans rfl
  have b2 : wa.cell? ⟨gb, 2, none⟩ = some (.string s) := (blk_cell hbox 2).trans rfl
  have hrd : ∀ b', A = some b' → ∀ j u, (flat l)[j]? = some u → wa.cell? (b'.add j) = some u := (row_reads HNA.out.2.2.2).2.2
  have HRD := Aside0.mk hrd
  have HZ : Aside0 (w.heap.size ≤ wa.heap.size ∧ b ≤ wa.heap.size) := ⟨by omega, by have := HBW.out; omega⟩
  clear hbox hsz hgb hrd
  obtain ⟨i0, hi0, hz0, hz1, hz2⟩ := info_parts info45
  have I0 := Aside0.mk hi0
  have I1 := Aside0.mk hz0
  have I2 := Aside0.mk hz1
  have I3 := Aside0.mk hz2
  clear hi0 hz0 hz1 hz2
  have hHeld : (fun w' => w'.cell? ⟨g, 0, none⟩ = some (.slice A l.length c) ∧ w'.cell? ⟨gb, 0, none⟩ = some (.int .i64 c0) ∧ w'.cell? ⟨gb, 1, none⟩ = some (.int .i64 c1) ∧ w'.cell? ⟨gb, 2, none⟩ = some (.string s)) wa.drew := ⟨hcell, b0, b1, b2⟩
  have hf0 : wa.frozen? ⟨g, 0, none⟩ = false := blk_frozen HNA.out.2.2.1 0
  refine wp_region_noPanic ?_
  refine wp_region_any (by kernel_rfl) ?_
  change wpAny _ _ _ _ _ _ _ (World.drew _)
  refine wpAny_of_T (S := (fun w' => w'.cell? ⟨g, 0, none⟩ = some (.slice A l.length c) ∧ w'.cell? ⟨gb, 0, none⟩ = some (.int .i64 c0) ∧ w'.cell? ⟨gb, 1, none⟩ = some (.int .i64 c1) ∧ w'.cell? ⟨gb, 2, none⟩ = some (.string s))) (t := 21) _ _ _ _ ?_
  refine wpAnyT_take (i := 0) (oi := { dst := some 36, op := Op.move (Operand.tmp 0), type := 40, pos := "ref.go:25", after := #[], guard := none }) (v := ?vr0x1) rfl (by kernel_rfl) (by kernel_rfl) (by kernel_rfl) (by kernel_rfl) (fun _ _ _ h => h) (Or.inl ⟨by rfl, ?hyr0x1⟩) hHeld ?restr0x1
  case hyr0x1 =>
    intro w hSw
    try dsimp only at hSw
    go_simp
    all_goals with_reducible rfl
  (try simp only [Act.put, List.setIfInBounds_toArray, List.set_cons_zero, List.set_cons_succ])
  refine wpAnyT_take (i := 1) (oi := { dst := some 37, op := Op.move (Operand.tmp 0), type := 40, pos := "ref.go:25", after := #[], guard := none }) (v := ?vr1x2) rfl (by kernel_rfl) (by kernel_rfl) (by kernel_rfl) (by kernel_rfl) (fun _ _ _ h => h) (Or.inl ⟨by rfl, ?hyr1x2⟩) hHeld ?restr1x2
  case hyr1x2 =>
    intro w hSw
    try dsimp only at hSw
    go_simp
    all_goals with_reducible rfl
  (try simp only [Act.put, List.setIfInBounds_toArray, List.set_cons_zero, List.set_cons_succ])
  refine wpAnyT_take (i := 2) (oi := { dst := some 38, op := Op.nilCheck (Operand.tmp 37), type := 0, pos := "ref.go:25", after := #[{ on := 1, ground := Ground.data }], guard := none }) (v := ?vr2x3) rfl (by kernel_rfl) (by kernel_rfl) (by kernel_rfl) (by kernel_rfl) (fun _ _ _ h => h) (Or.inl ⟨by rfl, ?hyr2x3⟩) hHeld ?restr2x3
  case hyr2x3 =>
    intro w hSw
    try dsimp only at hSw
    go_simp
    all_goals with_reducible rfl
  (try simp only [Act.put, List.setIfInBounds_toArray, List.set_cons_zero, List.set_cons_succ])
  refine wpAnyT_take (i := 3) (oi := { dst := some 39, op := Op.fieldAddr 43 (Operand.tmp 38) 0, type := 0, pos := "ref.go:25", after := #[{ on := 2, ground := Ground.data }], guard := none }) (v := ?vr3x4) rfl (by kernel_rfl) (by kernel_rfl) (by kernel_rfl) (by kernel_rfl) (fun _ _ _ h => h) (Or.inl ⟨by rfl, ?hyr3x4⟩) hHeld ?restr3x4
  case hyr3x4 =>
    intro w hSw
    try dsimp only at hSw
    go_simp
    all_goals with_reducible rfl
  (try simp only [Act.put, List.setIfInBounds_toArray, List.set_cons_zero, List.set_cons_succ])
  refine wpAnyT_take (i := 4) (oi := { dst := some 40, op := Op.load 41 (Operand.tmp 39), type := 41, pos := "ref.go:25", after := #[{ on := 3, ground := Ground.data }], guard := none }) (v := ?vr4x5) rfl (by kernel_rfl) (by kernel_rfl) (by kernel_rfl) (by kernel_rfl) (fun _ _ _ h => h) (Or.inl ⟨by rfl, ?hyr4x5⟩) hHeld ?restr4x5
  case hyr4x5 =>
    intro w hSw
    try dsimp only at hSw
    go_simp
    all_goals with_reducible rfl
  (try simp only [Act.put, List.setIfInBounds_toArray, List.set_cons_zero, List.set_cons_succ])
  refine wpAnyT_take (i := 5) (oi := { dst := some 41, op := Op.move (Operand.tmp 0), type := 40, pos := "ref.go:25", after := #[], guard := none }) (v := ?vr5x6) rfl (by kernel_rfl) (by kernel_rfl) (by kernel_rfl) (by kernel_rfl) (fun _ _ _ h => h) (Or.inl ⟨by rfl, ?hyr5x6⟩) hHeld ?restr5x6
  case hyr5x6 =>
    intro w hSw
    try dsimp only at hSw
    go_simp
    all_goals with_reducible rfl
  (try simp only [Act.put, List.setIfInBounds_toArray, List.set_cons_zero, List.set_cons_succ])
  refine wpAnyT_take (i := 6) (oi := { dst := some 42, op := Op.nilCheck (Operand.tmp 41), type := 0, pos := "ref.go:25", after := #[{ on := 5, ground := Ground.data }], guard := none }) (v := ?vr6x7) rfl (by kernel_rfl) (by kernel_rfl) (by kernel_rfl) (by kernel_rfl) (fun _ _ _ h => h) (Or.inl ⟨by rfl, ?hyr6x7⟩) hHeld ?restr6x7
  case hyr6x7 =>
    intro w hSw
    try dsimp only at hSw
    go_simp
    all_goals with_reducible rfl
  (try simp only [Act.put, List.setIfInBounds_toArray, List.set_cons_zero, List.set_cons_succ])
  refine wpAnyT_take (i := 7) (oi := { dst := some 43, op := Op.fieldAddr 43 (Operand.tmp 42) 0, type := 0, pos := "ref.go:25", after := #[{ on := 6, ground := Ground.data }], guard := none }) (v := ?vr7x8) rfl (by kernel_rfl) (by kernel_rfl) (by kernel_rfl) (by kernel_rfl) (fun _ _ _ h => h) (Or.inl ⟨by rfl, ?hyr7x8⟩) hHeld ?restr7x8
  case hyr7x8 =>
    intro w hSw
    try dsimp only at hSw
    go_simp
    all_goals with_reducible rfl
  (try simp only [Act.put, List.setIfInBounds_toArray, List.set_cons_zero, List.set_cons_succ])
  refine wpAnyT_take (i := 8) (oi := { dst := some 44, op := Op.load 41 (Operand.tmp 43), type := 41, pos := "ref.go:25", after := #[{ on := 7, ground := Ground.data }], guard := none }) (v := ?vr8x9) rfl (by kernel_rfl) (by kernel_rfl) (by kernel_rfl) (by kernel_rfl) (fun _ _ _ h => h) (Or.inl ⟨by rfl, ?hyr8x9⟩) hHeld ?restr8x9
  case hyr8x9 =>
    intro w hSw
    try dsimp only at hSw
    go_simp
    all_goals with_reducible rfl
  (try simp only [Act.put, List.setIfInBounds_toArray, List.set_cons_zero, List.set_cons_succ])
  refine wpAnyT_take (i := 9) (oi := { dst := some 45, op := Op.call { callee := Callee.builtin Builtin.len, args := #[Operand.tmp 44], argTypes := #[41] }, type := 3, pos := "ref.go:25", after := #[{ on := 8, ground := Ground.data }], guard := none }) (v := ?vr9x10) rfl (by kernel_rfl) (by kernel_rfl) (by kernel_rfl) (by kernel_rfl) (fun _ _ _ h => h) (Or.inl ⟨by rfl, ?hyr9x10⟩) hHeld ?restr9x10
  case hyr9x10 =>
    intro w hSw
    try dsimp only at hSw
    go_simp
    all_goals with_reducible rfl
  (try simp only [Act.put, List.setIfInBounds_toArray, List.set_cons_zero, List.set_cons_succ])
  refine wpAnyT_take (i := 10) (oi := { dst := some 46, op := Op.move (Operand.tmp 0), type := 40, pos := "ref.go:25", after := #[], guard := none }) (v := ?vr10x11) rfl (by kernel_rfl) (by kernel_rfl) (by kernel_rfl) (by kernel_rfl) (fun _ _ _ h => h) (Or.inl ⟨by rfl, ?hyr10x11⟩) hHeld ?restr10x11
  case hyr10x11 =>
    intro w hSw
    try dsimp only at hSw
    go_simp
    all_goals with_reducible rfl
  (try simp only [Act.put, List.setIfInBounds_toArray, List.set_cons_zero, List.set_cons_succ])
  refine wpAnyT_take (i := 11) (oi := { dst := some 47, op := Op.nilCheck (Operand.tmp 46), type := 0, pos := "ref.go:25", after := #[{ on := 10, ground := Ground.data }], guard := none }) (v := ?vr11x12) rfl (by kernel_rfl) (by kernel_rfl) (by kernel_rfl) (by kernel_rfl) (fun _ _ _ h => h) (Or.inl ⟨by rfl, ?hyr11x12⟩) hHeld ?restr11x12
  case hyr11x12 =>
    intro w hSw
    try dsimp only at hSw
    go_simp
    all_goals with_reducible rfl
  (try simp only [Act.put, List.setIfInBounds_toArray, List.set_cons_zero, List.set_cons_succ])
  refine wpAnyT_take (i := 12) (oi := { dst := some 48, op := Op.fieldAddr 43 (Operand.tmp 47) 0, type := 0, pos := "ref.go:25", after := #[{ on := 11, ground := Ground.data }], guard := none }) (v := ?vr12x13) rfl (by kernel_rfl) (by kernel_rfl) (by kernel_rfl) (by kernel_rfl) (fun _ _ _ h => h) (Or.inl ⟨by rfl, ?hyr12x13⟩) hHeld ?restr12x13
  case hyr12x13 =>
    intro w hSw
    try dsimp only at hSw
    go_simp
    all_goals with_reducible rfl
  (try simp only [Act.put, List.setIfInBounds_toArray, List.set_cons_zero, List.set_cons_succ])
  refine wpAnyT_take (i := 13) (oi := { dst := some 49, op := Op.load 41 (Operand.tmp 48), type := 41, pos := "ref.go:25", after := #[{ on := 12, ground := Ground.data }], guard := none }) (v := ?vr13x14) rfl (by kernel_rfl) (by kernel_rfl) (by kernel_rfl) (by kernel_rfl) (fun _ _ _ h => h) (Or.inl ⟨by rfl, ?hyr13x14⟩) hHeld ?restr13x14
  case hyr13x14 =>
    intro w hSw
    try dsimp only at hSw
    go_simp
    all_goals with_reducible rfl
  (try simp only [Act.put, List.setIfInBounds_toArray, List.set_cons_zero, List.set_cons_succ])
  refine wpAnyT_take (i := 14) (oi := { dst := some 50, op := Op.call { callee := Callee.builtin Builtin.len, args := #[Operand.tmp 49], argTypes := #[41] }, type := 3, pos := "ref.go:25", after := #[{ on := 13, ground := Ground.data }], guard := none }) (v := ?vr14x15) rfl (by kernel_rfl) (by kernel_rfl) (by kernel_rfl) (by kernel_rfl) (fun _ _ _ h => h) (Or.inl ⟨by rfl, ?hyr14x15⟩) hHeld ?restr14x15
  case hyr14x15 =>
    intro w hSw
    try dsimp only at hSw
    go_simp
    all_goals with_reducible rfl
  (try simp only [Act.put, List.setIfInBounds_toArray, List.set_cons_zero, List.set_cons_succ])
  refine wpAnyT_take (i := 15) (oi := { dst := some 51, op := Op.slice 41 (Operand.tmp 40) none (some (Operand.tmp 45)) (some (Operand.tmp 50)), type := 41, pos := "ref.go:25", after := #[{ on := 4, ground := Ground.data }, { on := 9, ground := Ground.data }, { on := 14, ground := Ground.data }], guard := none }) (v := ?vr15x16) rfl (by kernel_rfl) (by kernel_rfl) (by kernel_rfl) (by kernel_rfl) (fun _ _ _ h => h) (Or.inl ⟨by rfl, ?hyr15x16⟩) hHeld ?restr15x16
  case hyr15x16 =>
    intro w hSw
    try dsimp only at hSw
    go_simp
    all_goals with_reducible rfl
  (try simp only [Act.put, List.setIfInBounds_toArray, List.set_cons_zero, List.set_cons_succ])
  refine wpAnyT_take (i := 16) (oi := { dst := some 52, op := Op.load 45 (Operand.tmp 3), type := 45, pos := "ref.go:25", after := #[], guard := none }) (v := ?vr16x17) rfl (by kernel_rfl) (by kernel_rfl) (by kernel_rfl) (by kernel_rfl) (fun _ _ _ h => h) (Or.inl ⟨by rfl, ?hyr16x17⟩) hHeld ?restr16x17
  case hyr16x17 =>
    intro w hSw
    try dsimp only at hSw
    go_simp
    all_goals with_reducible rfl
  (try simp only [Act.put, List.setIfInBounds_toArray, List.set_cons_zero, List.set_cons_succ])
  refine wpAnyT_one (i := 17) (o := { dst := some 53, op := Op.buildSlice 41 1 #[(0, Operand.tmp 52)], type := 41, pos := "ref.go:25", after := #[{ on := 16, ground := Ground.data }], guard := none }) rfl (by kernel_rfl) (fun KK hKK => ?_)
  go_simp
  have hH17 : (fun w' => w'.cell? ⟨g, 0, none⟩ = some (.slice A l.length c) ∧ w'.cell? ⟨gb, 0, none⟩ = some (.int .i64 c0) ∧ w'.cell? ⟨gb, 1, none⟩ = some (.int .i64 c1) ∧ w'.cell? ⟨gb, 2, none⟩ = some (.string s)) (wa.drew.alloc (.cells #[.int .i64 c0, .int .i64 c1, .string s] 45)) := ⟨Lib.cell?_alloc_some _ (W := wa.drew) hHeld.1, Lib.cell?_alloc_some _ (W := wa.drew) hHeld.2.1, Lib.cell?_alloc_some _ (W := wa.drew) hHeld.2.2.1, Lib.cell?_alloc_some _ (W := wa.drew) hHeld.2.2.2⟩
  refine hKK _ _ (fun _ => hH17) ?_
  clear hKK KK
  (try simp only [Act.put, List.setIfInBounds_toArray, List.set_cons_zero, List.set_cons_succ])
  refine wpAnyT_one (i := 18) (o := { dst := some 54, op := Op.call { callee := Callee.builtin Builtin.append, args := #[Operand.tmp 51, Operand.tmp 53], argTypes := #[41, 41] }, type := 41, pos := "ref.go:25", after := #[{ on := 15, ground := Ground.data }, { on := 17, ground := Ground.data }], guard := none }) rfl (by kernel_rfl) (fun KK hKK => ?_)
  (refine step_append_grows (by rfl) (.tmp 51) (.tmp 53) 41 (by rfl) 45 i0 _ 3 32 Try.underlying41 I0.out I1.out I2.out I3.out rfl (by omega) A l.length l.length (flat l) (by rfl) (fun hn => ⟨(HRR.out.2.1 hn).1, (HRR.out.2.1 hn).1⟩) (flat_len l) (fun b' hb j u hu => Lib.cell?_alloc_some _ (HRD.out b' hb j u hu)) ⟨wa.heap.size, 0, none⟩ 1 1 [.int .i64 c0, .int .i64 c1, .string s] (by rfl) rfl (World.news_of_block (cs := #[.int .i64 c0, .int .i64 c1, .string s]) (t := 45) (fr := (0, 0)) (heap_alloc_new wa.drew _)) (one_cell [⟨c0, c1, s⟩]) (by omega) (by simp only [maxLen]; have := HL.out; omega) (by have := HL.out; omega) ?_; intro v1 w1 hown hg; obtain ⟨A1, n1, e1⟩ : ∃ A1 n1, v1 = .slice A1 (l.length + 1) n1 := (by obtain ⟨_, ho⟩ := hown; rcases ho with ⟨h1, h2⟩ | ⟨g', cap, cur, h1, _⟩; exact absurd h2 (by omega); exact ⟨_, _, h1⟩); subst e1; have hbk : w1.heap[g]? = some (.cells #[.slice A l.length c] 43 (0, 0)) := (hg.block g (Nat.lt_of_lt_of_le (blk_lt HNA.out.2.2.1) (by simp)) (by simp)).trans ((Below.heap_alloc _ _ _ (blk_lt HNA.out.2.2.1)).trans HNA.out.2.2.1); have q0 : w1.cell? ⟨g, 0, none⟩ = some (.slice A l.length c) := (blk_cell hbk 0).trans rfl; have qf : w1.frozen? ⟨g, 0, none⟩ = false := blk_frozen hbk 0; have HOWN := Aside0.mk hown; have HG := Aside0.mk hg; have HBK := Aside0.mk hbk; clear hown hg hbk)
  have hkk : Kept wa w1 (fun _ => False) := (Kept.refl wa _).below ((Below.refl wa.heap.size wa).drew) |>.alloc _ |> fun h => Kept.of_grown HG.out h (fun k hk => by cases hk)
  have hH18 : (fun w' => w'.cell? ⟨g, 0, none⟩ = some (.slice A l.length c) ∧ w'.cell? ⟨gb, 0, none⟩ = some (.int .i64 c0) ∧ w'.cell? ⟨gb, 1, none⟩ = some (.int .i64 c1) ∧ w'.cell? ⟨gb, 2, none⟩ = some (.string s)) w1 := ⟨q0, cell_kept b0 hkk (fun h => h), cell_kept b1 hkk (fun h => h), cell_kept b2 hkk (fun h => h)⟩
  have HKK := Aside0.mk hkk
  clear hkk
  (try go_simp)
  refine hKK _ _ (fun _ => hH18) ?_
  clear hKK KK
  (try simp only [Act.put, List.setIfInBounds_toArray, List.set_cons_zero, List.set_cons_succ])
  refine wpAnyT_one (i := 19) (o := { dst := some 55, op := Op.nilCheck (Operand.tmp 36), type := 0, pos := "ref.go:25", after := #[{ on := 0, ground := Ground.data }, { on := 0, ground := Ground.phase }, { on := 1, ground := Ground.phase }, { on := 2, ground := Ground.phase }, { on := 3, ground := Ground.phase }, { on := 4, ground := Ground.phase }, { on := 5, ground := Ground.phase }, { on := 6, ground := Ground.phase }, { on := 7, ground := Ground.phase }, { on := 8, ground := Ground.phase }, { on := 9, ground := Ground.phase }, { on := 10, ground := Ground.phase }, { on := 11, ground := Ground.phase }, { on := 12, ground := Ground.phase }, { on := 13, ground := Ground.phase }, { on := 14, ground := Ground.phase }, { on := 15, ground := Ground.phase }, { on := 16, ground := Ground.phase }, { on := 17, ground := Ground.phase }, { on := 18, ground := Ground.phase }], guard := none }) rfl (by kernel_rfl) (fun KK hKK => ?_)
  go_simp
  refine hKK _ _ (fun _ => hH18) ?_
  clear hKK KK
  (try simp only [Act.put, List.setIfInBounds_toArray, List.set_cons_zero, List.set_cons_succ])
  refine wpAnyT_take (i := 20) (oi := { dst := some 56, op := Op.fieldAddr 43 (Operand.tmp 55) 0, type := 0, pos := "ref.go:25", after := #[{ on := 19, ground := Ground.data }, { on := 0, ground := Ground.phase }, { on := 1, ground := Ground.phase }, { on := 2, ground := Ground.phase }, { on := 3, ground := Ground.phase }, { on := 4, ground := Ground.phase }, { on := 5, ground := Ground.phase }, { on := 6, ground := Ground.phase }, { on := 7, ground := Ground.phase }, { on := 8, ground := Ground.phase }, { on := 9, ground := Ground.phase }, { on := 10, ground := Ground.phase }, { on := 11, ground := Ground.phase }, { on := 12, ground := Ground.phase }, { on := 13, ground := Ground.phase }, { on := 14, ground := Ground.phase }, { on := 15, ground := Ground.phase }, { on := 16, ground := Ground.phase }, { on := 17, ground := Ground.phase }, { on := 18, ground := Ground.phase }], guard := none }) (v := ?vr20x18) rfl (by kernel_rfl) (by kernel_rfl) (by kernel_rfl) (by kernel_rfl) (fun _ _ _ h => h) (Or.inl ⟨by rfl, ?hyr20x18⟩) hH18 ?restr20x18
  case hyr20x18 =>
    intro w hSw
    try dsimp only at hSw
    go_simp
    all_goals with_reducible rfl
  (try simp only [Act.put, List.setIfInBounds_toArray, List.set_cons_zero, List.set_cons_succ])
  refine wpAnyT_one (i := 21) (o := { dst := none, op := Op.store 41 (Operand.tmp 56) (Operand.tmp 54), type := 0, pos := "ref.go:25", after := #[{ on := 20, ground := Ground.data }, { on := 18, ground := Ground.data }, { on := 18, ground := Ground.chain }, { on := 0, ground := Ground.phase }, { on := 1, ground := Ground.phase }, { on := 2, ground := Ground.phase }, { on := 3, ground := Ground.phase }, { on := 4, ground := Ground.phase }, { on := 5, ground := Ground.phase }, { on := 6, ground := Ground.phase }, { on := 7, ground := Ground.phase }, { on := 8, ground := Ground.phase }, { on := 9, ground := Ground.phase }, { on := 10, ground := Ground.phase }, { on := 11, ground := Ground.phase }, { on := 12, ground := Ground.phase }, { on := 13, ground := Ground.phase }, { on := 14, ground := Ground.phase }, { on := 15, ground := Ground.phase }, { on := 16, ground := Ground.phase }, { on := 17, ground := Ground.phase }, { on := 18, ground := Ground.phase }], guard := none }) rfl (by kernel_rfl) (fun KK hKK => ?_)
  go_simp
  refine hKK _ _ (fun h => absurd rfl h) ?_
  clear hKK KK
  (try simp only [Act.put, List.setIfInBounds_toArray, List.set_cons_zero, List.set_cons_succ])
  refine wpAnyT_done (by kernel_rfl) ?_ _
  refine NoPanic.normal ?_
  all_goals
    (go_wp2_with fail
     go_ret
     rw [E.out]
     have hl2 : (l ++ [(⟨c0, c1, s⟩ : S28)]).length = l.length + 1 := by simp
     have hrow : Kd.R k28 45 w1 b (fun k => S k ∨ w.heap.size ≤ k) (.slice A1 (l.length + 1) n1) (l ++ [⟨c0, c1, s⟩]) := by
       have hown : w1.ownsRow wa.heap.size.succ 45 3 (.slice A1 (l.length + 1) n1) (l.length + 1) (flat l ++ [.int .i64 c0, .int .i64 c1, .string s]) := by simpa using HOWN.out
       refine row_iff.2 ⟨fun k hk => ?_, ?_⟩
       · obtain ⟨g', cap, cur, he, hge, _⟩ := hown.2.resolve_left (fun h => by have := h.2; omega)
         have hk : g' = k := by simpa [he, Value.ownBlock] using hk
         have := HZ.out.1
         exact .inr (by omega)
       · rw [hl2, flat_app]
         exact own_less hown (by have := HZ.out.2; omega)
     have hset : RB (fun k => S k ∨ w.heap.size ≤ k) b (w1.setCell ⟨g, 0, none⟩ (.slice A1 (l.length + 1) n1)) g (.slice A1 (l.length + 1) n1) (l ++ [⟨c0, c1, s⟩]) :=
       ⟨.inl H.out.1, H.out.2.1, by simpa using blk_set HBK.out 0 (.slice A1 (l.length + 1) n1), Kd.R_set hrow HBK.out (by decide) _ _⟩
     have hk1 : Kept w w1 S := ((Kept.of_below HBL.out S).then_ HKK.out (fun _ h => h.elim))
     have hb1 : Below b w w1 := (HBL.out.mono HBW.out).trans (Below.mono (Below.grown (below_alloc ((Below.refl wa.heap.size wa).drew) _) HG.out (by simp) (fun k h => by cases h)) HZ.out.2)
     exact ⟨rfl, ⟨_, hset⟩, hk1.setCell (.inl H.out.1) _, Below.setCell hb1 H.out.2.1 _⟩)
end Go.Proofs.Ytpnbeifbapcmdaa.Nt
