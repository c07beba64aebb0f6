/- slices.Delete at frames; a session's Feed and Next walked. -/
import Derived.Test.YthjjblnkaikmlaaMxA
import Derived.Deep.RegionLawGrows
import Derived.Handy
import Derived.Lib.SliceRun
import Derived.StillTailTactics
namespace Go.Proofs.Ythjjblnkaikmlaa.Mx
open Go.RowKit Go.Proofs.Ythjjblnkaikmlaa.St Go.Proofs.Ythjjblnkaikmlaa.PMuxOnce Go.Proofs.YthjjblnkaikmlaaW.PrintWords Go.Proofs.YthjjblnkaikmlaaW.PrintLast Go.Proofs.YthjjblnkaikmlaaW.PrintMore
set_option linter.unusedVariables false
set_option linter.unusedSimpArgs false
attribute [local go_sem] max2_int min2_int max_two min_two
/-! A region that draws its order, whose last operation t stores what the region's own loads read: S is kept by every operation but t, and t waits for what is taken first. -/
section
variable {P : Program} {ops : Array Oper} {Q : Exit → Act → World → Prop} {md : Region.Mode} {S : World → Prop} {t : Nat}
def wpAnyT (P : Program) (md : Region.Mode) (ops : Array Oper) (Q : Exit → Act → World → Prop) (S : World → Prop) (t : Nat) : Nat → Array Bool → Act → World → Prop
  | 0, listed, a, w => Region.ready md ops listed = [] ∧ Q .normal a w
  | fuel + 1, listed, a, w =>
    (Region.ready md ops listed = [] → Q .normal a w) ∧
    ∀ i ∈ Region.ready md ops listed, wpOp P ops Q i (fun a' w' => (i ≠ t → S w') ∧ wpAnyT P md ops Q S t fuel (listed.setIfInBounds i true) a' w') a w
theorem wpAny_of_T : ∀ (fuel : Nat) (listed : Array Bool) (a : Act) (w : World), wpAnyT P md ops Q S t fuel listed a w → wpAny P md ops Q fuel listed a w
  | 0, _, _, _, h => h
  | fuel + 1, _, _, _, h => ⟨h.1, fun i hi => wpOp_mono (fun a' w' h' => wpAny_of_T fuel _ a' w' h'.2) (h.2 i hi)⟩
def waitsB (md : Region.Mode) (ops : Array Oper) (t i : Nat) : Bool := match ops[t]? with
  | some o => o.after.any fun e => Region.binds md e && e.on == i
  | none => false
theorem wpAnyT_first {i : Nat} {oi : Oper} {v : Value} (hi : ops[i]? = some oi) (hsel : ∀ (j : Nat) (o : Oper) cs b, ops[j]? = some o → o.op ≠ .select cs b)
    (hQ : ∀ c a w, Q (.panic c) (a.put oi.dst v) w → Q (.panic c) a w) (hw : waitsB md ops t i = true) :
    ∀ (fuel : Nat) (listed : Array Bool) (a : Act) (w : World),
      (∀ j oj, ops[j]? = some oj → j ≠ i → listed.getD j true = false → (∀ e ∈ oj.after, Region.binds md e = true → e.on ≠ i) → oi.apart ops oj = true) →
      i ∈ Region.ready md ops listed → YieldsIf P ops S oi v a → S w →
      wpAnyT P md ops Q S t fuel (listed.setIfInBounds i true) (a.put oi.dst v) w → wpAnyT P md ops Q S t (fuel + 1) listed a w := by
  intro fuel
  induction fuel with
  | zero =>
    intro listed a w _ hr hy hS H
    refine ⟨fun h => (by rw [h] at hr; cases hr), fun j hj => ?_⟩
    by_cases hji : j = i
    · subst hji; exact hy.wpOp hi hS ⟨fun _ => hS, H⟩
    · have := ready_mono hj hji
      rw [H.1] at this
      cases this
  | succ fuel ih =>
    intro listed a w hfree hr hy hS H
    refine ⟨fun h => (by rw [h] at hr; cases hr), fun j hj => ?_⟩
    by_cases hji : j = i
    · subst hji; exact hy.wpOp hi hS ⟨fun _ => hS, H⟩
    · have h1 := H.2 j (ready_mono hj hji)
      obtain ⟨hjun, oj, hoj, hall⟩ := mem_ready.1 hj
      have hnot : ∀ e ∈ oj.after, Region.binds md e = true → e.on ≠ i := fun e he hb heq => by
        have h1 := hall e he hb
        have h0 := (mem_ready.1 hr).1
        rw [heq] at h1
        rcases Nat.lt_or_ge i listed.size with h' | h'
        · simp [h'] at h0 h1; rw [h0] at h1; cases h1
        · simp [Array.getElem?_eq_none h'] at h1
      have hjt : j ≠ t := fun e => by
        subst e
        unfold waitsB at hw
        rw [hoj] at hw
        simp only [Array.any_eq_true, Bool.and_eq_true, beq_iff_eq] at hw
        obtain ⟨k, hk, hb, he⟩ := hw
        exact hnot _ (Array.getElem_mem hk) hb he
      have h2 := wpOp_putIf hoj (hfree j oj hoj hji hjun hnot) (fun cs b => hsel i oi cs b hi) (fun cs b => hsel j oj cs b hoj) hQ hy h1
      have hfree' : ∀ k ok, ops[k]? = some ok → k ≠ i → (listed.setIfInBounds j true).getD k true = false →
          (∀ e ∈ ok.after, Region.binds md e = true → e.on ≠ i) → oi.apart ops ok = true := fun k ok hk hki hun hno => by
        refine hfree k ok hk hki ?_ hno
        by_cases hjk : j = k
        · subst hjk; exact hjun
        · rw [getD_set_ne true hjk] at hun; exact hun
      refine wpOp_mono (fun a' w' h3 => ⟨fun _ => h3.2.1 hjt, ih (listed.setIfInBounds j true) a' w' hfree' (ready_mono hr (Ne.symm hji)) h3.1 (h3.2.1 hjt) ?_⟩) h2
      rw [Array.setIfInBounds_comm _ _ hji]
      exact h3.2.2
theorem wpAnyT_take {i : Nat} {oi : Oper} {v : Value} {fuel : Nat} {listed : Array Bool} {a : Act} {w : World} (hi : ops[i]? = some oi)
    (hs : Region.noSelect ops = true) (hf : Region.free md ops listed i = true) (hr : (Region.ready md ops listed).contains i = true) (hw : waitsB md ops t i = true)
    (hQ : ∀ c a w, Q (.panic c) (a.put oi.dst v) w → Q (.panic c) a w) (hy : YieldsIf P ops S oi v a) (hS : S w)
    (h : wpAnyT P md ops Q S t fuel (listed.setIfInBounds i true) (a.put oi.dst v) w) : wpAnyT P md ops Q S t (fuel + 1) listed a w :=
  wpAnyT_first hi (Region.noSelect_spec hs) hQ hw fuel listed a w (Region.free_spec hi hf) (by simpa using hr) hy hS h
theorem wpAnyT_one {i : Nat} {o : Oper} {fuel : Nat} {listed : Array Bool} {a : Act} {w : World} (ho : ops[i]? = some o) (hr : Region.ready md ops listed = [i])
    (h : ∀ K' : Act → World → Prop, (∀ a w, (i ≠ t → S w) → wpAnyT P md ops Q S t fuel (listed.setIfInBounds i true) a w → K' a w) → if Region.wanted o (yielded ops a.tmps) = true then Oper.wp P o a w K' Q else K' (a.put o.dst undef) w) :
    wpAnyT P md ops Q S t (fuel + 1) listed a w := by
  refine ⟨fun h0 => (by rw [hr] at h0; cases h0), fun j hj => ?_⟩
  rw [hr] at hj
  obtain rfl : j = i := by simpa using hj
  exact wpOp_step ho (fun K' hK => h K' (fun a w hS hW => hK a w ⟨hS, hW⟩))
theorem wpAnyT_two {i j : Nat} {o p : Oper} {fuel : Nat} {listed : Array Bool} {a : Act} {w : World} (ho : ops[i]? = some o) (hp : ops[j]? = some p) (hr : Region.ready md ops listed = [i, j])
    (h : ∀ K' : Act → World → Prop, (∀ a w, (i ≠ t → S w) → wpAnyT P md ops Q S t fuel (listed.setIfInBounds i true) a w → K' a w) → if Region.wanted o (yielded ops a.tmps) = true then Oper.wp P o a w K' Q else K' (a.put o.dst undef) w)
    (h2 : ∀ K' : Act → World → Prop, (∀ a w, (j ≠ t → S w) → wpAnyT P md ops Q S t fuel (listed.setIfInBounds j true) a w → K' a w) → if Region.wanted p (yielded ops a.tmps) = true then Oper.wp P p a w K' Q else K' (a.put p.dst undef) w) :
    wpAnyT P md ops Q S t (fuel + 1) listed a w := by
  refine ⟨fun h0 => (by rw [hr] at h0; cases h0), fun k hk => ?_⟩
  rw [hr] at hk
  rcases List.mem_cons.1 hk with rfl | hk
  · exact wpOp_step ho (fun K' hK => h K' (fun a w hS hW => hK a w ⟨hS, hW⟩))
  · obtain rfl : k = j := by simpa using hk
    exact wpOp_step hp (fun K' hK => h2 K' (fun a w hS hW => hK a w ⟨hS, hW⟩))
theorem wpAnyT_done {listed : Array Bool} {a : Act} {w : World} (hr : Region.ready md ops listed = []) (h : Q .normal a w) :
    ∀ fuel, wpAnyT P md ops Q S t fuel listed a w
  | 0 => ⟨hr, h⟩
  | _ + 1 => ⟨fun _ => h, by rw [hr]; simp⟩
end
def cel (x : S44) : List Value := [.int .u8 x.f0, .string x.f1]
def flat (l : List S44) : List Value := l.flatMap cel
theorem flat_cons (x : S44) (l : List S44) : flat (x :: l) = cel x ++ flat l := rfl
theorem flat_app (a b : List S44) : flat (a ++ b) = flat a ++ flat b := by simp [flat]
theorem flat_len (l : List S44) : (flat l).length = l.length * 2 := by
  induction l with
  | nil => rfl
  | cons x r ih => rw [flat_cons, List.length_append, ih, List.length_cons, show (cel x).length = 2 from rfl]; omega
theorem flat_take (l : List S44) : ∀ i, (flat l).take (i * 2) = flat (l.take i) := by
  induction l with
  | nil => intro i; simp [flat]
  | cons x r ih =>
    intro i
    cases i with
    | zero => simp [flat]
    | succ i =>
      rw [List.take_succ_cons, flat_cons, flat_cons, List.take_append, show (cel x).length = 2 from rfl, show (i + 1) * 2 - 2 = i * 2 by omega, ih, List.take_of_length_le (by rw [show (cel x).length = 2 from rfl]; omega)]
theorem flat_drop (l : List S44) : ∀ i, (flat l).drop (i * 2) = flat (l.drop i) := by
  induction l with
  | nil => intro i; simp [flat]
  | cons x r ih =>
    intro i
    cases i with
    | zero => simp
    | succ i =>
      rw [List.drop_succ_cons, flat_cons, List.drop_append, show (cel x).length = 2 from rfl, show (i + 1) * 2 - 2 = i * 2 by omega, ih, List.drop_of_length_le (by rw [show (cel x).length = 2 from rfl]; omega), List.nil_append]
theorem flat_one (l : List Value) : ∀ (xs : List S44), l.length = xs.length * 2 → (∀ j p, xs[j]? = some p → (l.drop (j * 2)).take 2 = cel p) → l = flat xs := by
  intro xs
  induction xs generalizing l with
  | nil => intro h _; exact List.length_eq_zero_iff.1 (by simpa using h)
  | cons x r ih =>
    intro h hc
    have h0 := hc 0 x rfl
    simp only [Nat.zero_mul, List.drop_zero] at h0
    rw [flat_cons, ← h0, ← ih (l.drop 2) (by rw [List.length_drop, h, List.length_cons]; omega) (fun j p hp => by
      have := hc (j + 1) p (by simpa using hp)
      rw [List.drop_drop, show 2 + j * 2 = (j + 1) * 2 by omega]
      exact this), List.take_append_drop]
theorem chunk (l : List S44) (j : Nat) (p : S44) (h : l[j]? = some p) : ((flat l).drop (j * 2)).take 2 = cel p := by
  obtain ⟨hj, hp⟩ := List.getElem?_eq_some_iff.1 h
  rw [flat_drop, List.drop_eq_getElem_cons hj, flat_cons, hp]
  rfl
theorem row_iff {e b : Nat} {S : Nat → Prop} {w : World} {v : Value} {l : List S44} : Kd.R k44 e w b S v l ↔ (∀ k, v.ownBlock = some k → S k) ∧ w.ownsRow b e 2 v l.length (flat l) := by
  constructor
  · rintro ⟨h1, inner, ho, hr⟩
    have e : inner = flat l := flat_one inner l hr.1 (fun j p hp => by
      have := k44_openM (hr.2 j p hp)
      exact this)
    exact ⟨h1, e ▸ ho⟩
  · rintro ⟨h1, ho⟩
    refine ⟨h1, flat l, ho, flat_len l, fun j p hp => ?_⟩
    show k44.M _ _ _ p (((flat l).drop (j * 2)).take 2)
    rw [chunk l j p hp]
    exact k44_mkM _ _ _ p
theorem one_cell (l : List S44) : ∀ u ∈ flat l, u.oneCell' = true := by
  intro u hu
  obtain ⟨x, _, hx⟩ := List.mem_flatMap.1 hu
  simp only [cel, List.mem_cons, List.not_mem_nil, or_false] at hx
  rcases hx with rfl | rfl <;> rfl
theorem run_clear2 (w : World) (ty : TypeId) (b o c : Nat) 
    (hc : ∀ j, j < 2 → (w.cell? ⟨b, o + j, none⟩).isSome = true) (hf : ∀ j, j < 2 → w.frozen? ⟨b, o + j, none⟩ = false) :
    (Builtin.clear_ #[22] ty #[.slice (some ⟨b, o, none⟩) 1 c]).run Try.prog w = .ok (.tuple #[]) (w.setCells b o [.int .u8 0, .string ⟨#[]⟩]) := by
  have hst := run_storeCells_cells (P := Try.prog) b o [.int .u8 0, .string ⟨#[]⟩] 0 w (by simpa using hc) (by simpa using hf) (by intro v hv; simp at hv; rcases hv with rfl | rfl <;> rfl)
  simp only [Nat.add_zero] at hst
  have hu := Try.underlying22
  have hz : ∀ w, (zeroValue 44).run Try.prog w = .ok (.agg #[.int .u8 0, .string ⟨#[]⟩]) w := fun w => by kernel_rfl
  have hzc : (Builtin.zeroCells (Value.agg #[.int .u8 0, .string ⟨#[]⟩]).cells 1).toList = [.int .u8 0, .string ⟨#[]⟩] := by kernel_rfl
  simp [Builtin.clear_, run_underlying hu, hz, hzc, hst]
def zs : List Value := [.int .u8 0, .string ⟨#[]⟩]
theorem del_list (i n : Nat) (cur cur1 cur2 : List Value) (l : List S44) (hn : n = l.length) (hi : i < n) (hc : cur.take (n * 2) = flat l) (h1 : cur1 = cur.take (i * 2) ++ (flat l).drop ((i + 1) * 2) ++ cur.drop (i * 2 + ((flat l).drop ((i + 1) * 2)).length)) (h2 : cur2 = cur1.take ((n - 1) * 2) ++ zs ++ cur1.drop ((n - 1) * 2 + 2)) :
    cur2.take ((n - 1) * 2) = flat (l.eraseIdx i) := by
  have hfl := flat_len l
  have hcl : n * 2 ≤ cur.length := by
    have := congrArg List.length hc
    rw [List.length_take, hfl, ← hn] at this
    omega
  have hnl : ((flat l).drop ((i + 1) * 2)).length = (n - (i + 1)) * 2 := by rw [List.length_drop, hfl, ← hn]; omega
  have htk : cur.take (i * 2) = (flat l).take (i * 2) := by rw [← hc, List.take_take, Nat.min_eq_left (by omega)]
  have htl : ((flat l).take (i * 2)).length = i * 2 := by rw [List.length_take, hfl]; omega
  have e1 : cur1.take ((n - 1) * 2) = (flat l).take (i * 2) ++ (flat l).drop ((i + 1) * 2) := by
    rw [h1, htk, List.take_append_of_le_length (by rw [List.length_append, htl, hnl]; omega), List.take_of_length_le (by rw [List.length_append, htl, hnl]; omega)]
  have e2 : (cur1.take ((n - 1) * 2)).length = (n - 1) * 2 := by rw [e1, List.length_append, htl, hnl]; omega
  rw [h2, List.append_assoc, List.take_append_of_le_length (by omega), List.take_of_length_le (by omega), e1, flat_take, flat_drop, ← flat_app, List.eraseIdx_eq_take_drop_succ]
set_option maxHeartbeats 4000000 in
set_option maxRecDepth 1000000 in
theorem delete_calls (q c i m : Nat) (l : List S44) (w : World) (cur : Array Value) (hq : w.heap[q]? = some (.cells cur 44 (0, 0))) (hn : l.length ≤ c) (hm : c ≤ maxLen) (hcs : cur.size = c * 2) (hfl : cur.toList.take (l.length * 2) = flat l) (hi : i < l.length) (hlm : l.length = m + 1) :
    Calls Try.prog 33 #[.slice (some ⟨q, 0, none⟩) (m + 1) c, .int .i64 (i : Int), .int .i64 ((i : Int) + 1)] w fun e w' => e = .returned (.slice (some ⟨q, 0, none⟩) m c) ∧ (∃ cur', w'.heap[q]? = some (.cells cur' 44 (0, 0)) ∧ cur'.size = c * 2 ∧ cur'.toList.take (m * 2) = flat (l.eraseIdx i)) ∧ (∀ k, k ≠ q → w'.heap[k]? = w.heap[k]?) ∧ w'.heap.size = w.heap.size ∧ w'.os = w.os ∧ w'.tape = w.tape ∧ w'.output = w.output := by
  have hfl2 := flat_len l
  have hlm1 : l.length - 1 = m := by omega
  obtain ⟨news, hnews⟩ : ∃ news, news = (flat l).drop ((i + 1) * 2) := ⟨_, rfl⟩
  have hnl : news.length = (l.length - (i + 1)) * 2 := by rw [hnews, List.length_drop, hfl2]; omega
  have hget : ∀ j u, news[j]? = some u → cur[(i + 1) * 2 + j]? = some u := fun j u hu => by
    rw [hnews, ← hfl, List.getElem?_drop, List.getElem?_take] at hu
    split at hu
    · simpa using hu
    · cases hu
  obtain ⟨ad, hA, hsrc⟩ : ∃ ad : Addr, (if c = i + 1 then (⟨q, 0, none⟩ : Addr) else ⟨q, (i + 1) * 2, none⟩) = ad ∧ Aside0 (∀ j u, news[j]? = some u → w.drew.cell? (ad.add j) = some u) := by
    by_cases h : c = i + 1
    · refine ⟨⟨q, 0, none⟩, by rw [if_pos h], ⟨fun j u hu => ?_⟩⟩
      have := (List.getElem?_eq_some_iff.1 hu).1
      rw [hnl] at this
      omega
    · refine ⟨⟨q, (i + 1) * 2, none⟩, by rw [if_neg h], ⟨fun j u hu => ?_⟩⟩
      have hadd : (⟨q, (i + 1) * 2, none⟩ : Addr).add j = ⟨q, (i + 1) * 2 + j, none⟩ := by unfold Addr.add; split <;> simp_all
      rw [hadd]
      exact (cell_of_row w q _ cur 44 (0, 0) hq).trans (hget j u hu)
  have hold : ∀ j, j < c * 2 → ∀ W : World, W.heap[q]? = some (.cells cur 44 (0, 0)) → (W.cell? ⟨q, j, none⟩).isSome = true := fun j hj W hW => by
    rw [cell_of_row W q j cur 44 (0, 0) hW, Array.getElem?_eq_getElem (by omega)]
    rfl
  have hsp : Aside0 (∀ j, j < news.length → (w.drew.cell? ⟨q, 0 + i * 2 + j, none⟩).isSome = true ∧ w.drew.frozen? ⟨q, 0 + i * 2 + j, none⟩ = false) := ⟨fun j hj => by
    rw [hnl] at hj
    exact ⟨hold _ (by omega) w.drew hq, blk_frozen (w := w.drew) hq _⟩⟩
  obtain ⟨W1, hW1⟩ : ∃ W1, W1 = w.drew.setCells q (0 + i * 2) news := ⟨_, rfl⟩
  obtain ⟨cur1, hc1, hs1, hl1⟩ := setCells_row news (0 + i * 2) w.drew cur hq (by rw [hnl, hcs]; omega)
  rw [← hW1] at hc1
  obtain ⟨cur2, hc2, hs2, hl2⟩ := setCells_row zs (m * 2) W1 cur1 hc1 (by rw [hs1, hcs]; simp [zs]; omega)
  obtain ⟨a1, a2, a3, a4⟩ := setCells_same q news (0 + i * 2) w.drew
  obtain ⟨b1, b2, b3, b4⟩ := setCells_same q zs (m * 2) W1
  have hfar : ∀ k, k ≠ q → (W1.setCells q (m * 2) zs).heap[k]? = w.heap[k]? := fun k hk => (setCells_far zs _ k hk).trans (by rw [hW1]; exact setCells_far news _ k hk)
  have hlast := del_list i l.length cur.toList cur1.toList cur2.toList l rfl hi hfl (by rw [hl1, hnews, Nat.zero_add]) (by rw [hl2, hlm1]; rfl)
  rw [hlm1] at hlast
  have hcl : ∀ ty c', (Builtin.clear_ #[22] ty #[.slice (some ⟨q, m * 2, none⟩) 1 c']).run Try.prog W1 = .ok (.tuple #[]) (W1.setCells q (m * 2) zs) := fun ty c' => run_clear2 W1 ty q _ c' (fun j hj => by
    rw [cell_of_row W1 q _ cur1 44 (0, 0) hc1, Array.getElem?_eq_getElem (by omega)]
    rfl) (fun j hj => blk_frozen hc1 _)
  have HF := Aside0.mk (And.intro hc2 (And.intro (hs2.trans (hs1.trans hcs)) hlast))
  have HFAR := Aside0.mk hfar
  rw [← hW1] at a1 a2 a3 a4
  have HS := Aside0.mk (And.intro (b4.trans a4) (And.intro (b1.trans a1) (And.intro (b2.trans a2) (b3.trans a3))))
  have HW1 := Aside0.mk hW1
  have HNE := Aside0.mk hnews
  obtain ⟨i0, hi0, hz0, hz1, hz2⟩ := info_parts info44
  have I0 := Aside0.mk hi0
  have I1 := Aside0.mk hz1
  have h1 : i ≤ c := by omega
  have h2 : i + 1 ≤ c := by omega
  have h3 : (i : Int) ≠ (i : Int) + 1 := by omega
  have h4 : (0 : Int) ≤ (i : Int) := by omega
  have h5 : (i : Int) ≤ (i : Int) + 1 := by omega
  have h6 : (i : Int) ≤ (m : Int) := by omega
  have h7 : (0 : Int) ≤ (i : Int) + 1 := by omega
  have h8 : m ≤ c := by omega
  have h9 : m + 1 ≤ c := by omega
  have e9 : i + (l.length - (i + 1)) = m := by omega
  have e8 : l.length - (i + 1) = m - i := by omega
  rw [e8] at hnl
  have HNL := Aside0.mk hnl
  have E9 : Aside0 (i + (m - i) = m) := ⟨by omega⟩
  have HLM := Aside0.mk hlm
  have HI := Aside0.mk hi
  have HN := Aside0.mk hn
  clear e9 e8 hlm1 hlm hfl2 hnl hget hold hfl hq hcs hW1 hc1 hs1 hl1 hc2 hs2 hl2 a1 a2 a3 a4 b1 b2 b3 b4 hfar hlast hi0 hz0 hz1 hz2 hnews hm hi hn
  have hAA : (c = i + 1) = True ∧ ad = ⟨q, 0, none⟩ ∨ (c = i + 1) = False ∧ ad = ⟨q, (i + 1) * 2, none⟩ := by
    by_cases h : c = i + 1
    · rw [if_pos h] at hA
      exact .inl ⟨eq_true h, hA.symm⟩
    · rw [if_neg h] at hA
      exact .inr ⟨eq_false h, hA.symm⟩
  clear hA
  rcases hAA with ⟨hcc, rfl⟩ | ⟨hcc, rfl⟩
  all_goals
    (go_enter Try.func33, Try.ntmps33
     go_wp2_with fail
     go_region_held3 (fun _ => True) (trivial) ((refine step_append_room (by rfl) (.tmp 22) (.tmp 25) 22 (by rfl) 44 i0 2 Try.underlying22 I0.out I1.out q 0 i c (by rfl) _ (m - i) (c - (i + 1)) news (by rfl) HNL.out hsrc.out (by rw [HNE.out]; exact fun u hu => one_cell l u (List.mem_of_mem_drop hu)) (by have := HI.out; have := HN.out; have := HLM.out; omega) hsp.out ?_; rw [← HW1.out]))
     rw [E9.out]
     go_wp2_with fail
     go_ret
     exact ⟨rfl, ⟨cur2, HF.out⟩, HFAR.out, HS.out⟩)
/-- What Feed answers and does. -/
def feedM (M : MSt) (l : List Int) : Int × MSt :=
  if M.wd = 5 then (3, M) else if 4 ≤ M.ahead.length then (5, M) else
  if (runS M.s l).at_ = 3 ∧ M.broke = false then (0, { M with s := emptied (runS M.s l), ahead := M.ahead ++ (runS M.s l).out ++ [⟨0, ⟨#[]⟩⟩], broke := true })
  else (0, { M with s := emptied (runS M.s l), ahead := M.ahead ++ (runS M.s l).out })
section
variable {S S' Sr S1 : Nat → Prop} {b bo g gr : Nat} {w w1 : World} {vt vt1 va vb v1 : Value} {M M' : MSt}
theorem MR.row (h : MR S Sr b w g gr vt va vb M) : Kd.R k44 44 w b (fun k => S k ∧ ¬ Sr k) va M.ahead := h.2.2.2.2.2.2.1
theorem MR.fed (h : MR S Sr b w g gr vt va vb M) (hb : ∀ k, S k → k < w.heap.size) (s' : RS) (hk : Kept w w1 Sr) (h1 : ∀ k, S1 k → Sr k ∨ w.heap.size ≤ k) (h2 : Rdr S1 b bo w1 gr s'.at_ s'.lacks vt1 (.slice none 0 0) s'.text []) (ho : okS s') : MR (fun k => S k ∨ w.heap.size ≤ k) S1 b w1 g gr vt1 va vb { M with s := emptied s' } := by
  have hn : ∀ k, S k → ¬ Sr k → ¬ S1 k := fun k hs hr h => (h1 k h).elim hr (fun h => Nat.not_lt.2 h (hb k hs))
  exact ⟨.inl h.1, h.2.1, hn g h.1 h.2.2.1, fun k hk => (h1 k hk).elim (fun h3 => .inl (h.2.2.2.1 k h3)) .inr, (hk.2 g (blk_lt h.blk) h.2.2.1).trans h.blk, ⟨h2.1, h2.2.1, h2.2.2.1, h2.2.2.2.1, Kd.R_nil _ _ _ _ _⟩, Kd.R_mono (Kd.R_step h.2.2.2.2.2.2.1 fun k hs hl => hk.2 k hl hs.2) (fun k hs => ⟨.inl hs.1, hn k hs.1 hs.2⟩), Kd.R_mono (Kd.R_step h.2.2.2.2.2.2.2.1 fun k hs hl => hk.2 k hl hs.2) (fun k hs => ⟨.inl hs.1, hn k hs.1 hs.2⟩), rfl, ho⟩
end
set_option maxHeartbeats 4000000 in
set_option maxRecDepth 100000 in
theorem feed_calls' (S : Nat → Prop) (b g : Nat) (M : MSt) (A0 : Option Addr) (c0 : Nat) (l : List Int) (w : World) (h : MX S b w g M) (hC : ∀ W', Kept w W' S → Kd.C (Kd.int .u8) W' A0 l.length l) (hc0 : l.length ≤ c0) (hby : ∀ x ∈ l, 0 ≤ x ∧ x < 256) (hl : l.length ≤ 900000) :
    Calls Try.prog 9 #[.pointer (some ⟨g, 0, none⟩), .slice A0 l.length c0] w fun e w' => e = .returned (.int .i64 (feedM M l).1) ∧ Goes S b w g w' (feedM M l).2 := by
  by_cases h5 : M.wd = 5
  · have e : feedM M l = (3, M) := by unfold feedM; rw [if_pos h5]
    rw [e]
    have E5 : (M.wd == 5) = true := by rw [h5]; rfl
    obtain ⟨h1, h2, Sr, gr, vt, va, vb, hm⟩ := h
    obtain ⟨c0, c1, c2, c3, c4, c5, c6, c7⟩ := hm.cells
    have H := Aside0.mk (show MX S b w g M from ⟨h1, h2, Sr, gr, vt, va, vb, hm⟩)
    clear hm h1 h2 hC
    rw [h5] at c4
    go_enter Try.func9, Try.ntmps9
    go_wp2_with fail
    go_ret
    exact ⟨rfl, Goes.refl H.out⟩
  have N5 : (M.wd == 5) = false := beq_eq_false_iff_ne.2 h5
  obtain ⟨h1, h2, Sr, gr, vt, va, vb, hm⟩ := h
  obtain ⟨Aa, na, rfl⟩ := Kd.R_slice hm.row
  obtain ⟨d0, d1, d2, d3, d4, d5, d6, d7⟩ := hm.cells
  have H := Aside0.mk (show MX S b w g M from ⟨h1, h2, Sr, gr, vt, _, vb, hm⟩)
  by_cases h4 : 4 ≤ M.ahead.length
  · have e : feedM M l = (5, M) := by unfold feedM; rw [if_neg h5, if_pos h4]
    rw [e]
    have E4 : (4 : Int) ≤ (M.ahead.length : Int) := by omega
    clear hm h1 h2 hC
    go_enter Try.func9, Try.ntmps9
    go_wp2_with fail
    go_ret
    exact ⟨rfl, Goes.refl H.out⟩
  have E4 : ¬ (4 : Int) ≤ (M.ahead.length : Int) := by omega
  have HM := Aside0.mk hm
  have HI := Aside0.mk h1
  have HW := Aside0.mk h2
  have HC := Aside0.mk hC
  have HC0 := Aside0.mk hc0
  have HBY := Aside0.mk hby
  have HLL := Aside0.mk hl
  have H4 := Aside0.mk h4
  have H5 := Aside0.mk h5
  clear hm h1 h2 hC hc0 hby hl h4 h5
  have fg : w.drew.frozen? ⟨g, 1, none⟩ = false := HM.out.frozen 1
  go_enter Try.func9, Try.ntmps9
  go_wp2_with fail
  have hHeld : (fun w' => w'.cell? ⟨g, 0, none⟩ = some (.pointer (some ⟨gr, 0, none⟩)) ∧ w'.cell? ⟨g, 1, none⟩ = some (.slice Aa M.ahead.length na)) w.drew := ⟨d0, d1⟩
  refine wp_region_noPanic ?_
  refine wp_region_any (by kernel_rfl) ?_
  change wpAny _ _ _ _ _ _ _ (World.drew _)
  refine wpAny_of_T (S := (fun w' => w'.cell? ⟨g, 0, none⟩ = some (.pointer (some ⟨gr, 0, none⟩)) ∧ w'.cell? ⟨g, 1, none⟩ = some (.slice Aa M.ahead.length na))) (t := 14) _ _ _ _ ?_
  refine wpAnyT_take (i := 0) (oi := { dst := some 18, op := Op.move (Operand.tmp 0), type := 28, pos := "mux.go:111", after := #[], guard := none }) (v := ?vr0x1) rfl (by kernel_rfl) (by kernel_rfl) (by kernel_rfl) (by kernel_rfl) (fun _ _ _ h => h) (Or.inl ⟨by rfl, ?hyr0x1⟩) hHeld ?restr0x1
  case hyr0x1 =>
    intro w hSw
    try dsimp only at hSw
    go_simp
    all_goals with_reducible rfl
  (try simp only [Act.put, List.setIfInBounds_toArray, List.set_cons_zero, List.set_cons_succ])
  refine wpAnyT_take (i := 1) (oi := { dst := some 19, op := Op.move (Operand.tmp 0), type := 28, pos := "mux.go:111", after := #[], guard := none }) (v := ?vr1x2) rfl (by kernel_rfl) (by kernel_rfl) (by kernel_rfl) (by kernel_rfl) (fun _ _ _ h => h) (Or.inl ⟨by rfl, ?hyr1x2⟩) hHeld ?restr1x2
  case hyr1x2 =>
    intro w hSw
    try dsimp only at hSw
    go_simp
    all_goals with_reducible rfl
  (try simp only [Act.put, List.setIfInBounds_toArray, List.set_cons_zero, List.set_cons_succ])
  refine wpAnyT_take (i := 2) (oi := { dst := some 20, op := Op.nilCheck (Operand.tmp 19), type := 0, pos := "mux.go:111", after := #[{ on := 1, ground := Ground.data }], guard := none }) (v := ?vr2x3) rfl (by kernel_rfl) (by kernel_rfl) (by kernel_rfl) (by kernel_rfl) (fun _ _ _ h => h) (Or.inl ⟨by rfl, ?hyr2x3⟩) hHeld ?restr2x3
  case hyr2x3 =>
    intro w hSw
    try dsimp only at hSw
    go_simp
    all_goals with_reducible rfl
  (try simp only [Act.put, List.setIfInBounds_toArray, List.set_cons_zero, List.set_cons_succ])
  refine wpAnyT_take (i := 3) (oi := { dst := some 21, op := Op.fieldAddr 71 (Operand.tmp 20) 1, type := 0, pos := "mux.go:111", after := #[{ on := 2, ground := Ground.data }], guard := none }) (v := ?vr3x4) rfl (by kernel_rfl) (by kernel_rfl) (by kernel_rfl) (by kernel_rfl) (fun _ _ _ h => h) (Or.inl ⟨by rfl, ?hyr3x4⟩) hHeld ?restr3x4
  case hyr3x4 =>
    intro w hSw
    try dsimp only at hSw
    go_simp
    all_goals with_reducible rfl
  (try simp only [Act.put, List.setIfInBounds_toArray, List.set_cons_zero, List.set_cons_succ])
  refine wpAnyT_take (i := 4) (oi := { dst := some 22, op := Op.load 22 (Operand.tmp 21), type := 22, pos := "mux.go:111", after := #[{ on := 3, ground := Ground.data }], guard := none }) (v := ?vr4x5) rfl (by kernel_rfl) (by kernel_rfl) (by kernel_rfl) (by kernel_rfl) (fun _ _ _ h => h) (Or.inl ⟨by rfl, ?hyr4x5⟩) hHeld ?restr4x5
  case hyr4x5 =>
    intro w hSw
    try dsimp only at hSw
    go_simp
    all_goals with_reducible rfl
  (try simp only [Act.put, List.setIfInBounds_toArray, List.set_cons_zero, List.set_cons_succ])
  refine wpAnyT_take (i := 5) (oi := { dst := some 23, op := Op.move (Operand.tmp 0), type := 28, pos := "mux.go:111", after := #[], guard := none }) (v := ?vr5x6) rfl (by kernel_rfl) (by kernel_rfl) (by kernel_rfl) (by kernel_rfl) (fun _ _ _ h => h) (Or.inl ⟨by rfl, ?hyr5x6⟩) hHeld ?restr5x6
  case hyr5x6 =>
    intro w hSw
    try dsimp only at hSw
    go_simp
    all_goals with_reducible rfl
  (try simp only [Act.put, List.setIfInBounds_toArray, List.set_cons_zero, List.set_cons_succ])
  refine wpAnyT_take (i := 6) (oi := { dst := some 24, op := Op.nilCheck (Operand.tmp 23), type := 0, pos := "mux.go:111", after := #[{ on := 5, ground := Ground.data }], guard := none }) (v := ?vr6x7) rfl (by kernel_rfl) (by kernel_rfl) (by kernel_rfl) (by kernel_rfl) (fun _ _ _ h => h) (Or.inl ⟨by rfl, ?hyr6x7⟩) hHeld ?restr6x7
  case hyr6x7 =>
    intro w hSw
    try dsimp only at hSw
    go_simp
    all_goals with_reducible rfl
  (try simp only [Act.put, List.setIfInBounds_toArray, List.set_cons_zero, List.set_cons_succ])
  refine wpAnyT_take (i := 7) (oi := { dst := some 25, op := Op.fieldAddr 71 (Operand.tmp 24) 0, type := 0, pos := "mux.go:111", after := #[{ on := 6, ground := Ground.data }], guard := none }) (v := ?vr7x8) rfl (by kernel_rfl) (by kernel_rfl) (by kernel_rfl) (by kernel_rfl) (fun _ _ _ h => h) (Or.inl ⟨by rfl, ?hyr7x8⟩) hHeld ?restr7x8
  case hyr7x8 =>
    intro w hSw
    try dsimp only at hSw
    go_simp
    all_goals with_reducible rfl
  (try simp only [Act.put, List.setIfInBounds_toArray, List.set_cons_zero, List.set_cons_succ])
  refine wpAnyT_take (i := 8) (oi := { dst := some 26, op := Op.load 63 (Operand.tmp 25), type := 63, pos := "mux.go:111", after := #[{ on := 7, ground := Ground.data }], guard := none }) (v := ?vr8x9) rfl (by kernel_rfl) (by kernel_rfl) (by kernel_rfl) (by kernel_rfl) (fun _ _ _ h => h) (Or.inl ⟨by rfl, ?hyr8x9⟩) hHeld ?restr8x9
  case hyr8x9 =>
    intro w hSw
    try dsimp only at hSw
    go_simp
    all_goals with_reducible rfl
  (try simp only [Act.put, List.setIfInBounds_toArray, List.set_cons_zero, List.set_cons_succ])
  refine wpAnyT_take (i := 9) (oi := { dst := some 27, op := Op.move (Operand.tmp 1), type := 31, pos := "mux.go:111", after := #[], guard := none }) (v := ?vr9x10) rfl (by kernel_rfl) (by kernel_rfl) (by kernel_rfl) (by kernel_rfl) (fun _ _ _ h => h) (Or.inl ⟨by rfl, ?hyr9x10⟩) hHeld ?restr9x10
  case hyr9x10 =>
    intro w hSw
    try dsimp only at hSw
    go_simp
    all_goals with_reducible rfl
  (try simp only [Act.put, List.setIfInBounds_toArray, List.set_cons_zero, List.set_cons_succ])
  refine wpAnyT_one (i := 10) (o := { dst := some 28, op := Op.call { callee := Callee.value (Operand.func 31), args := #[Operand.tmp 26, Operand.tmp 27], argTypes := #[63, 31] }, type := 22, pos := "mux.go:111", after := #[{ on := 8, ground := Ground.data }, { on := 9, ground := Ground.data }], guard := none }) rfl (by kernel_rfl) (fun KK hKK => ?_)
  go_simp
  refine (feed_calls Sr b b gr M.s vt A0 c0 l w.drew (HM.out.step (w1 := w.drew) (fun _ _ _ => rfl)).2.2.2.2.2.1 HM.out.2.2.2.2.2.2.2.2.1 HM.out.2.2.2.2.2.2.2.2.2 HW.out (fun W' hk => HC.out W' ⟨hk.1, fun i hi hs => hk.2 i hi (fun hr => hs (HM.out.2.2.2.1 i hr))⟩) HC0.out HBY.out (Nat.le_trans HLL.out (by decide))).mono ?_
  rintro e w1 ⟨v, vt1, S1, rfl, i1, i2, i3, i4, i5, i6⟩
  obtain ⟨A1, n1, rfl⟩ := Kd.R_slice i4
  obtain ⟨out, hout⟩ : ∃ out, out = (runS M.s l).out := ⟨_, rfl⟩
  rw [← hout] at i4
  rw [← hout]
  have HOUT := Aside0.mk hout
  have HOL : Aside0 (out.length ≤ 900000) := ⟨by rw [hout]; have := run_out_len l M.s; rw [HM.out.2.2.2.2.2.2.2.2.1] at this; exact Nat.le_trans (by simpa using this) HLL.out⟩
  have hf := HM.out.step (w1 := w.drew) (fun _ _ _ => rfl) |>.fed HI.out (runS M.s l) i5 i1 i3 (run_okS HM.out.2.2.2.2.2.2.2.2.2 l HBY.out)
  have q0 := hf.cells.1
  have q1 := hf.cells.2.1
  have hH10 : (fun w' => w'.cell? ⟨g, 0, none⟩ = some (.pointer (some ⟨gr, 0, none⟩)) ∧ w'.cell? ⟨g, 1, none⟩ = some (.slice Aa M.ahead.length na)) w1 := ⟨q0, q1⟩
  have HF := Aside0.mk hf
  have HO1 := Aside0.mk i4
  have HK1 := Aside0.mk i5
  have HB1 := Aside0.mk i6
  have HS1 := Aside0.mk i2
  have HW1 : Aside0 (b ≤ w1.heap.size) := ⟨Nat.le_trans HW.out i5.1⟩
  have HSB0 := Aside0.mk i2
  clear hf i1 i2 i3 i4 i5 i6 q0 q1 hout
  refine hKK _ _ (fun _ => hH10) ?_
  clear hKK KK
  (try simp only [Act.put, List.setIfInBounds_toArray, List.set_cons_zero, List.set_cons_succ])
  refine wpAnyT_one (i := 11) (o := { dst := some 29, op := Op.call { callee := Callee.builtin Builtin.append, args := #[Operand.tmp 22, Operand.tmp 28], argTypes := #[22, 22] }, type := 22, pos := "mux.go:111", after := #[{ on := 4, ground := Ground.data }, { on := 10, ground := Ground.data }, { on := 10, ground := Ground.chain }], guard := none }) rfl (by kernel_rfl) (fun KK hKK => ?_)
  refine Kd.R_append_rows_step k44 (w0 := w1) (W := w1) b rfl (.tmp 22) (.tmp 28) 22 44 (.agg #[(.int .u8 0), (.string ⟨#[]⟩)]) 24 rfl Try.underlying22 info44 rfl (by decide) (by omega) _ M.ahead out A1 out.length n1 (fun k => (S k ∨ w.heap.size ≤ k) ∧ ¬ S1 k) (fun _ => False) rfl rfl HF.out.row (Kd.R_reads' HO1.out).2.2 (fun _ _ h => k44_KM h) (fun _ h => h.elim) (fun k hk => ⟨.inr (Nat.le_trans HK1.out.1 hk), fun hs => Nat.not_lt.2 hk (HS1.out k hs)⟩) (Below.refl _ _) HW1.out (by have := H4.out; have := HOL.out; omega) ?_
  intro v2 w2 ho hb hg hat
  obtain ⟨a2, ha2⟩ : ∃ a2, a2 = M.ahead ++ out := ⟨_, rfl⟩
  rw [← ha2] at ho
  have HA2 := Aside0.mk ha2
  clear ha2
  obtain ⟨A2, n2, e2⟩ := Kd.R_slice ho
  subst e2
  have hmo := HF.out.more hg ho
  have hbk : w2.heap[g]? = some (.cells (cellsM gr (.slice Aa M.ahead.length na) vb { M with s := emptied (runS M.s l) }) 71 (0, 0)) := blk_grown HF.out.blk hg (Kd.R_ne HF.out.row HF.out.blk (by decide))
  have q1 : w2.cell? ⟨g, 1, none⟩ = some (.slice Aa M.ahead.length na) := (blk_cell hbk 1).trans rfl
  have q0 : w2.cell? ⟨g, 0, none⟩ = some (.pointer (some ⟨gr, 0, none⟩)) := (blk_cell hbk 0).trans rfl
  have qf : w2.frozen? ⟨g, 1, none⟩ = false := blk_frozen hbk 1
  have hH11 : (fun w' => w'.cell? ⟨g, 0, none⟩ = some (.pointer (some ⟨gr, 0, none⟩)) ∧ w'.cell? ⟨g, 1, none⟩ = some (.slice Aa M.ahead.length na)) w2 := ⟨q0, q1⟩
  have HMO := Aside0.mk hmo
  have HSB : Aside0 (∀ k, S1 k → k < (w2.setCell ⟨g, 1, none⟩ (Value.slice A2 a2.length n2)).heap.size) := ⟨fun k hk => Nat.lt_of_lt_of_le (HSB0.out k hk) (by simpa [World.setCell] using hg.size)⟩
  have HK2 : Aside0 (Kept w.drew w2 S) := ⟨Kept.of_grown hg ⟨HK1.out.1, fun i hi hs => HK1.out.2 i hi (fun hr => hs (HM.out.2.2.2.1 i hr))⟩ (fun k hk => (HF.out.row.1 k hk).1.elim .inl .inr)⟩
  have HB2 := Aside0.mk (HB1.out.trans hb)
  clear ho hb hg hat hbk hmo
  refine hKK _ _ (fun _ => hH11) ?_
  clear hKK KK
  (try simp only [Act.put, List.setIfInBounds_toArray, List.set_cons_zero, List.set_cons_succ])
  refine wpAnyT_one (i := 12) (o := { dst := some 30, op := Op.nilCheck (Operand.tmp 18), type := 0, pos := "mux.go:111", after := #[{ on := 0, ground := Ground.data }, { on := 0, ground := Ground.phase }, { on := 1, ground := Ground.phase }, { on := 2, ground := Ground.phase }, { on := 3, ground := Ground.phase }, { on := 4, ground := Ground.phase }, { on := 5, ground := Ground.phase }, { on := 6, ground := Ground.phase }, { on := 7, ground := Ground.phase }, { on := 8, ground := Ground.phase }, { on := 9, ground := Ground.phase }, { on := 10, ground := Ground.phase }, { on := 11, ground := Ground.phase }], guard := none }) rfl (by kernel_rfl) (fun KK hKK => ?_)
  go_simp
  refine hKK _ _ (fun _ => hH11) ?_
  clear hKK KK
  (try simp only [Act.put, List.setIfInBounds_toArray, List.set_cons_zero, List.set_cons_succ])
  refine wpAnyT_take (i := 13) (oi := { dst := some 31, op := Op.fieldAddr 71 (Operand.tmp 30) 1, type := 0, pos := "mux.go:111", after := #[{ on := 12, ground := Ground.data }, { on := 0, ground := Ground.phase }, { on := 1, ground := Ground.phase }, { on := 2, ground := Ground.phase }, { on := 3, ground := Ground.phase }, { on := 4, ground := Ground.phase }, { on := 5, ground := Ground.phase }, { on := 6, ground := Ground.phase }, { on := 7, ground := Ground.phase }, { on := 8, ground := Ground.phase }, { on := 9, ground := Ground.phase }, { on := 10, ground := Ground.phase }, { on := 11, ground := Ground.phase }], guard := none }) (v := ?vr13x11) rfl (by kernel_rfl) (by kernel_rfl) (by kernel_rfl) (by kernel_rfl) (fun _ _ _ h => h) (Or.inl ⟨by rfl, ?hyr13x11⟩) hH11 ?restr13x11
  case hyr13x11 =>
    intro w hSw
    try dsimp only at hSw
    go_simp
    all_goals with_reducible rfl
  (try simp only [Act.put, List.setIfInBounds_toArray, List.set_cons_zero, List.set_cons_succ])
  refine wpAnyT_one (i := 14) (o := { dst := none, op := Op.store 22 (Operand.tmp 31) (Operand.tmp 29), type := 0, pos := "mux.go:111", after := #[{ on := 13, ground := Ground.data }, { on := 11, ground := Ground.data }, { on := 11, ground := Ground.chain }, { on := 0, ground := Ground.phase }, { on := 1, ground := Ground.phase }, { on := 2, ground := Ground.phase }, { on := 3, ground := Ground.phase }, { on := 4, ground := Ground.phase }, { on := 5, ground := Ground.phase }, { on := 6, ground := Ground.phase }, { on := 7, ground := Ground.phase }, { on := 8, ground := Ground.phase }, { on := 9, ground := Ground.phase }, { on := 10, ground := Ground.phase }, { on := 11, ground := Ground.phase }], guard := none }) rfl (by kernel_rfl) (fun KK hKK => ?_)
  go_simp
  refine hKK _ _ (fun h => absurd rfl h) ?_
  clear hKK KK
  (try simp only [Act.put, List.setIfInBounds_toArray, List.set_cons_zero, List.set_cons_succ])
  refine wpAnyT_done (by kernel_rfl) ?_ _
  refine NoPanic.normal ?_
  have HK3 : Aside0 (Kept w (w2.setCell ⟨g, 1, none⟩ (Value.slice A2 a2.length n2)) S) := ⟨((Kept.of_below ((Below.refl w.heap.size w).drew) S).then_ HK2.out (fun _ h => .inl h)).setCell (.inl HM.out.1) _⟩
  have HB3 : Aside0 (Below b w (w2.setCell ⟨g, 1, none⟩ (Value.slice A2 a2.length n2))) := ⟨Below.setCell (((Below.refl b w).drew).trans HB2.out) HM.out.2.1 _⟩
  have hmo := HMO.out
  clear hH10 hH11 q0 q1 qf fg HMO HK2 HB2 HF HO1 HK1 HB1 HS1 HW1 hHeld
  generalize w2.setCell ⟨g, 1, none⟩ (Value.slice A2 a2.length n2) = w3 at *
  obtain ⟨k0, k1, k2, k3, k4, k5, k6, k7⟩ := hmo.cells
  have f1 := hmo.frozen 1
  have f2 := hmo.frozen 2
  have HMO := Aside0.mk hmo
  clear hmo d0 d1 d2 d3 d4 d5 d6 d7
  go_wp2_with fail
  refine (broken_calls S1 b b gr (runS M.s l).at_ (runS M.s l).lacks vt1 (.slice none 0 0) (runS M.s l).text [] w3 HMO.out.2.2.2.2.2.1).mono ?_
  rintro e w4 ⟨rfl, rfl⟩
  have HGO : Aside0 (Goes S b w g w3 { M with s := emptied (runS M.s l), ahead := a2 }) := ⟨Goes.of HMO.out HW.out HK3.out HB3.out⟩
  by_cases hx : (runS M.s l).at_ = 3
  · have X3 : ((runS M.s l).at_ == 3) = true := by rw [hx]; rfl
    have HX := Aside0.mk hx
    clear hx
    rcases hbr : M.broke with _ | _
    · have HBR := Aside0.mk hbr
      rw [hbr] at k2
      clear hbr
      have HW3 : Aside0 (b ≤ w3.heap.size) := ⟨Nat.le_trans HW.out HK3.out.1⟩
      have hm4 : MR (fun k => S k ∨ w.heap.size ≤ k) S1 b (w3.setCell ⟨g, 2, none⟩ (.bool true)) g gr vt1 _ vb { M with s := emptied (runS M.s l), ahead := a2, broke := true } := HMO.out.fld 2 (.bool true) { M with s := emptied (runS M.s l), ahead := a2, broke := true } rfl rfl rfl rfl
      have HW4 : Aside0 (b ≤ (w3.setCell ⟨g, 2, none⟩ (.bool true)).heap.size) := ⟨by simpa [World.setCell] using HW3.out⟩
      have HK4 : Aside0 (Kept w (w3.setCell ⟨g, 2, none⟩ (.bool true)) S) := ⟨HK3.out.setCell (.inl HM.out.1) _⟩
      have HB4 : Aside0 (Below b w (w3.setCell ⟨g, 2, none⟩ (.bool true))) := ⟨Below.setCell HB3.out HM.out.2.1 _⟩
      have HS4 : Aside0 (∀ k, S1 k → k < (w3.setCell ⟨g, 2, none⟩ (.bool true)).heap.size) := ⟨fun k hk => by have := HSB.out k hk; simpa [World.setCell] using this⟩
      obtain ⟨w4, hw4⟩ : ∃ w4, w3.setCell ⟨g, 2, none⟩ (Value.bool true) = w4 := ⟨_, rfl⟩
      rw [hw4] at hm4 HW4 HK4 HB4 HS4
      have g1 := hm4.frozen 1
      have g0 := hm4.cells.2.1
      have HM4 := Aside0.mk hm4
      clear hm4
      go_wp2_with ((with_reducible refine gate_builtin (b := .append) (xs := #[.tmp 51, .tmp 53]) rfl ?_); at_builtin; refine Kd.R_append k44 (w0 := w4) (W := w4) b rfl (.tmp 51) (.tmp 53) 22 44 (.agg #[(.int .u8 0), (.string ⟨#[]⟩)]) 24 rfl Try.underlying22 info44 rfl (by decide) (by omega) _ a2 (⟨0, ⟨#[]⟩⟩ : S44) [.int .u8 0, .string ⟨#[]⟩] (fun k => (S k ∨ w.heap.size ≤ k) ∧ ¬ S1 k) (fun _ => False) rfl rfl (k44_mkM _ _ _ (⟨0, ⟨#[]⟩⟩ : S44)) (fun _ hk => hk.elim) (fun k hk => ⟨.inr (Nat.le_trans HK4.out.1 hk), fun hs => Nat.not_lt.2 hk (HS4.out k hs)⟩) HM4.out.row (Below.refl _ _) HW4.out (by have := H4.out; have := HOL.out; rw [HA2.out, List.length_append]; omega) ?_; intro v5 w5 ho hb hg hat; obtain ⟨m5, A5, n5, e5⟩ : ∃ m1 A1 n1, v5 = Value.slice A1 m1 n1 := (by obtain ⟨A, c, e⟩ := Kd.R_slice ho; exact ⟨_, A, c, e⟩); subst e5; have HQ := Aside0.mk (HM4.out.more hg ho); have hf1 : w5.frozen? ⟨g, 1, none⟩ = false := blk_frozen (blk_grown HM4.out.blk hg (Kd.R_ne HM4.out.row HM4.out.blk (by decide))) 1; have hd1 : w5.cell? ⟨g, 1, none⟩ = some (.slice A2 a2.length n2) := (blk_cell (blk_grown HM4.out.blk hg (Kd.R_ne HM4.out.row HM4.out.blk (by decide))) 1).trans rfl; have HG5 := Aside0.mk hg; have HB5 := Aside0.mk hb; clear ho hb hg hat)
      all_goals go_ret
      all_goals rw [show feedM M l = (0, { M with s := emptied (runS M.s l), ahead := M.ahead ++ (runS M.s l).out ++ [⟨0, ⟨#[]⟩⟩], broke := true }) from by unfold feedM; rw [if_neg H5.out, if_neg H4.out, if_pos ⟨HX.out, HBR.out⟩], ← HOUT.out, ← HA2.out]
      all_goals exact ⟨rfl, Goes.of HQ.out HW.out ((Kept.of_grown HG5.out HK4.out (fun k hk => (HM4.out.row.1 k hk).1.elim .inl .inr)).setCell (.inl HM.out.1) _) (Below.setCell (HB4.out.trans HB5.out) HM.out.2.1 _)⟩
    · have HBR := Aside0.mk hbr
      rw [hbr] at k2
      clear hbr
      go_wp2_with fail
      all_goals go_ret
      all_goals rw [show feedM M l = (0, { M with s := emptied (runS M.s l), ahead := M.ahead ++ (runS M.s l).out }) from by unfold feedM; rw [if_neg H5.out, if_neg H4.out, if_neg (fun h => by have := h.2; rw [HBR.out] at this; cases this)], ← HOUT.out, ← HA2.out]
      all_goals exact ⟨rfl, HGO.out⟩
  · have X3 : ((runS M.s l).at_ == 3) = false := beq_eq_false_iff_ne.2 hx
    have HX := Aside0.mk hx
    clear hx
    go_wp2_with fail
    all_goals go_ret
    all_goals rw [show feedM M l = (0, { M with s := emptied (runS M.s l), ahead := M.ahead ++ (runS M.s l).out }) from by unfold feedM; rw [if_neg H5.out, if_neg H4.out, if_neg (fun h => HX.out h.1)], ← HOUT.out, ← HA2.out]
    all_goals exact ⟨rfl, HGO.out⟩
end Go.Proofs.Ythjjblnkaikmlaa.Mx
