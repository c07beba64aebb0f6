/- Clone walked; Feed of the program's reader against the document's, the pure part. -/
import Derived.Test.YtpnbeifbapcmdaaStF
import Derived.StillTailTactics
namespace Go.Proofs.Ytpnbeifbapcmdaa.St
open Go.RowKit Go.Proofs.Ytpnbeifbapcmdaa.PStreamFeeds Go.Proofs.YtpnbeifbapcmdaaW.PrintWords Go.Proofs.YtpnbeifbapcmdaaW.PrintLast Go.Proofs.YtpnbeifbapcmdaaW.PrintMore
set_option linter.unusedVariables false
set_option linter.unusedSimpArgs false
attribute [local go_sem] max2_int min2_int max_two min_two
set_option maxRecDepth 100000 in
theorem clone_nil (c0 : Nat) (w : World) :
    Calls Try.prog 38 #[.slice none 0 c0] w fun e w' => e = .returned (.slice none 0 0) ∧ w = w' := by
  have h1 := fun (w : World) => Lib.run_eql_slice_nil (P := Try.prog) w 54 5 none 0 c0 0 0 Try.underlying54
  go_enter Try.func38, Try.ntmps38
  go_wp2
  go_ret
  exact ⟨rfl, rfl⟩
set_option maxRecDepth 100000 in
theorem clone_some (a : Addr) (c0 : Nat) (l : List Int) (w : World) (hr0 : Kd.C (Kd.int .u8) w (some a) l.length l) (hc0 : l.length ≤ c0) (hl : l.length ≤ 140737488355328) :
    Calls Try.prog 38 #[.slice (some a) l.length c0] w fun e w' => ∃ v, e = .returned v ∧ Kd.R (Kd.int .u8) 5 w' w.heap.size (fun _ => True) v l ∧ Below w.heap.size w w' := by
  have HR := Aside0.mk hr0
  have HC := Aside0.mk hc0
  have HB := Aside0.mk (Below.refl w.heap.size w)
  clear hr0 hc0
  have h1 := fun (w : World) => Lib.run_eql_slice_nil (P := Try.prog) w 54 5 (some a) l.length c0 0 0 Try.underlying54
  go_enter Try.func38, Try.ntmps38
  go_wp2_with (first | ((with_reducible refine gate_dst (N := 5) rfl ?_); refine Kd.R_lit (Kd.int .u8) _ 5 ?hg (N := 5) ?hd (xs := ([] : List Int)) (inner := []) (ok := fun _ => True) (okp := fun _ => True) ?hr (Reps.none _ _) (fun _ hk => hk) trivial (Below.refl _ _) (Nat.le_refl _) (by simp) ?_; (case hd => rfl); (case hg => rfl); (case hr => first | (go_simp; done) | (go_simp; rfl)); intro v1 w1 ho hb hg_ hnew_; clear hg_ hnew_ HB; have HO := Aside0.mk ho; have HB := Aside0.mk hb; clear ho hb) | ((with_reducible refine gate_builtin (b := .append) (xs := #[.tmp 5, .tmp 6]) rfl ?_); at_builtin; refine Kd.R_append_rows (Kd.int .u8) (w0 := w) w.heap.size rfl (.tmp 5) (.tmp 6) 54 5 (.int .u8 0) 1 rfl Try.underlying54 info5 rfl (by decide) (by omega) v1 [] l _ _ _ (fun _ => True) (fun _ => False) rfl rfl HO.out (Kd.C_below HR.out HB.out) (fun _ _ h => h) (fun _ h => h.elim) (fun _ _ => trivial) HB.out HB.out.size ?aL ?_; (case aL => simp; omega); intro v2 w2 ho hb hg hat; rw [List.nil_append] at ho; clear HO HB; have HO := Aside0.mk ho; have HB := Aside0.mk hb; clear ho hb hg hat; obtain ⟨A2, n2, e2⟩ := Kd.R_slice HO.out; subst e2))
  go_ret
  exact ⟨_, rfl, HO.out, HB.out⟩

theorem clone_calls (A : Option Addr) (c0 : Nat) (l : List Int) (w : World) (hr0 : Kd.C (Kd.int .u8) w A l.length l) (hc0 : l.length ≤ c0) (hl : l.length ≤ 140737488355328) :
    Calls Try.prog 38 #[.slice A l.length c0] w fun e w' => ∃ v, e = .returned v ∧ Kd.R (Kd.int .u8) 5 w' w.heap.size (fun _ => True) v l ∧ Below w.heap.size w w' := by
  cases A with
  | some a => exact clone_some a c0 l w hr0 hc0 hl
  | none =>
    have h : l = [] := by
      rcases Nat.eq_zero_or_pos l.length with h | h
      · exact List.eq_nil_of_length_eq_zero h
      · obtain ⟨ad, e, _⟩ := hr0.2.2 h
        cases e
    subst h
    exact (clone_nil c0 w).mono fun e w' ⟨he, hw⟩ => ⟨_, he, by subst hw; exact Kd.R_nil _ _ _ _ _, by subst hw; exact Below.refl _ _⟩
set_option maxRecDepth 100000 in
theorem rclone_calls (S : Nat → Prop) (b bo g : Nat) (at_ lacks : Int) (A : Option Addr) (c : Nat) (vo : Value) (text : List Int) (out : List S64) (w : World) (h : Rdr S b bo w g at_ lacks (.slice A text.length c) vo text out) (hl : text.length ≤ 1000) :
    Calls Try.prog 28 #[.pointer (some ⟨g, 0, none⟩)] w fun e w' => ∃ g2 v2, e = .returned (.pointer (some ⟨g2, 0, none⟩)) ∧ w.heap.size ≤ g2 ∧ (∀ bo, Rdr (fun k => w.heap.size ≤ k ∧ k < w'.heap.size) w.heap.size bo w' g2 at_ lacks v2 (.slice none 0 0) text []) ∧ Below w.heap.size w w' := by
  obtain ⟨hc0, hc1, hc2, hc3⟩ := h.cells
  have HC := Aside0.mk (Kd.R_reads' h.2.2.2.1)
  have HK := Aside0.mk h.2.2.1
  clear h hc3
  go_enter Try.func28, Try.ntmps28
  go_wp2_with fail
  go_region_held3 (fun w' => w'.cell? ⟨g, 0, none⟩ = some (.int .i64 at_) ∧ w'.cell? ⟨g, 1, none⟩ = some (.int .i64 lacks) ∧ w'.cell? ⟨g, 2, none⟩ = some (.slice A text.length c)) (first | exact ⟨q0, q1, q2⟩ | go_keep) ((refine (clone_calls A c text w.drew HC.out.2.2 HC.out.2.1 (by omega)).mono ?_; rintro _ w2 ⟨v, rfl, ho, hb⟩; obtain ⟨A2, c2, e2⟩ := Kd.R_slice ho; subst e2; have HO := Aside0.mk ho; have HB := Aside0.mk hb; clear ho hb; have hb2 := (HB.out.block g (blk_lt HK.out)).trans HK.out; have q0 : w2.cell? ⟨g, 0, none⟩ = some (.int .i64 at_) := (blk_cell hb2 0).trans rfl; have q1 : w2.cell? ⟨g, 1, none⟩ = some (.int .i64 lacks) := (blk_cell hb2 1).trans rfl; have q2 : w2.cell? ⟨g, 2, none⟩ = some (.slice A text.length c) := (blk_cell hb2 2).trans rfl; clear hb2))
  go_wp2_with fail
  go_ret
  have hb : Below w.heap.size w w2 := (Below.refl w.heap.size w).drew.trans HB.out
  have hb2 := below_alloc hb (.cells #[.int .i64 at_, .int .i64 lacks, .slice A2 text.length c2, .slice none 0 0] 78)
  have ho : Kd.R (Kd.int .u8) 5 (w2.alloc (.cells #[.int .i64 at_, .int .i64 lacks, .slice A2 text.length c2, .slice none 0 0] 78)) w.heap.size (fun k => w.heap.size ≤ k ∧ k < (w2.alloc (.cells #[.int .i64 at_, .int .i64 lacks, .slice A2 text.length c2, .slice none 0 0] 78)).heap.size) (.slice A2 text.length c2) text :=
    Kd.R_mono (Kd.R_bound (Kd.R_below HO.out (below_alloc (Below.refl _ _) _))) (fun k hk => ⟨hk.2.1, hk.2.2.1⟩)
  exact ⟨_, _, rfl, hb.size, fun bo => ⟨⟨hb.size, by simp⟩, hb.size, heap_alloc_new w2 _, ho, Kd.R_nil _ _ _ _ _⟩, hb2⟩
def By (l : List Int) : Prop := ∀ x ∈ l, 0 ≤ x ∧ x < 256
def parse : Nat → List S64 → List Int → List S64 × List Int × Bool
  | 0, out, B => (out, B, false)
  | _ + 1, out, [] => (out, [], false)
  | k + 1, out, c :: r =>
    if c = 66 ∨ c = 69 then parse k (out ++ [⟨c, ⟨#[]⟩⟩]) r
    else if c ≠ 81 then (out, [], true)
    else match r with
      | [] => (out, [81], false)
      | n :: t => if 48 < n then (out, [], true) else if (t.length : Int) < n then (out, 81 :: n :: t, false) else parse k (out ++ [⟨81, strOfNums (t.take n.toNat)⟩]) (t.drop n.toNat)
theorem bytes_son (B : List Int) (h : By B) : bytesOf (strOfNums B) = B := by
  unfold bytesOf
  rw [strOfNums_data, List.map_map]
  conv => rhs; rw [← List.map_id B]
  refine List.map_congr_left fun x hx => ?_
  have := h x hx
  simp
  omega
theorem ex_son (B : List Int) (h : By B) (i j : Nat) : (strOfNums B).extract i j = strOfNums ((B.take j).drop i) := by
  rw [← son_bytes ((strOfNums B).extract i j)]
  have e := nums_extract (strOfNums B) i j
  have e1 : nums (strOfNums B) = B := bytes_son B h
  rw [e1] at e
  exact congrArg strOfNums e
theorem bt_son (B : List Int) (h : By B) (i : Nat) (hi : i < B.length) : bt (strOfNums B) (i : Int) = B[i] := by
  rw [← rd_bytesOf, bytes_son B h]
  simp [rd, List.getD_eq_getElem?_getD, List.getElem?_eq_getElem hi]
theorem son_nil (B : List Int) : ((strOfNums B).toList = ([] : List UInt8)) ↔ B = [] := by
  rw [ByteArray.toList_eq, strOfNums_data]
  simp
theorem parse_kept : ∀ (k : Nat) (out : List S64) (B : List Int), By B → By (parse k out B).2.1 ∧ (parse k out B).2.1.length ≤ B.length := by
  intro k
  induction k with
  | zero => intro out B h; exact ⟨h, Nat.le_refl _⟩
  | succ k ih =>
    intro out B h
    cases B with
    | nil => exact ⟨h, Nat.le_refl _⟩
    | cons c r =>
      unfold parse
      split
      · have := ih (out ++ [⟨c, ⟨#[]⟩⟩]) r (fun x hx => h x (List.mem_cons_of_mem _ hx))
        exact ⟨this.1, Nat.le_trans this.2 (by simp)⟩
      · split
        · exact ⟨fun x hx => by simp at hx, by simp⟩
        · rename_i h1 h2
          cases r with
          | nil => exact ⟨fun x hx => by simp at hx; omega, by simp⟩
          | cons n t =>
            simp only []
            split
            · exact ⟨fun x hx => by simp at hx, by simp⟩
            · split
              · refine ⟨fun x hx => ?_, by simp⟩
                rcases List.mem_cons.1 hx with rfl | hx
                · omega
                · exact h x (List.mem_cons_of_mem _ hx)
              · have := ih (out ++ [⟨81, strOfNums (t.take n.toNat)⟩]) (t.drop n.toNat) (fun x hx => h x (List.mem_cons_of_mem _ (List.mem_cons_of_mem _ (List.mem_of_mem_drop hx))))
                exact ⟨this.1, Nat.le_trans this.2 (by simp; omega)⟩
theorem ref_parse : ∀ (k : Nat) (B : List Int) (out : List S64) (K : Nat), B.length ≤ k → 3 * k + 1 ≤ K → By B → B.length + out.length ≤ 2000000 →
    stopcockref09_Reader_Feed.l0 K out (strOfNums B) false = some ((parse k out B).1, strOfNums (parse k out B).2.1, (parse k out B).2.2) := by
  intro k
  induction k with
  | zero =>
    intro B out K hk hK hB hl
    obtain rfl : B = [] := List.length_eq_zero_iff.1 (by omega)
    obtain ⟨K, rfl⟩ : ∃ K', K = K' + 1 := ⟨K - 1, by omega⟩
    unfold stopcockref09_Reader_Feed.l0
    rw [if_pos ((son_nil []).2 rfl)]
    rfl
  | succ k ih =>
    intro B out K hk hK hB hl
    obtain ⟨K, rfl⟩ : ∃ K', K = K' + 1 + 1 + 1 := ⟨K - 3, by omega⟩
    unfold stopcockref09_Reader_Feed.l0
    cases B with
    | nil =>
      rw [if_pos ((son_nil []).2 rfl)]
      rfl
    | cons c r =>
      have hr : By r := fun x hx => hB x (List.mem_cons_of_mem _ hx)
      have hc := hB c (List.mem_cons_self ..)
      have hz : ((strOfNums (c :: r)).size : Int) = (r.length : Int) + 1 := by rw [strOfNums_size]; simp
      have hb0 : bt (strOfNums (c :: r)) 0 = c := bt_son (c :: r) hB 0 (by simp)
      have hex : (strOfNums (c :: r)).extract 1 (strOfNums (c :: r)).size = strOfNums r := by
        rw [ex_son _ hB, strOfNums_size, List.take_length]
        rfl
      simp only [List.length_cons] at hk hl
      rw [if_neg (fun h => by have := (son_nil _).1 h; cases this), if_pos (by omega), hb0]
      have hj : (if c = 66 then stopcockref09_Reader_Feed.j1 (K + 1 + 1) out c true (strOfNums (c :: r)) false else stopcockref09_Reader_Feed.j1 (K + 1 + 1) out c (c == 69) (strOfNums (c :: r)) false) = stopcockref09_Reader_Feed.j1 (K + 1 + 1) out c (decide (c = 66 ∨ c = 69)) (strOfNums (c :: r)) false := by
        by_cases h1 : c = 66
        · simp [h1]
        · by_cases h2 : c = 69
          · simp [h2]
          · have h3 : (c == 69) = false := beq_eq_false_iff_ne.2 h2
            simp [h1, h2, h3]
      rw [hj]
      unfold stopcockref09_Reader_Feed.j1 parse
      by_cases h1 : c = 66 ∨ c = 69
      · rw [if_pos (decide_eq_true h1), if_pos (by omega), if_pos (by omega), hex, if_pos h1]
        exact ih r (out ++ [⟨c, ⟨#[]⟩⟩]) (K + 1) (by omega) (by omega) hr (by simp; omega)
      · rw [if_neg (by rw [decide_eq_true_iff]; exact h1), if_neg h1]
        by_cases h2 : c = 81
        · subst h2
          rw [if_pos rfl, if_neg (show ¬ ((81 : Int) ≠ 81) by simp)]
          cases r with
          | nil =>
            rw [if_neg (by rw [hz]; simp)]
            unfold stopcockref09_Reader_Feed.j2
            rw [if_neg (by decide), if_pos (by rw [hz]; simp)]
          | cons n t =>
            have hn := hr n (List.mem_cons_self ..)
            have hb1 : bt (strOfNums (81 :: n :: t)) 1 = n := bt_son (81 :: n :: t) hB 1 (by simp)
            simp only [List.length_cons] at hz hk hl
            have hw : wrap64 (2 + wrap64 n) = 2 + n := by unfold wrap64; omega
            rw [if_pos (by omega), if_pos (by omega), hb1]
            unfold stopcockref09_Reader_Feed.j2
            simp only []
            by_cases h3 : 48 < n
            · rw [if_pos h3, if_pos (decide_eq_true h3)]
              rfl
            · rw [if_neg (by rw [decide_eq_true_iff]; exact h3), if_neg h3, if_neg (by omega), if_pos (by omega), hb1, hw]
              by_cases h4 : (t.length : Int) < n
              · rw [if_pos (by omega), if_pos h4]
              · have e1 : (strOfNums (81 :: n :: t)).extract 2 (2 + n).toNat = strOfNums (t.take n.toNat) := by
                  rw [ex_son _ hB, show (2 + n).toNat = n.toNat + 1 + 1 by omega]
                  rfl
                have e2 : (strOfNums (81 :: n :: t)).extract (2 + n).toNat (strOfNums (81 :: n :: t)).size = strOfNums (t.drop n.toNat) := by
                  rw [ex_son _ hB, strOfNums_size, List.take_length, show (2 + n).toNat = n.toNat + 1 + 1 by omega]
                  rfl
                rw [if_neg (by omega), if_neg h4, if_pos (by omega), if_pos (by omega), if_pos (by omega), if_pos (by omega), e1, e2]
                exact ih (t.drop n.toNat) _ K (by rw [List.length_drop]; omega) (by omega) (fun x hx => hr x (List.mem_cons_of_mem _ (List.mem_of_mem_drop hx))) (by rw [List.length_drop, List.length_append, List.length_singleton]; omega)
        · rw [if_neg h2, if_pos h2]
          unfold stopcockref09_Reader_Feed.j2
          rw [if_pos rfl]
          rfl
def keptS (s : RS) : List Int := if s.at_ = 1 then [81] else if s.at_ = 2 then 81 :: ((s.text.length : Int) + s.lacks) :: s.text else []
theorem run_stuck (s : RS) (h : s.at_ = 3) : ∀ xs : List Int, runS s xs = s := by
  intro xs
  induction xs with
  | nil => rfl
  | cons c r ih =>
    have e : stepS s c = s := by
      unfold stepS
      rw [if_neg (by omega), if_neg (by omega), if_neg (by omega)]
    show runS (stepS s c) r = s
    rw [e]
    exact ih
theorem text_part : ∀ (xs t : List Int) (o : List S64) (q : Int), (xs.length : Int) < q → runS ⟨2, q, t, o⟩ xs = ⟨2, q - xs.length, t ++ xs, o⟩ := by
  intro xs
  induction xs with
  | nil => intro t o q h; simp [runS]
  | cons c r ih =>
    intro t o q h
    simp only [List.length_cons] at h
    have e : stepS ⟨2, q, t, o⟩ c = ⟨2, q - 1, t ++ [c], o⟩ := by
      unfold stepS
      simp only []
      rw [if_neg (by decide), if_neg (by decide), if_pos trivial, if_neg (by omega)]
    show runS (stepS ⟨2, q, t, o⟩ c) r = _
    rw [e, ih (t ++ [c]) o (q - 1) (by omega), List.append_assoc]
    congr 1
    simp only [List.length_cons]
    omega
def obs (s : RS) : List S64 × List Int × Bool := (s.out, keptS s, decide (s.at_ = 3))
theorem run_parse : ∀ (k : Nat) (B : List Int) (x : Int) (t : List Int) (out : List S64), B.length ≤ k → By B → obs (runS ⟨0, x, t, out⟩ B) = parse k out B := by
  intro k
  induction k with
  | zero =>
    intro B x t out hk hB
    obtain rfl : B = [] := List.length_eq_zero_iff.1 (by omega)
    rfl
  | succ k ih =>
    intro B x t out hk hB
    cases B with
    | nil => rfl
    | cons c r =>
      have hr : By r := fun x hx => hB x (List.mem_cons_of_mem _ hx)
      simp only [List.length_cons] at hk
      unfold parse
      show obs (runS (stepS ⟨0, x, t, out⟩ c) r) = _
      by_cases h1 : c = 66 ∨ c = 69
      · have e : stepS ⟨0, x, t, out⟩ c = ⟨0, x, t, out ++ [⟨c, ⟨#[]⟩⟩]⟩ := by
          unfold stepS
          simp only []
          rw [if_pos trivial, if_pos h1]
        rw [e, if_pos h1]
        exact ih r x t _ (by omega) hr
      · rw [if_neg h1]
        by_cases h2 : c = 81
        · subst h2
          have e : stepS ⟨0, x, t, out⟩ 81 = ⟨1, x, t, out⟩ := by
            unfold stepS
            simp only []
            rw [if_pos trivial, if_neg h1, if_pos trivial]
          rw [e, if_neg (by simp)]
          cases r with
          | nil => rfl
          | cons n u =>
            have hn := hr n (List.mem_cons_self ..)
            have hu : By u := fun x hx => hr x (List.mem_cons_of_mem _ hx)
            simp only [List.length_cons] at hk
            simp only []
            show obs (runS (stepS ⟨1, x, t, out⟩ n) u) = _
            by_cases h3 : 48 < n
            · have e : stepS ⟨1, x, t, out⟩ n = ⟨3, n, [], out⟩ := by
                unfold stepS
                simp only []
                rw [if_neg (by decide), if_pos trivial, if_neg (by omega), if_pos h3]
              rw [e, run_stuck _ rfl, if_pos h3]
              rfl
            · rw [if_neg h3]
              by_cases h0 : n = 0
              · subst h0
                have e : stepS ⟨1, x, t, out⟩ 0 = ⟨0, 0, [], out ++ [⟨81, strOfNums []⟩]⟩ := by
                  unfold stepS
                  simp only []
                  rw [if_neg (by decide), if_pos trivial, if_pos trivial]
                rw [e, if_neg (by omega)]
                exact ih u 0 [] _ (by omega) hu
              · have e : stepS ⟨1, x, t, out⟩ n = ⟨2, n, [], out⟩ := by
                  unfold stepS
                  simp only []
                  rw [if_neg (by decide), if_pos trivial, if_neg h0, if_neg h3]
                rw [e]
                by_cases h4 : (u.length : Int) < n
                · rw [text_part u [] out n h4, if_pos h4]
                  unfold obs keptS
                  simp only [List.nil_append]
                  rw [if_neg (by decide), if_pos trivial]
                  rw [show (u.length : Int) + (n - (u.length : Int)) = n by omega]
                  rfl
                · obtain ⟨m, hm⟩ : ∃ m : Nat, n = (m : Int) + 1 := ⟨n.toNat - 1, by omega⟩
                  have ht : (u.take n.toNat).length = m + 1 := by rw [List.length_take]; omega
                  have es : runS ⟨2, n, [], out⟩ u = runS ⟨0, 0, u.take n.toNat, out ++ [⟨81, strOfNums (u.take n.toNat)⟩]⟩ (u.drop n.toNat) := by
                    conv => lhs; rw [← List.take_append_drop n.toNat u]
                    unfold runS
                    rw [List.foldl_append]
                    have := text_run (u.take n.toNat) [] out m ht
                    unfold runS at this
                    rw [hm] at this ⊢
                    rw [this]
                    rfl
                  rw [es, if_neg h4]
                  exact ih (u.drop n.toNat) 0 _ _ (by rw [List.length_drop]; omega) (fun x hx => hu x (List.mem_of_mem_drop hx))
        · have e : stepS ⟨0, x, t, out⟩ c = ⟨3, x, t, out⟩ := by
            unfold stepS
            simp only []
            rw [if_pos trivial, if_neg h1, if_neg h2]
          rw [e, run_stuck _ rfl, if_pos h2]
          rfl
theorem run_kept (s : RS) (hs : okS s) (h3 : s.at_ ≠ 3) : ∃ x t, runS ⟨0, x, t, s.out⟩ (keptS s) = s := by
  obtain ⟨a, q, t, o⟩ := s
  obtain ⟨ha, h2⟩ := hs
  simp only [] at ha h2 h3 ⊢
  rcases ha with rfl | rfl | rfl | rfl
  · exact ⟨q, t, rfl⟩
  · exact ⟨q, t, rfl⟩
  · obtain ⟨hq, hl⟩ := h2 rfl
    refine ⟨q, t, ?_⟩
    have e : keptS ⟨2, q, t, o⟩ = 81 :: ((t.length : Int) + q) :: t := rfl
    rw [e]
    show runS (stepS ⟨1, q, t, o⟩ ((t.length : Int) + q)) t = _
    have e : stepS ⟨1, q, t, o⟩ ((t.length : Int) + q) = ⟨2, (t.length : Int) + q, [], o⟩ := by
      unfold stepS
      simp only []
      rw [if_neg (by decide), if_pos trivial, if_neg (by omega), if_neg (by omega)]
    rw [e, text_part t [] o _ (by omega)]
    congr 1
    omega
  · exact absurd rfl h3
theorem left_kept (s : RS) (hs : okS s) : leftI s = ((keptS s).length : Int) := by
  unfold leftI keptS
  split
  · rfl
  · split
    · simp only [List.length_cons]; omega
    · rfl
theorem kept_len (s : RS) (hs : okS s) : (keptS s).length ≤ 50 := by
  unfold keptS
  split
  · simp
  · split
    · rename_i h; have := hs.2 h; simp only [List.length_cons]; omega
    · simp
/-- What the reader tells and keeps is what the document's tells and keeps. -/
theorem feed_ref (s : RS) (hs : okS s) (ho : s.out = []) (hk : By (keptS s)) (a : ByteArray) (ha : a.size ≤ 10000) :
    stopcockref09_Reader_Feed.f 40000 (strOfNums (keptS s)) (decide (s.at_ = 3)) a = some ((runS s (nums a)).out, strOfNums (keptS (runS s (nums a))), decide ((runS s (nums a)).at_ = 3)) ∧ By (keptS (runS s (nums a))) := by
  unfold stopcockref09_Reader_Feed.f
  by_cases h3 : s.at_ = 3
  · rw [run_stuck s h3, if_pos (decide_eq_true h3), ho]
    exact ⟨rfl, hk⟩
  · obtain ⟨x, t, hx⟩ := run_kept s hs h3
    have hl := kept_len s hs
    have hn : (nums a).length = a.size := nums_len a
    have hB : By (keptS s ++ nums a) := fun y hy => (List.mem_append.1 hy).elim (hk y) (nums_by a y)
    have hr : runS s (nums a) = runS ⟨0, x, t, []⟩ (keptS s ++ nums a) := by
      rw [← ho]
      unfold runS at hx ⊢
      rw [List.foldl_append, hx]
    have hp := run_parse 10100 (keptS s ++ nums a) x t [] (by rw [List.length_append]; omega) hB
    rw [← hr] at hp
    have hq := ref_parse 10100 (keptS s ++ nums a) [] 40000 (by rw [List.length_append]; omega) (by decide) hB (by rw [List.length_append]; simp; omega)
    rw [← hp] at hq
    rw [if_neg (by rw [decide_eq_true_iff]; exact h3), if_pos (by rw [strOfNums_size]; omega), decide_eq_false h3]
    have e : strOfNums (keptS s) ++ a = strOfNums (keptS s ++ nums a) := by
      rw [son_app]
      congr 1
      exact (son_bytes a).symm
    rw [e]
    refine ⟨hq, ?_⟩
    have := (parse_kept 10100 [] (keptS s ++ nums a) hB).1
    rw [← hp] at this
    exact this
end Go.Proofs.Ytpnbeifbapcmdaa.St
