/- The chapter's first example walked; what the backend is asked and told, in plain Lean. -/
import Derived.Test.YthjjblnkaikmlaaMxD
import Derived.Deep.RegionWith
import Derived.Handy
import Derived.Lib.SliceRun
import Derived.StillTailTactics
namespace Go.Proofs.Ythjjblnkaikmlaa.Mx
open Go.RowKit Go.Proofs.Ythjjblnkaikmlaa.St Go.Proofs.Ythjjblnkaikmlaa.PMuxOnce Go.Proofs.YthjjblnkaikmlaaW.PrintWords Go.Proofs.YthjjblnkaikmlaaW.PrintLast Go.Proofs.YthjjblnkaikmlaaW.PrintMore
set_option linter.unusedVariables false
set_option linter.unusedSimpArgs false
attribute [local go_sem] max2_int min2_int max_two min_two
def c42 (x : S42) : List Value := [.int .i64 x.f0, .int .i64 x.f1, .string x.f2]
theorem flat42 : ∀ (l : List S42) (j i : Nat) (p : S42) (u : Value), l[j]? = some p → (c42 p)[i]? = some u → (l.flatMap c42)[j * 3 + i]? = some u := by
  intro l
  induction l with
  | nil => intro j i p u h; simp at h
  | cons x r ih =>
    intro j i p u h hu
    have hi : i < 3 := (List.getElem?_eq_some_iff.1 hu).1
    rw [List.flatMap_cons]
    cases j with
    | zero =>
      rw [List.getElem?_cons_zero] at h
      injection h with h
      rw [h, List.getElem?_append_left (by show 0 * 3 + i < 3; omega), Nat.zero_mul, Nat.zero_add]
      exact hu
    | succ j =>
      rw [List.getElem?_append_right (by show 3 ≤ _; omega), show (j + 1) * 3 + i - (c42 x).length = j * 3 + i by show (j + 1) * 3 + i - 3 = _; omega]
      exact ih j i p u (by simpa using h) hu
theorem C42_lit {w : World} {k : Nat} {fr : Nat × Nat} (l : List S42) (hl : l.length ≤ 1000) (h : w.heap[k]? = some (.cells (l.flatMap c42).toArray 42 fr)) : Kd.C k42 w (some ⟨k, 0, none⟩) l.length l := by
  refine ⟨rfl, by omega, fun _ => ⟨_, rfl, fun j p hp => ⟨c42 p, rfl, k42_mk _ p, fun i u hu => ?_⟩⟩⟩
  have hadd : (⟨k, 0, none⟩ : Addr).add (j * 3 + i) = ⟨k, j * 3 + i, none⟩ := by unfold Addr.add; split <;> simp_all
  show w.cell? ((⟨k, 0, none⟩ : Addr).add (j * 3 + i)) = some u
  rw [hadd, cell_of_row w k _ _ 42 fr h]
  simpa using flat42 l j i p u hp hu
def LB : List Int := [66, 81, 2, 104, 105, 69]
def L1 : MSt := (feedM M0 LB).2
def L2 : MSt := (nextM L1).2
def L3 : MSt := (gotM L2).2
def L4 : MSt := (nextM L3).2
def L5 : MSt := (answerM L4 ⟨#[121, 111]⟩).2
def L6 : MSt := (nextM L5).2
def LT : List S42 := [⟨1, 0, ⟨#[]⟩⟩, ⟨2, 0, ⟨#[121, 111]⟩⟩, ⟨3, 0, ⟨#[]⟩⟩]
theorem L1_e : (feedM M0 LB).1 = 0 := by decide
theorem L2_e : (nextM L1).1 = (1, ⟨#[]⟩) := by kernel_rfl
theorem L3_e : (gotM L2).1 = 0 := by kernel_rfl
theorem L4_e : (nextM L3).1 = (2, ⟨#[104, 105]⟩) := by kernel_rfl
theorem L5_e : (answerM L4 ⟨#[121, 111]⟩).1 = 0 := by kernel_rfl
theorem L6_e : (nextM L5).1 = (3, ⟨#[]⟩) := by kernel_rfl
theorem LT_e : L6.told = LT := by kernel_rfl
theorem L1_t : okT L1 ∧ L1.told.length + L1.ahead.length ≤ 1000000 := ⟨.inl (by kernel_rfl), by rw [show L1.told.length + L1.ahead.length = 3 from by kernel_rfl]; decide⟩
theorem L2_t : L2.told.length ≤ 1000000000 := by rw [show L2.told.length = 0 from by kernel_rfl]; decide
theorem L3_t : okT L3 ∧ L3.told.length + L3.ahead.length ≤ 1000000 := ⟨.inr (.inl (by kernel_rfl)), by rw [show L3.told.length + L3.ahead.length = 3 from by kernel_rfl]; decide⟩
theorem L4_t : L4.told.length ≤ 1000000000 := by rw [show L4.told.length = 1 from by kernel_rfl]; decide
theorem L5_t : okT L5 ∧ L5.told.length + L5.ahead.length ≤ 1000000 := ⟨.inr (.inl (by kernel_rfl)), by rw [show L5.told.length + L5.ahead.length = 3 from by kernel_rfl]; decide⟩
theorem Lsame : stopcockref19_Same.f 4 LT LT = some true := by kernel_rfl
set_option maxHeartbeats 4000000 in
set_option maxRecDepth 100000 in
theorem live_calls (w : World) :
    Calls Try.prog 6 #[] w fun e w' => e = .returned (.bool true) ∧ Below w.heap.size w w' := by
  have hcc := fun (W : World) (C : Array Value) (n c : Nat) => conv_const W C n c
  go_enter Try.func6, Try.ntmps6
  go_wp2_with fail
  refine (new_calls' w).mono ?_
  rintro _ w1 ⟨g, S, rfl, hS, hm, hb⟩
  have HM1 := Aside0.mk hm
  have HB1 := Aside0.mk hb
  clear hm hb hS
  go_wp2_with fail
  refine (open_calls S w.heap.size g M0 w1 HM1.out).mono ?_
  rintro _ _ ⟨rfl, rfl⟩
  rw [show (M0.wd != 5) = true from rfl]
  go_wp2_with fail
  have hal := below_alloc (Below.refl w1.heap.size w1) (.cells #[.int .u8 66, .int .u8 81, .int .u8 2, .int .u8 104, .int .u8 105, .int .u8 69] 5 (6, 6 + 1))
  have hf := feed_calls' S w.heap.size g M0 (some ⟨w1.heap.size, 0, none⟩) 6 LB (w1.alloc (.cells #[.int .u8 66, .int .u8 81, .int .u8 2, .int .u8 104, .int .u8 105, .int .u8 69] 5 (6, 6 + 1))) (HM1.out.step hal) (row_kept (rest := []) (fr := (6, 6 + 1)) (by simpa [LB] using heap_alloc_new w1 _) (fun h => Nat.lt_irrefl _ (HM1.out.1 _ h)) (by decide)) (by decide) (by decide) (by decide)
  refine Calls.mono (show Calls Try.prog 9 #[.pointer (some ⟨g, 0, none⟩), .slice (some ⟨w1.heap.size, 0, none⟩) 6 6] _ _ from hf) ?_
  clear hf
  rw [L1_e]
  rintro _ w2 ⟨rfl, S2, s1, s2, s3, s4⟩
  have HM2 : Aside0 (MX S2 w.heap.size w2 g L1) := ⟨s2⟩
  have HB2 := Aside0.mk ((HB1.out.trans (hal.mono HB1.out.size)).trans s4)
  clear s1 s2 s3 s4 hal
  go_wp2_with fail
  refine (next_calls' S2 w.heap.size g L1 w2 HM2.out L1_t.1 L1_t.2).mono ?_
  rw [L2_e]
  rintro _ w3 ⟨rfl, S3, s1, s2, s3, s4⟩
  have HM3 : Aside0 (MX S3 w.heap.size w3 g L2) := ⟨s2⟩
  have HB3 := Aside0.mk (HB2.out.trans s4)
  clear s1 s2 s3 s4
  go_wp2_with fail
  refine (got_calls S3 w.heap.size g L2 w3 HM3.out L2_t).mono ?_
  rw [L3_e]
  rintro _ w4 ⟨rfl, S4, s1, s2, s3, s4⟩
  have HM4 : Aside0 (MX S4 w.heap.size w4 g L3) := ⟨s2⟩
  have HB4 := Aside0.mk (HB3.out.trans s4)
  clear s1 s2 s3 s4
  go_wp2_with fail
  refine (next_calls' S4 w.heap.size g L3 w4 HM4.out L3_t.1 L3_t.2).mono ?_
  rw [L4_e]
  rintro _ w5 ⟨rfl, S5, s1, s2, s3, s4⟩
  have HM5 : Aside0 (MX S5 w.heap.size w5 g L4) := ⟨s2⟩
  have HB5 := Aside0.mk (HB4.out.trans s4)
  clear s1 s2 s3 s4
  go_wp2_with fail
  refine (answer_calls S5 w.heap.size g L4 ⟨#[121, 111]⟩ w5 HM5.out L4_t).mono ?_
  rw [L5_e]
  rintro _ w6 ⟨rfl, S6, s1, s2, s3, s4⟩
  have HM6 : Aside0 (MX S6 w.heap.size w6 g L5) := ⟨s2⟩
  have HB6 := Aside0.mk (HB5.out.trans s4)
  clear s1 s2 s3 s4
  go_wp2_with fail
  refine (next_calls' S6 w.heap.size g L5 w6 HM6.out L5_t.1 L5_t.2).mono ?_
  rw [L6_e]
  rintro _ w7 ⟨rfl, S7, s1, s2, s3, s4⟩
  have HM7 : Aside0 (MX S7 w.heap.size w7 g L6) := ⟨s2⟩
  have HB7 := Aside0.mk (HB6.out.trans s4)
  clear s1 s2 s3 s4
  go_wp2_with fail
  refine (replies_calls S7 w.heap.size g L6 w7 HM7.out).mono ?_
  rw [LT_e]
  rintro _ w8 ⟨v8, S8, rfl, s1, s2, s3, s4, s5⟩
  obtain ⟨A8, n8, rfl⟩ := Kd.R_slice s3
  have HR8 := Aside0.mk (Kd.R_reads' s3)
  have HB8 := Aside0.mk (HB7.out.trans s5)
  clear s1 s2 s3 s4 s5
  go_wp2_with fail
  have hl9 := below_alloc (Below.refl w8.heap.size w8) (.cells #[.int .i64 1, .int .i64 0, .string ⟨#[]⟩, .int .i64 2, .int .i64 0, .string ⟨#[121, 111]⟩, .int .i64 3, .int .i64 0, .string ⟨#[]⟩] 42)
  refine Calls.mono (show Calls Try.prog 27 #[.slice A8 LT.length n8, .slice (some ⟨w8.heap.size, 0, none⟩) 3 3] (w8.alloc (.cells #[.int .i64 1, .int .i64 0, .string ⟨#[]⟩, .int .i64 2, .int .i64 0, .string ⟨#[121, 111]⟩, .int .i64 3, .int .i64 0, .string ⟨#[]⟩] 42)) _ from stopcockref19_Same.calls 4 A8 n8 LT (some ⟨w8.heap.size, 0, none⟩) 3 LT true _ (Kd.C_below HR8.out.2.2 hl9) HR8.out.2.1 (C42_lit LT (by decide) (by simpa [LT, c42] using heap_alloc_new w8 _)) (by decide) Lsame) ?_
  rintro _ w9 ⟨rfl, hd⟩
  have HB9 : Aside0 (Below w.heap.size w w9) := ⟨by obtain ⟨n9, h9⟩ := hd.out; rw [h9]; exact pw_below_drewN (HB8.out.trans (hl9.mono HB8.out.size)) n9⟩
  clear hd hl9
  go_wp2_with fail
  go_ret
  exact ⟨rfl, HB9.out⟩
/-! What the backend is asked and what is told, in plain Lean. -/
def okF (f : S44) : Prop := f.f0 = 66 ∨ f.f0 = 81 ∨ f.f0 = 69
def Qs (l : List S44) : List ByteArray := l.filterMap fun f => if f.f0 = 81 then some f.f1 else none
def resT (l : List S42) : List ByteArray := l.filterMap fun r => if r.f0 = 2 then some r.f2 else none
def okTold (l : List S42) : Prop := ∀ r ∈ l, r.f0 ≠ 2 → r.f2 = ⟨#[]⟩
def pend (M : MSt) : List ByteArray := (if M.wd = 2 then [M.text] else []) ++ Qs M.ahead
def rk (M : MSt) : Nat := 3 * M.ahead.length + (if M.wd = 2 then 2 else if M.wd = 4 then 1 else 0)
def Inv (M : MSt) : Prop := (M.wd = 0 ∨ M.wd = 2 ∨ M.wd = 4) ∧ (M.st = 66 ∨ M.st = 76) ∧ (∀ f ∈ M.ahead, okF f) ∧ okTold M.told
def NA (pd rs : List ByteArray) (k n : Nat) (p : (Int × ByteArray) × MSt) : Prop :=
  p.2.told.length + p.2.ahead.length ≤ n ∧
  ((p.1.1 = 0 ∧ pd = [] ∧ resT p.2.told = rs ∧ okTold p.2.told) ∨
   (p.1.1 = 1 ∧ Inv (gotM p.2).2 ∧ pend (gotM p.2).2 = pd ∧ resT (gotM p.2).2.told = rs ∧ rk (gotM p.2).2 < k) ∨
   (p.1.1 = 2 ∧ ∃ X, pd = p.1.2 :: X ∧ ∀ t, (answerM p.2 t).1 = 0 ∧ Inv (answerM p.2 t).2 ∧ pend (answerM p.2 t).2 = X ∧ resT (answerM p.2 t).2.told = rs ++ [t] ∧ rk (answerM p.2 t).2 < k) ∨
   (p.1.1 = 3 ∧ Inv p.2 ∧ pend p.2 = pd ∧ resT p.2.told = rs ∧ rk p.2 < k))
theorem NA.weak {pd rs : List ByteArray} {k k' n n' : Nat} {p : (Int × ByteArray) × MSt} (h : NA pd rs k n p) (hk : k ≤ k') (hn : n ≤ n') : NA pd rs k' n' p := by
  obtain ⟨h0, h⟩ := h
  refine ⟨Nat.le_trans h0 hn, ?_⟩
  rcases h with h | ⟨h1, h2, h3, h4, h5⟩ | ⟨h1, X, h2, h3⟩ | ⟨h1, h2, h3, h4, h5⟩
  · exact .inl h
  · exact .inr (.inl ⟨h1, h2, h3, h4, Nat.lt_of_lt_of_le h5 hk⟩)
  · exact .inr (.inr (.inl ⟨h1, X, h2, fun t => ⟨(h3 t).1, (h3 t).2.1, (h3 t).2.2.1, (h3 t).2.2.2.1, Nat.lt_of_lt_of_le (h3 t).2.2.2.2 hk⟩⟩))
  · exact .inr (.inr (.inr ⟨h1, h2, h3, h4, Nat.lt_of_lt_of_le h5 hk⟩))
theorem resT_app (l : List S42) (r : S42) : resT (l ++ [r]) = if r.f0 = 2 then resT l ++ [r.f2] else resT l := by
  unfold resT
  rw [List.filterMap_append]
  by_cases h : r.f0 = 2
  · simp [h]
  · simp [h]
theorem okTold_app {l : List S42} {r : S42} (h : okTold l) (hr : r.f0 ≠ 2 → r.f2 = ⟨#[]⟩) : okTold (l ++ [r]) := by
  intro x hx hn
  rcases List.mem_append.1 hx with hx | hx
  · exact h x hx hn
  · rw [List.mem_singleton] at hx
    exact hx ▸ hr (hx ▸ hn)
theorem Qs_app (a b : List S44) : Qs (a ++ b) = Qs a ++ Qs b := List.filterMap_append ..
theorem Qs_cons (f : S44) (r : List S44) : Qs (f :: r) = if f.f0 = 81 then f.f1 :: Qs r else Qs r := by
  unfold Qs
  by_cases h : f.f0 = 81
  · simp [h]
  · simp [h]
theorem goL_one {M M' : MSt} {f : S44} {r : List S44} {d : Int} (hw : M.wd = 0) (he : takeM { M with ahead := r } f = (d, M')) : goL M (f :: r) = if d = 0 then goL M' r else if d = 2 then ((2, f.f1), M') else ((d, ⟨#[]⟩), M') := by
  conv => lhs; unfold goL
  rw [if_pos hw, he]
theorem goL_NA : ∀ (r : List S44) (M : MSt), M.ahead = r → M.wd = 0 → (M.st = 66 ∨ M.st = 76) → (∀ f ∈ r, okF f) → okTold M.told → NA (Qs r) (resT M.told) (3 * r.length) (M.told.length + r.length) (goL M r) := by
  intro r
  induction r with
  | nil =>
    intro M ha hw hs hf ht
    refine ⟨?_, .inl ⟨rfl, rfl, rfl, ht⟩⟩
    show M.told.length + M.ahead.length ≤ _
    rw [ha]
    exact Nat.le_refl _
  | cons f r ih =>
    intro M ha hw hs hf ht
    have hfr : ∀ f ∈ r, okF f := fun x hx => hf x (List.mem_cons_of_mem _ hx)
    have htell : ∀ k : Int, k ≠ 2 → okTold (tellM { M with ahead := r } k).told ∧ resT (tellM { M with ahead := r } k).told = resT M.told := fun k hk => ⟨okTold_app ht (fun _ => rfl), by unfold tellM; rw [resT_app]; simp [hk]⟩
    have step : ∀ k : Int, k ≠ 2 → ¬ f.f0 = 81 → takeM { M with ahead := r } f = (0, tellM { M with ahead := r } k) → NA (Qs (f :: r)) (resT M.told) (3 * (f :: r).length) (M.told.length + (f :: r).length) (goL M (f :: r)) := fun k hk h81 he => by
      rw [goL_one hw he, if_pos rfl, Qs_cons, if_neg h81]
      have := ih (tellM { M with ahead := r } k) rfl hw hs hfr (htell k hk).1
      rw [(htell k hk).2] at this
      exact this.weak (by simp only [List.length_cons]; omega) (by simp only [tellM, List.length_append, List.length_cons, List.length_nil]; omega)
    rcases hf f (List.mem_cons_self ..) with h | h | h
    · rcases hs with hs | hs
      · have he : takeM { M with ahead := r } f = (1, waitM { M with ahead := r } false ⟨#[]⟩) := by unfold takeM; rw [if_pos h, if_pos hs]
        rw [goL_one hw he, if_neg (by decide), if_neg (by decide), Qs_cons, if_neg (by omega)]
        refine ⟨by simp only [waitM, List.length_cons]; omega, .inr (.inl ⟨rfl, ?_⟩)⟩
        have e : (gotM (waitM { M with ahead := r } false ⟨#[]⟩)).2 = tellM { waitM { M with ahead := r } false ⟨#[]⟩ with wd := 0, st := 76 } 1 := rfl
        rw [e]
        refine ⟨⟨.inl rfl, .inr rfl, hfr, okTold_app ht (fun _ => rfl)⟩, rfl, by unfold tellM; rw [resT_app]; simp [waitM], by simp [rk, tellM, waitM]⟩
      · exact step 7 (by decide) (by omega) (by unfold takeM; rw [if_pos h, if_neg (by simp [hs]), if_pos hs])
    · rcases hs with hs | hs
      · have he : takeM { M with ahead := r } f = (1, waitM { M with ahead := r } true f.f1) := by unfold takeM; rw [if_neg (by omega), if_pos h, if_pos hs]
        rw [goL_one hw he, if_neg (by decide), if_neg (by decide), Qs_cons, if_pos h]
        refine ⟨by simp only [waitM, List.length_cons]; omega, .inr (.inl ⟨rfl, ?_⟩)⟩
        have e : (gotM (waitM { M with ahead := r } true f.f1)).2 = { waitM { M with ahead := r } true f.f1 with wd := 2 } := rfl
        rw [e]
        exact ⟨⟨.inr (.inl rfl), .inl hs, hfr, ht⟩, rfl, rfl, by simp [rk, waitM]; omega⟩
      · have he : takeM { M with ahead := r } f = (2, sentM { M with ahead := r } f.f1) := by unfold takeM; rw [if_neg (by omega), if_pos h, if_neg (by simp [hs]), if_pos hs]
        rw [goL_one hw he, if_neg (by decide), if_pos rfl, Qs_cons, if_pos h]
        refine ⟨by simp only [sentM, List.length_cons]; omega, .inr (.inr (.inl ⟨rfl, Qs r, rfl, fun t => ?_⟩))⟩
        have e : answerM (sentM { M with ahead := r } f.f1) t = (0, { sentM { M with ahead := r } f.f1 with told := M.told ++ [⟨2, 0, t⟩], wd := 0, st := 76 }) := rfl
        rw [e]
        refine ⟨rfl, ⟨.inl rfl, .inr rfl, hfr, okTold_app ht (fun h => absurd rfl h)⟩, rfl, by rw [resT_app]; rfl, by simp [rk, sentM]⟩
    · rcases hs with hs | hs
      · exact step 7 (by decide) (by omega) (by unfold takeM; rw [if_neg (by omega), if_neg (by omega), if_pos h, if_pos hs])
      · have he : takeM { M with ahead := r } f = (3, setSt (tellM { M with ahead := r } 3) 66) := by unfold takeM; rw [if_neg (by omega), if_neg (by omega), if_pos h, if_neg (by simp [hs]), if_pos hs]
        rw [goL_one hw he, if_neg (by decide), if_neg (by decide), Qs_cons, if_neg (by omega)]
        refine ⟨by simp only [setSt, tellM, List.length_append, List.length_cons, List.length_nil]; omega, .inr (.inr (.inr ⟨rfl, ⟨.inl hw, .inl rfl, hfr, (htell 3 (by decide)).1⟩, ?_, (htell 3 (by decide)).2, ?_⟩))⟩
        · show (if M.wd = 2 then _ else _) ++ Qs r = Qs r
          rw [if_neg (by omega)]; rfl
        · show 3 * r.length + (if M.wd = 2 then _ else if M.wd = 4 then _ else _) < _
          rw [if_neg (by omega), if_neg (by omega), List.length_cons]; omega
theorem next_NA (M : MSt) (h : Inv M) : NA (pend M) (resT M.told) (rk M) (M.told.length + M.ahead.length) (nextM M) := by
  obtain ⟨hw, hs, hf, ht⟩ := h
  unfold nextM
  rcases hw with hw | hw | hw
  · rw [if_neg (by omega), if_neg (by omega)]
    have e1 : pend M = Qs M.ahead := by unfold pend; rw [if_neg (by omega)]; rfl
    have e2 : rk M = 3 * M.ahead.length := by unfold rk; rw [if_neg (by omega), if_neg (by omega)]; rfl
    rw [e1, e2]
    exact goL_NA M.ahead M rfl hw hs hf ht
  · rw [if_pos hw]
    refine ⟨Nat.le_refl _, .inr (.inr (.inl ⟨rfl, Qs M.ahead, by unfold pend; rw [if_pos hw]; rfl, fun t => ?_⟩))⟩
    have e : answerM { M with wd := 3 } t = (0, { M with told := M.told ++ [⟨2, 0, t⟩], wd := if M.alone = true then 4 else 0, st := 76 }) := rfl
    rw [e]
    refine ⟨rfl, ⟨?_, .inr rfl, hf, okTold_app ht (fun h => absurd rfl h)⟩, ?_, by rw [resT_app]; rfl, ?_⟩
    · show (if M.alone = true then (4 : Int) else 0) = 0 ∨ _ ∨ (if M.alone = true then (4 : Int) else 0) = 4
      split <;> simp
    · show (if (if M.alone = true then (4 : Int) else 0) = 2 then _ else _) ++ Qs M.ahead = Qs M.ahead
      rw [if_neg (by split <;> decide)]; rfl
    · show 3 * M.ahead.length + (if (if M.alone = true then (4 : Int) else 0) = 2 then 2 else if (if M.alone = true then (4 : Int) else 0) = 4 then 1 else 0) < rk M
      unfold rk
      rw [if_pos hw, if_neg (by split <;> decide)]
      split <;> simp
  · rw [if_neg (by omega), if_pos hw]
    refine ⟨Nat.le_refl _, .inr (.inr (.inr ⟨rfl, ⟨.inl rfl, .inl rfl, hf, ht⟩, ?_, rfl, ?_⟩))⟩
    · unfold pend
      rw [if_neg (by show ¬ (0 : Int) = 2; decide), if_neg (by omega)]
    · unfold rk
      rw [if_neg (by show ¬ (0 : Int) = 2; decide), if_neg (by show ¬ (0 : Int) = 4; decide), if_neg (by omega), if_pos hw]
      show 3 * M.ahead.length + 0 < 3 * M.ahead.length + 1
      omega
/-- A way: how a connection, and the backend, treat a session. -/
structure S37 where
  f0 : Bool
  f1 : Bool
  f2 : ByteArray
def z37 : S37 := ⟨false, false, ⟨#[]⟩⟩
def k37 : Kd S37 := Kd.iso (Kd.pair Kd.bool (Kd.pair Kd.bool Kd.string)) (fun x : S37 => (x.f0, x.f1, x.f2))
theorem k37_open {w : World} {x : S37} {cs : List Value} (h : k37.K w x cs) : cs = [.bool x.f0, .bool x.f1, .string x.f2] := by
  obtain ⟨_, _, rfl, rfl, _, _, rfl, rfl, rfl⟩ := h
  exact rfl
def rd37 (xs : List S37) (i : Nat) : S37 := xs.getD i z37
theorem at37 {w : World} {A : Option Addr} {n : Nat} {xs : List S37} (h : Kd.C k37 w A n xs) (i : Nat) (h1 : i < n) : ∃ ad, A = some ad ∧ w.cell? (ad.add (i * 3)) = some (.bool (rd37 xs i).f0) ∧ w.cell? ⟨(ad.add (i * 3)).block, (ad.add (i * 3)).off + 1, none⟩ = some (.bool (rd37 xs i).f1) ∧ w.cell? ⟨(ad.add (i * 3)).block, (ad.add (i * 3)).off + 2, none⟩ = some (.string (rd37 xs i).f2) := by
  obtain ⟨ad, c, e, _, hK, hc0⟩ := Kd.C_get h z37 (i : Int) (by omega) (by omega)
  rw [Int.toNat_natCast] at hK hc0
  have hc : ∀ j u, c[j]? = some u → w.cell? (ad.add (i * 3 + j)) = some u := hc0
  obtain rfl := k37_open hK
  exact ⟨ad, e, hc 0 _ rfl, by rw [← add_field _ _ 1 (by omega)]; exact hc 1 _ rfl, by rw [← add_field _ _ 2 (by omega)]; exact hc 2 _ rfl⟩
theorem info9 : (Try.prog.info? 9).map (fun i => (i.zero, i.size, i.bytes)) = some (some (.string ⟨#[]⟩), 1, 16) := by kernel_rfl
/-- A session beside two rows of strings, all on blocks of their own. -/
def Tri (b : Nat) (w : World) (g : Nat) (M : MSt) (va : Value) (xs : List ByteArray) (vb : Value) (ys : List ByteArray) : Prop :=
  ∃ S SA SB : Nat → Prop, MX S b w g M ∧ Kd.R Kd.string 9 w b SA va xs ∧ Kd.R Kd.string 9 w b SB vb ys ∧ (∀ k, SA k → k < w.heap.size ∧ ¬ S k ∧ ¬ SB k) ∧ (∀ k, SB k → k < w.heap.size ∧ ¬ S k)
theorem Tri.sess {b g : Nat} {w : World} {M : MSt} {va vb : Value} {xs ys : List ByteArray} (h : Tri b w g M va xs vb ys) : ∃ S, MX S b w g M ∧ ∀ w' M', Goes S b w g w' M' → Tri b w' g M' va xs vb ys := by
  obtain ⟨S, SA, SB, hm, ha, hb, dA, dB⟩ := h
  refine ⟨S, hm, fun w' M' ⟨S1, h1, h2, h3, h4⟩ => ⟨S1, SA, SB, h2, Kd.R_step ha (fun k hk hl => h3.2 k hl (dA k hk).2.1), Kd.R_step hb (fun k hk hl => h3.2 k hl (dB k hk).2), fun k hk => ⟨Nat.lt_of_lt_of_le (dA k hk).1 h3.1, fun hs => (h1 k hs).elim (dA k hk).2.1 (fun h => Nat.not_lt.2 h (dA k hk).1), (dA k hk).2.2⟩, fun k hk => ⟨Nat.lt_of_lt_of_le (dB k hk).1 h3.1, fun hs => (h1 k hs).elim (dB k hk).2 (fun h => Nat.not_lt.2 h (dB k hk).1)⟩⟩⟩
theorem MX.far {S : Nat → Prop} {b g : Nat} {w w1 : World} {M : MSt} (h : MX S b w g M) (hz : w.heap.size ≤ w1.heap.size) (hk : ∀ k, S k → k < w.heap.size → w1.heap[k]? = w.heap[k]?) : MX S b w1 g M := by
  obtain ⟨h1, h2, Sr, gr, vt, va, vb, hm⟩ := h
  exact ⟨fun k hk => Nat.lt_of_lt_of_le (h1 k hk) hz, Nat.le_trans h2 hz, Sr, gr, vt, va, vb, hm.step hk⟩
theorem Tri.appA {b g : Nat} {w : World} {M : MSt} {va vb : Value} {xs ys : List ByteArray} (h : Tri b w g M va xs vb ys) : ∃ SA : Nat → Prop, Kd.R Kd.string 9 w b SA va xs ∧ b ≤ w.heap.size ∧ ∀ v1 w1 xs1, Kd.R Kd.string 9 w1 b (fun k => SA k ∨ w.heap.size ≤ k) v1 xs1 → w.grownBy w1 va.ownBlock → Tri b w1 g M v1 xs1 vb ys := by
  obtain ⟨S, SA, SB, hm, ha, hb, dA, dB⟩ := h
  refine ⟨SA, ha, hm.2.1, fun v1 w1 xs1 ho hg => ⟨S, fun k => (SA k ∨ w.heap.size ≤ k) ∧ k < w1.heap.size, SB, hm.far hg.size (fun k hk hl => hg.block k hl (fun e => (dA k (ha.1 k e.symm)).2.1 hk)), Kd.R_mono (Kd.R_bound ho) (fun k hk => ⟨hk.1, hk.2.2.1⟩), Kd.R_step hb (fun k hk hl => hg.block k hl (fun e => (dA k (ha.1 k e.symm)).2.2 hk)), fun k hk => ⟨hk.2, fun hs => hk.1.elim (fun h => (dA k h).2.1 hs) (fun h => Nat.not_lt.2 h (hm.1 k hs)), fun hs => hk.1.elim (fun h => (dA k h).2.2 hs) (fun h => Nat.not_lt.2 h (dB k hs).1)⟩, fun k hk => ⟨Nat.lt_of_lt_of_le (dB k hk).1 hg.size, (dB k hk).2⟩⟩⟩
theorem Tri.swap {b g : Nat} {w : World} {M : MSt} {va vb : Value} {xs ys : List ByteArray} (h : Tri b w g M va xs vb ys) : Tri b w g M vb ys va xs := by
  obtain ⟨S, SA, SB, hm, ha, hb, dA, dB⟩ := h
  exact ⟨S, SB, SA, hm, hb, ha, fun k hk => ⟨(dB k hk).1, (dB k hk).2, fun h => (dA k h).2.2 hk⟩, fun k hk => ⟨(dA k hk).1, (dA k hk).2.1⟩⟩
theorem Tri.below {b g : Nat} {w w1 : World} {M : MSt} {va vb : Value} {xs ys : List ByteArray} (h : Tri b w g M va xs vb ys) (hb : Below w.heap.size w w1) : Tri b w1 g M va xs vb ys := by
  obtain ⟨S, hm, f⟩ := h.sess
  exact f w1 M (Goes.below hm hb)
theorem Tri.start {S : Nat → Prop} {b g : Nat} {w : World} {M : MSt} (h : MX S b w g M) : Tri b w g M (.slice none 0 0) [] (.slice none 0 0) [] :=
  ⟨S, fun _ => False, fun _ => False, h, Kd.R_nil _ _ _ _ _, Kd.R_nil _ _ _ _ _, fun _ h => h.elim, fun _ h => h.elim⟩
theorem Tri.base {b g : Nat} {w : World} {M : MSt} {va vb : Value} {xs ys : List ByteArray} (h : Tri b w g M va xs vb ys) : b ≤ w.heap.size := by
  obtain ⟨S, _, _, hm, _⟩ := h
  exact hm.2.1
theorem runE_ok : ∀ (l : List S44) (acc a : List Int), runE acc l = some a → ∀ f ∈ l, okF f := by
  intro l
  induction l with
  | nil => intro acc a _ f hf; cases hf
  | cons f r ih =>
    intro acc a h x hx
    unfold runE at h
    cases he : encF f with
    | none => rw [he] at h; cases h
    | some c =>
      rw [he] at h
      rcases List.mem_cons.1 hx with hx | hx
      · subst hx
        unfold encF at he
        unfold okF
        split at he
        · omega
        · split at he
          · omega
          · cases he
      · exact ih _ _ h x hx
theorem feed_enc (l : List S44) (bs : ByteArray) (h : ansB (runE [] l) = (bs, 0)) (hn : l.length ≤ 100) : ∃ s1, feedM M0 (nums bs) = (0, ⟨s1, l, false, 66, 0, false, ⟨#[]⟩, []⟩) ∧ bs.size ≤ 63 * l.length ∧ ∀ f ∈ l, okF f := by
  cases he : runE [] l with
  | none => rw [he] at h; injection h with _ h; cases h
  | some a =>
    rw [he] at h
    injection h with h _
    obtain ⟨r, h1, h2, h3, h4, h5⟩ := enc_runs l ⟨0, 0, [], []⟩ [] a rfl he
    have h1 : a = r := h1
    subst h1
    have hb : nums bs = a := by rw [← h]; exact bytes_son a h4
    refine ⟨emptied (runS ⟨0, 0, [], []⟩ a), ?_, by rw [← h, strOfNums_size]; exact h5, runE_ok l [] a he⟩
    rw [hb]
    have h3 : (runS ⟨0, 0, [], []⟩ a).out = l := h3
    unfold feedM
    rw [if_neg (by decide), if_neg (by decide), if_neg (fun hx => by
      have : (runS ⟨0, 0, [], []⟩ a).at_ = 3 := hx.1
      rw [h2] at this
      cases this)]
    show ((0 : Int), (⟨emptied (runS ⟨0, 0, [], []⟩ a), [] ++ (runS ⟨0, 0, [], []⟩ a).out, false, 66, 0, false, ⟨#[]⟩, []⟩ : MSt)) = _
    rw [h3]
    rfl
theorem NA_told {pd rs : List ByteArray} {k n : Nat} {p : (Int × ByteArray) × MSt} (h : NA pd rs k n p) : p.2.told.length + p.2.ahead.length ≤ n := h.1
theorem okT_of {M : MSt} (h : Inv M) : okT M := h.2.1.elim .inl (fun h => .inr (.inl h))
theorem got_len (M : MSt) : (gotM M).2.told.length + (gotM M).2.ahead.length ≤ M.told.length + M.ahead.length + 1 := by
  unfold gotM
  repeat' split
  all_goals simp [tellM] <;> omega
theorem answer_len (M : MSt) (t : ByteArray) : (answerM M t).2.told.length + (answerM M t).2.ahead.length ≤ M.told.length + M.ahead.length + 1 := by
  unfold answerM
  split <;> simp <;> omega
end Go.Proofs.Ythjjblnkaikmlaa.Mx
