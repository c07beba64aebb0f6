/- The law StreamCuts, walked: it returns true, whatever the text and the cuts. -/
import Derived.Test.YtpnbeifbapcmdaaStB
namespace Go.Proofs.Ytpnbeifbapcmdaa.St
open Go.RowKit Go.Proofs.Ytpnbeifbapcmdaa.PStreamFeeds Go.Proofs.YtpnbeifbapcmdaaW.PrintWords Go.Proofs.YtpnbeifbapcmdaaW.PrintLast Go.Proofs.YtpnbeifbapcmdaaW.PrintMore
set_option linter.unusedVariables false
set_option linter.unusedSimpArgs false
attribute [local go_sem] max2_int min2_int max_two min_two
theorem w_sub (a b : Nat) (ha : a ≤ 5000) (hb : b ≤ a) : wrap64 ((a : Int) - (b : Int)) = (a : Int) - (b : Int) := by unfold wrap64; omega
theorem w_add (a b : Nat) (ha : a + b ≤ 5000) : wrap64 ((a : Int) + (b : Int)) = ((a + b : Nat) : Int) := by unfold wrap64; omega
theorem i_sub (a b : Nat) (ha : a ≤ 5000) (hb : b ≤ a) : IntKind.i64.wrap ((a : Int) - (b : Int)) = (a : Int) - (b : Int) := by rw [IntKind.wrap_i64]; omega
theorem i_add (a b : Nat) (ha : a + b ≤ 5000) : IntKind.i64.wrap ((a : Int) + (b : Int)) = ((a + b : Nat) : Int) := by rw [IntKind.wrap_i64]; omega
theorem run_out_len (l : List Int) : ∀ s : RS, (runS s l).out.length ≤ s.out.length + l.length := by
  induction l with
  | nil => intro s; exact Nat.le_refl _
  | cons c r ih =>
    intro s
    have h1 := ih (stepS s c)
    have h2 := step_out s c
    show (runS (stepS s c) r).out.length ≤ _
    rw [List.length_cons]
    omega
theorem k64_KM {w w' : World} {base : Nat} {ok : Nat → Prop} {x : S64} {cs : List Value} (h : k64.K w x cs) : k64.M w' base ok x cs := by
  obtain rfl := k64_open h
  exact k64_mkM _ _ _ x
def Z0 : RS := ⟨0, 0, [], []⟩
theorem cut_pure (s y : ByteArray) (f t : Nat) (hft : f ≤ t) (ht : t ≤ s.size) (hs : s.size ≤ 5000) (hy : s.extract f t = y) :
    emptied (runS Z0 ((nums s).take t)) = emptied (runS (emptied (runS Z0 ((nums s).take f))) (nums y)) ∧ (runS Z0 ((nums s).take t)).out = (runS Z0 ((nums s).take f)).out ++ (runS (emptied (runS Z0 ((nums s).take f))) (nums y)).out ∧ (runS Z0 ((nums s).take f)).out.length ≤ 5000 ∧ (runS (emptied (runS Z0 ((nums s).take f))) (nums y)).out.length ≤ 5000 ∧ y.size ≤ 5000 := by
  have hyn : nums y = ((nums s).take t).drop f := by rw [← hy]; exact nums_extract s f t
  have e7 : (nums s).take f ++ nums y = (nums s).take t := by
    rw [hyn]
    have h := List.take_append_drop f ((nums s).take t)
    rw [List.take_take, Nat.min_eq_left hft] at h
    exact h
  have l1 : ((nums s).take f).length ≤ 5000 := by rw [List.length_take, nums_len]; omega
  have l2 : (nums y).length ≤ 5000 := by rw [hyn, List.length_drop, List.length_take, nums_len]; omega
  have h1 := run_out_len ((nums s).take f) Z0
  have h2 := run_out_len (nums y) (emptied (runS Z0 ((nums s).take f)))
  have z1 : Z0.out.length = 0 := rfl
  have z2 : (emptied (runS Z0 ((nums s).take f))).out.length = 0 := rfl
  have h3 := emp_app Z0 ((nums s).take f) (nums y)
  rw [e7] at h3
  rw [z1] at h1
  rw [z2] at h2
  exact ⟨h3.1, h3.2, by omega, by omega, by rw [← nums_len]; exact l2⟩
theorem byte_pure (s : ByteArray) (i : Nat) (h : i < s.size) (hs : s.size ≤ 5000) :
    emptied (runS Z0 ((nums s).take (i + 1))) = emptied (runS (emptied (runS Z0 ((nums s).take i))) [(s[i].toNat : Int)]) ∧ (runS Z0 ((nums s).take (i + 1))).out = (runS Z0 ((nums s).take i)).out ++ (runS (emptied (runS Z0 ((nums s).take i))) [(s[i].toNat : Int)]).out ∧ (runS Z0 ((nums s).take i)).out.length ≤ 5000 ∧ (runS (emptied (runS Z0 ((nums s).take i))) [(s[i].toNat : Int)]).out.length ≤ 5000 := by
  have hl : i < (nums s).length := by rw [nums_len]; exact h
  have e : (nums s).take (i + 1) = (nums s).take i ++ [(s[i].toNat : Int)] := by
    rw [List.take_succ_eq_append_getElem hl]
    congr 2
    simp only [nums, List.getElem_map, Array.getElem_toList]
    rfl
  have l1 : ((nums s).take i).length ≤ 5000 := by rw [List.length_take, nums_len]; omega
  have h1 := run_out_len ((nums s).take i) Z0
  have h2 := run_out_len [(s[i].toNat : Int)] (emptied (runS Z0 ((nums s).take i)))
  have z1 : Z0.out.length = 0 := rfl
  have z2 : (emptied (runS Z0 ((nums s).take i))).out.length = 0 := rfl
  have h3 := emp_app Z0 ((nums s).take i) [(s[i].toNat : Int)]
  rw [← e] at h3
  rw [z1] at h1
  rw [z2] at h2
  exact ⟨h3.1, h3.2, by omega, by simp only [List.length_cons, List.length_nil] at h2; omega⟩
theorem same_from (l : List S64) (hl : l.length ≤ 1000000000) (d : Nat) : ∀ (k i : Nat), l.length - i = d → i ≤ l.length → d < k → stopcockref09_Same.l0 k l l (l.length : Int) (i : Int) = some true := by
  induction d with
  | zero =>
    intro k i hd hi hk
    obtain ⟨k, rfl⟩ : ∃ m, k = m + 1 := ⟨k - 1, by omega⟩
    simp only [stopcockref09_Same.l0]
    rw [if_neg (by omega)]
  | succ d ih =>
    intro k i hd hi hk
    obtain ⟨k, rfl⟩ : ∃ m, k = m + 1 := ⟨k - 1, by omega⟩
    simp only [stopcockref09_Same.l0]
    rw [if_pos (by omega), if_pos (by omega), if_pos (by omega), if_pos (by omega), if_neg (by simp)]
    rw [show wrap64 ((i : Int) + 1) = ((i + 1 : Nat) : Int) by unfold wrap64; omega]
    exact ih k (i + 1) (by omega) (by omega) (by omega)
theorem same_refl (l : List S64) (hl : l.length ≤ 1000000000) : stopcockref09_Same.f (l.length + 1) l l = some true := by
  unfold stopcockref09_Same.f
  rw [if_pos rfl]
  exact same_from l hl l.length (l.length + 1) 0 (by omega) (by omega) (by omega)
set_option maxHeartbeats 8000000 in
set_option maxRecDepth 100000 in
theorem cuts_walk (s : ByteArray) (A0 : Option Addr) (c0 : Nat) (l : List Int) (w : World) (hr0 : Kd.C (Kd.int .i64) w A0 l.length l) (hc0 : l.length ≤ c0) (hs : s.size ≤ 5000) (hll : l.length ≤ 140737488351232) :
    Calls Try.prog 5 #[.string s, .slice A0 l.length c0] w fun e w' => e = .returned (.bool true) ∧ Below w.heap.size w w' := by
  have hcc := fun (W : World) (s : ByteArray) => conv_str W s
  go_enter Try.func5, Try.ntmps5
  go_wp2_with fail
  refine (live_calls w).mono ?_
  rintro _ w1 ⟨rfl, hb1⟩
  have HB1 := Aside0.mk hb1
  clear hb1
  go_wp2_with fail
  refine (new_calls w1).mono ?_
  rintro _ w2 ⟨ga, rfl, ha0, ha1, har, hb2⟩
  have HA2 := Aside0.mk har
  have HB2 := Aside0.mk (below_step HB1.out hb2)
  have HBa := Aside0.mk hb2
  clear har hb2
  go_wp2_with fail
  refine (new_calls w2).mono ?_
  rintro _ w3 ⟨gb, rfl, hb0, hb1, hbr, hb3⟩
  have HBR := Aside0.mk hbr
  have HB3 := Aside0.mk (below_step HB2.out hb3)
  have HBb := Aside0.mk hb3
  clear hbr hb3
  go_wp2_with fail
  refine (new_calls w3).mono ?_
  rintro _ w4 ⟨gc, rfl, hc0', hc1, hcr, hb4⟩
  have HCR := Aside0.mk hcr
  have HB4 := Aside0.mk (below_step HB3.out hb4)
  have HBc := Aside0.mk hb4
  clear hcr hb4
  go_wp2_with fail
  have hpa : Ph w4 (fun k => k = ga) w1.heap.size ga w4 ⟨0, 0, [], []⟩ (.slice none 0 0) [] := by
    have hr4 : RdrS (fun k => k = ga) w1.heap.size w4.heap.size w4 ga ⟨0, 0, [], []⟩ (.slice none 0 0) (.slice none 0 0) :=
      Rdr.step (HA2.out _) fun k hk hlt => (HBc.out.block k (Nat.lt_of_lt_of_le hlt HBb.out.size)).trans (HBb.out.block k hlt)
    exact ⟨_, rfl, by unfold okS; decide, Nat.le_trans HBa.out.size (Nat.le_trans HBb.out.size HBc.out.size), fun k hk => .inl hk, fun k hk => by rw [hk]; exact blk_lt hr4.2.2.1, hr4, Kd.R_nil _ _ _ _ _, Kept.refl _ _⟩
  obtain ⟨resta, fra, rowa⟩ := bw_row w4 s
  have hfa := feed_ph w4 _ w1.heap.size ga _ _ _ w4.heap.size (grownCap w4 s.size 0 5) s.size (nums s) resta fra w4 (Lib.bytesWorld w4 5 s) hpa (bw_below w4 s) (Nat.le_refl _) rowa (nums_len s).symm (grownCap_ge _ _ _ _) (nums_by s) (by rw [nums_len]; omega)
  refine Calls.mono hfa ?_
  clear hfa rowa hpa
  rintro _ w5 ⟨va, Sa, rfl, hpa, hoa, hba⟩
  have HPA := Aside0.mk hpa
  have HOA := Aside0.mk hoa
  have HBA := Aside0.mk hba
  clear hpa hoa hba
  have hgab : gb ≠ ga := by omega
  have hgac : gc ≠ ga := by have := HBb.out.size; omega
  have hgbc : gc ≠ gb := by omega
  have hka : Kept w4 w5 (fun k => k = ga) := by obtain ⟨_, _, _, _, _, _, _, _, h⟩ := HPA.out; exact h
  have hrb : RdrS (fun k => k = gb) w2.heap.size w5.heap.size w5 gb ⟨0, 0, [], []⟩ (.slice none 0 0) (.slice none 0 0) :=
    Rdr.step (Rdr.step (HBR.out _) fun k hk hlt => HBc.out.block k hlt) fun k hk hlt => hka.2 k hlt (by rw [hk]; exact hgab)
  have e0 : runS Z0 ((nums s).take 0) = ⟨0, 0, [], []⟩ := by rw [List.take_zero]; rfl
  have hpb : Ph w5 (fun k => k = gb) w2.heap.size gb w5 ⟨0, 0, [], []⟩ (.slice none 0 0) [] :=
    ⟨_, rfl, by unfold okS; decide, Nat.le_trans HBb.out.size (Nat.le_trans HBc.out.size hka.1), fun k hk => .inl hk, fun k hk => by rw [hk]; exact blk_lt hrb.2.2.1, hrb, Kd.R_nil _ _ _ _ _, Kept.refl _ _⟩
  have HPB : Aside0 (Ph w5 (fun k => k = gb) w2.heap.size gb w5 (emptied (runS Z0 ((nums s).take 0))) (.slice none 0 0) (runS Z0 ((nums s).take 0)).out) := ⟨by rw [e0]; exact hpb⟩
  clear e0 hpb
  have hrc : RdrS (fun k => k = gc) w3.heap.size w5.heap.size w5 gc ⟨0, 0, [], []⟩ (.slice none 0 0) (.slice none 0 0) :=
    Rdr.step (HCR.out _) fun k hk hlt => hka.2 k hlt (by rw [hk]; exact hgac)
  have HRC := Aside0.mk hrc
  have HB5 := Aside0.mk (HB4.out.trans (HBA.out.mono HB1.out.size))
  have Hka := Aside0.mk hka
  clear hrb hka hrc
  have HR := Aside0.mk hr0
  have HC := Aside0.mk hc0
  clear hr0 hc0
  go_wp2_with fail
  go_loopg [10, 12, 41] l.length (fun kq v10 v12 v41 w' => ∃ (i f : Nat), i ≤ l.length ∧ kq = l.length - i ∧ v41 = .int .i64 (i : Int) ∧ v12 = .int .i64 (f : Int) ∧ f ≤ s.size ∧ Aside0 (∃ Sb, Ph w5 Sb w2.heap.size gb w' (emptied (runS Z0 ((nums s).take f))) v10 (runS Z0 ((nums s).take f)).out) ∧ Aside0 (Below w.heap.size w w'))
  case atStart => exact ⟨0, 0, by omega, rfl, rfl, rfl, by omega, ⟨_, HPB.out⟩, HB5⟩
  case round =>
    clear HPB
    obtain ⟨i, f, hi, rfl, rfl, rfl, hf, HP, HB⟩ := hrel
    by_cases c1 : i < l.length
    · obtain ⟨ad, eA, hce⟩ := Kd.at_int (Kd.C_below HR.out HB.out) (i : Int) (by omega) (by omega)
      rw [Int.toNat_natCast] at hce
      obtain ⟨x, hx⟩ : ∃ x, x = rd l (i : Int) := ⟨_, rfl⟩
      rw [← hx] at hce
      obtain ⟨M, hM⟩ : ∃ M : Int, (if 0 < x then x else 0) = M := ⟨_, rfl⟩
      have hM0 : 0 ≤ M := by rw [← hM]; split <;> omega
      obtain ⟨d, hd, hd1⟩ : ∃ d : Nat, (if M < (s.size : Int) - (f : Int) then M else (s.size : Int) - (f : Int)) = (d : Int) ∧ f + d ≤ s.size := by
        refine ⟨(if M < (s.size : Int) - (f : Int) then M else (s.size : Int) - (f : Int)).toNat, ?_, ?_⟩
        · rw [Int.toNat_of_nonneg]; split <;> omega
        · split <;> omega
      have e1 := w_sub s.size f hs hf
      obtain ⟨t, ht⟩ : ∃ t, t = f + d := ⟨_, rfl⟩
      have e2 := w_add f d (Nat.le_trans hd1 hs)
      have e3 := i_sub s.size f hs hf
      have e4 := i_add f d (Nat.le_trans hd1 hs)
      rw [← ht] at e2 e4 hd1
      have hft : f ≤ t := by omega
      have HD := Aside0.mk ht
      clear ht
      have HX := Aside0.mk hx
      obtain ⟨y, hy⟩ : ∃ y, s.extract f t = y := ⟨_, rfl⟩
      clear hx
      obtain ⟨e5, e6, hpl, hql, hyl⟩ := cut_pure s y f t hft hd1 hs hy
      obtain ⟨ps, hps⟩ : ∃ ps, ps = (runS Z0 ((nums s).take f)).out := ⟨_, rfl⟩
      obtain ⟨st, hst⟩ : ∃ st, st = emptied (runS Z0 ((nums s).take f)) := ⟨_, rfl⟩
      obtain ⟨qs, hqs⟩ : ∃ qs, qs = (runS st (nums y)).out := ⟨_, rfl⟩
      rw [← hps, ← hst] at HP
      rw [← hst] at e5 e6 hql
      rw [← hps, ← hqs] at e6
      rw [← hps] at hpl
      rw [← hqs] at hql
      have PL := Aside0.mk hpl
      have QL := Aside0.mk hql
      have C1 := Aside0.mk c1
      have D1 := Aside0.mk hd1
      have E5 := Aside0.mk e5
      have E6 := Aside0.mk e6
      have HQS := Aside0.mk hqs
      obtain ⟨Sb, hp⟩ := HP.out
      obtain ⟨resty, fry, rowy⟩ := bw_row wr y
      have HFY := Aside0.mk (feed_ph w5 Sb w2.heap.size gb st _ ps wr.heap.size (grownCap wr y.size 0 5) y.size (nums y) resty fry wr (Lib.bytesWorld wr 5 y) hp (bw_below wr y) (Nat.le_refl _) rowy (nums_len y).symm (grownCap_ge _ _ _ _) (nums_by y) (by rw [nums_len]; exact Nat.le_trans hyl (by decide)))
      clear e5 e6 hyl hpl hql hps hst hqs hp rowy
      go_upto_region 16 with (fail)
      clear e1 e2 e3 e4 hd hM hM0 hce eA
      go_wp2_with fail
      clear hft hy
      refine Calls.mono HFY.out ?_
      clear HFY HP
      rintro _ w6 ⟨v6, S6, rfl, hp6, ho6, hb6⟩
      rw [← HQS.out] at ho6
      obtain ⟨A6, n6, e6'⟩ := Kd.R_slice ho6
      subst e6'
      have HPR6 : Aside0 (Kd.R k64 64 w6 w5.heap.size (fun k => ¬ S6 k) u10 ps) := ⟨by obtain ⟨_, _, _, _, _, _, _, h, _⟩ := hp6; exact h⟩
      have HZ6 : Aside0 (w5.heap.size ≤ w6.heap.size) := ⟨by obtain ⟨_, _, _, _, _, _, _, _, h⟩ := hp6; exact h.1⟩
      have HP6 := Aside0.mk hp6
      have HO6 := Aside0.mk ho6
      have HB6 := Aside0.mk (HB.out.trans (hb6.mono (HB2.out.size)))
      clear hp6 ho6 hb6
      go_wp2_with ((with_reducible refine gate_builtin (b := .append) (xs := #[.tmp 54, .tmp 61]) rfl ?_); at_builtin; refine Kd.R_append_rows k64 (w0 := w6) (W := w6) w5.heap.size rfl (.tmp 54) (.tmp 61) 52 64 (.agg #[(.int .u8 0), (.string ⟨#[]⟩)]) 24 rfl Try.underlying52 info64 rfl (by decide) (by omega) _ ps qs A6 qs.length n6 (fun k => ¬ S6 k) (fun _ => False) rfl rfl HPR6.out (Kd.R_reads' HO6.out).2.2 (fun _ _ h => k64_KM h) (fun _ h => h.elim) HP6.out.fresh (Below.refl _ _) HZ6.out (by have := PL.out; have := QL.out; omega) ?_; intro v7 w7 ho hb hg hat; have HP7 := Aside0.mk (HP6.out.app ho hg); have HB7 := Aside0.mk (HB6.out.trans (hb.mono HB5.out.size)); clear ho hb hg hat)
      go_roundg (l.length - (i + 1))
      case measure => have := C1.out; omega
      case rel => exact ⟨i + 1, t, by have := C1.out; omega, rfl, by have := C1.out; go_num, rfl, D1.out, ⟨S6, by rw [E5.out, E6.out]; exact HP7.out⟩, HB7⟩
    · obtain ⟨y, hy⟩ : ∃ y, s.extract f s.size = y := ⟨_, rfl⟩
      obtain ⟨e5, e6, hpl, hql, hyl⟩ := cut_pure s y f s.size hf (Nat.le_refl _) hs hy
      obtain ⟨ps, hps⟩ : ∃ ps, ps = (runS Z0 ((nums s).take f)).out := ⟨_, rfl⟩
      obtain ⟨st, hst⟩ : ∃ st, st = emptied (runS Z0 ((nums s).take f)) := ⟨_, rfl⟩
      obtain ⟨qs, hqs⟩ : ∃ qs, qs = (runS st (nums y)).out := ⟨_, rfl⟩
      rw [← hps, ← hst] at HP
      rw [← hst] at e5 e6 hql
      rw [← hps, ← hqs] at e6
      rw [← hps] at hpl
      rw [← hqs] at hql
      have PL := Aside0.mk hpl
      have QL := Aside0.mk hql
      have E5 := Aside0.mk e5
      have E6 := Aside0.mk e6
      have HQS := Aside0.mk hqs
      obtain ⟨Sb, hp⟩ := HP.out
      obtain ⟨resty, fry, rowy⟩ := bw_row wr y
      have HFY := Aside0.mk (feed_ph w5 Sb w2.heap.size gb st _ ps wr.heap.size (grownCap wr y.size 0 5) y.size (nums y) resty fry wr (Lib.bytesWorld wr 5 y) hp (bw_below wr y) (Nat.le_refl _) rowy (nums_len y).symm (grownCap_ge _ _ _ _) (nums_by y) (by rw [nums_len]; exact Nat.le_trans hyl (by decide)))
      clear e5 e6 hyl hpl hql hps hst hqs hp rowy
      go_wp2_with fail
      clear hy
      refine Calls.mono HFY.out ?_
      clear HFY HP
      rintro _ w6 ⟨v6, S6, rfl, hp6, ho6, hb6⟩
      rw [← HQS.out] at ho6
      obtain ⟨A6, n6, e6'⟩ := Kd.R_slice ho6
      subst e6'
      have HPR6 : Aside0 (Kd.R k64 64 w6 w5.heap.size (fun k => ¬ S6 k) u10 ps) := ⟨by obtain ⟨_, _, _, _, _, _, _, h, _⟩ := hp6; exact h⟩
      have HZ6 : Aside0 (w5.heap.size ≤ w6.heap.size) := ⟨by obtain ⟨_, _, _, _, _, _, _, _, h⟩ := hp6; exact h.1⟩
      have HP6 := Aside0.mk hp6
      have HO6 := Aside0.mk ho6
      have HB6 := Aside0.mk (HB.out.trans (hb6.mono (HB2.out.size)))
      clear hp6 ho6 hb6
      go_wp2_with ((with_reducible refine gate_builtin (b := .append) (xs := #[.tmp 65, .tmp 71]) rfl ?_); at_builtin; refine Kd.R_append_rows k64 (w0 := w6) (W := w6) w5.heap.size rfl (.tmp 65) (.tmp 71) 52 64 (.agg #[(.int .u8 0), (.string ⟨#[]⟩)]) 24 rfl Try.underlying52 info64 rfl (by decide) (by omega) _ ps qs A6 qs.length n6 (fun k => ¬ S6 k) (fun _ => False) rfl rfl HPR6.out (Kd.R_reads' HO6.out).2.2 (fun _ _ h => k64_KM h) (fun _ h => h.elim) HP6.out.fresh (Below.refl _ _) HZ6.out (by have := PL.out; have := QL.out; omega) ?_; intro v7 w7 ho hb hg hat; have HP7 := Aside0.mk (HP6.out.app ho hg); have HB7 := Aside0.mk (HB6.out.trans (hb.mono HB5.out.size)); clear ho hb hg hat)
      rw [show (nums s).take s.size = nums s by rw [← nums_len, List.take_length]] at E5 E6
      have HP8 : Aside0 (Ph w5 S6 w2.heap.size gb w7 (emptied (runS Z0 (nums s))) v7 (runS Z0 (nums s)).out) := ⟨by rw [E5.out, E6.out]; exact HP7.out⟩
      clear HP7 E5 E6 HPR6 HP6 HO6 HB6 HQS PL QL
      have hkb : Kept w5 w7 (fun k => k = gb) := by obtain ⟨_, _, _, _, _, _, _, _, h⟩ := HP8.out; exact h
      have hrc7 : RdrS (fun k => k = gc) w3.heap.size w7.heap.size w7 gc ⟨0, 0, [], []⟩ (.slice none 0 0) (.slice none 0 0) := by
        have h := Rdr.step HRC.out fun k hk hlt => hkb.2 k hlt (by rw [hk]; exact hgbc)
        exact ⟨h.1, h.2.1, h.2.2.1, h.2.2.2.1, Kd.R_nil _ _ _ _ _⟩
      have e0 : runS Z0 ((nums s).take 0) = ⟨0, 0, [], []⟩ := by rw [List.take_zero]; rfl
      have hpc : Ph w7 (fun k => k = gc) w3.heap.size gc w7 ⟨0, 0, [], []⟩ (.slice none 0 0) [] :=
        ⟨_, rfl, by unfold okS; decide, Nat.le_trans HBc.out.size (Nat.le_trans Hka.out.1 hkb.1), fun k hk => .inl hk, fun k hk => by rw [hk]; exact blk_lt hrc7.2.2.1, hrc7, Kd.R_nil _ _ _ _ _, Kept.refl _ _⟩
      have HPC : Aside0 (Ph w7 (fun k => k = gc) w3.heap.size gc w7 (emptied (runS Z0 ((nums s).take 0))) (.slice none 0 0) (runS Z0 ((nums s).take 0)).out) := ⟨by rw [e0]; exact hpc⟩
      have Hkb := Aside0.mk hkb
      clear e0 hpc hrc7 hkb
      go_loopg [11, 16] s.size (fun kq v11 v16 w' => ∃ i : Nat, i ≤ s.size ∧ kq = s.size - i ∧ v16 = .int .i64 (i : Int) ∧ Aside0 (∃ Sc, Ph w7 Sc w3.heap.size gc w' (emptied (runS Z0 ((nums s).take i))) v11 (runS Z0 ((nums s).take i)).out) ∧ Aside0 (Below w.heap.size w w'))
      case atStart => exact ⟨0, by omega, rfl, rfl, ⟨_, HPC.out⟩, HB7⟩
      case round =>
        clear HPC
        obtain ⟨i2, hi2, rfl, rfl, HP, HB⟩ := hrel
        by_cases c2 : i2 < s.size
        · obtain ⟨e5, e6, hpl, hql⟩ := byte_pure s i2 c2 hs
          obtain ⟨x, hx⟩ : ∃ x : Int, (s[i2].toNat : Int) = x := ⟨_, rfl⟩
          have hxb : ∀ z ∈ [x], 0 ≤ z ∧ z < 256 := by
            intro z hz
            have := s[i2].toNat_lt
            rw [List.mem_singleton.1 hz, ← hx]
            omega
          rw [hx] at e5 e6 hql
          obtain ⟨ps, hps⟩ : ∃ ps, ps = (runS Z0 ((nums s).take i2)).out := ⟨_, rfl⟩
          obtain ⟨st, hst⟩ : ∃ st, st = emptied (runS Z0 ((nums s).take i2)) := ⟨_, rfl⟩
          obtain ⟨qs, hqs⟩ : ∃ qs, qs = (runS st [x]).out := ⟨_, rfl⟩
          rw [← hps, ← hst] at HP
          rw [← hst] at e5 e6 hql
          rw [← hps, ← hqs] at e6
          rw [← hps] at hpl
          rw [← hqs] at hql
          have PL := Aside0.mk hpl
          have QL := Aside0.mk hql
          have E5 := Aside0.mk e5
          have E6 := Aside0.mk e6
          have HQS := Aside0.mk hqs
          have C2 := Aside0.mk c2
          have HS := Aside0.mk hs
          obtain ⟨Sc, hp⟩ := HP.out
          have HFY := Aside0.mk (feed_ph w7 Sc w3.heap.size gc st _ ps wr.heap.size 1 1 [x] [] (0, 0) wr (wr.alloc (.cells #[.int .u8 x] 5)) hp (below_alloc (Below.refl _ _) _) (Nat.le_refl _) (by simpa using heap_alloc_new wr _) rfl (Nat.le_refl _) hxb (by show 1 ≤ 900000000; decide))
          clear e5 e6 hpl hql hps hst hqs hp hxb
          go_wp2_with fail
          clear hx
          refine Calls.mono HFY.out ?_
          clear HFY HP
          rintro _ w8 ⟨v8, S8, rfl, hp6, ho6, hb6⟩
          rw [← HQS.out] at ho6
          obtain ⟨A8, n8, e8'⟩ := Kd.R_slice ho6
          subst e8'
          have HPR6 : Aside0 (Kd.R k64 64 w8 w7.heap.size (fun k => ¬ S8 k) u11 ps) := ⟨by obtain ⟨_, _, _, _, _, _, _, h, _⟩ := hp6; exact h⟩
          have HZ6 : Aside0 (w7.heap.size ≤ w8.heap.size) := ⟨by obtain ⟨_, _, _, _, _, _, _, _, h⟩ := hp6; exact h.1⟩
          have HP6 := Aside0.mk hp6
          have HO6 := Aside0.mk ho6
          have HB6 := Aside0.mk (HB.out.trans (hb6.mono (HB3.out.size)))
          clear hp6 ho6 hb6
          go_wp2_with ((with_reducible refine gate_builtin (b := .append) (xs := #[.tmp 79, .tmp 85]) rfl ?_); at_builtin; refine Kd.R_append_rows k64 (w0 := w8) (W := w8) w7.heap.size rfl (.tmp 79) (.tmp 85) 52 64 (.agg #[(.int .u8 0), (.string ⟨#[]⟩)]) 24 rfl Try.underlying52 info64 rfl (by decide) (by omega) _ ps qs A8 qs.length n8 (fun k => ¬ S8 k) (fun _ => False) rfl rfl HPR6.out (Kd.R_reads' HO6.out).2.2 (fun _ _ h => k64_KM h) (fun _ h => h.elim) HP6.out.fresh (Below.refl _ _) HZ6.out (by have := PL.out; have := QL.out; omega) ?_; intro v9 w9 ho hb hg hat; have HP9 := Aside0.mk (HP6.out.app ho hg); have HB9 := Aside0.mk (HB6.out.trans (hb.mono HB7.out.size)); clear ho hb hg hat)
          go_roundg (s.size - (i2 + 1))
          case measure => have := C2.out; omega
          case rel => exact ⟨i2 + 1, by have := C2.out; omega, rfl, by have := C2.out; have := HS.out; go_num, ⟨S8, by rw [E5.out, E6.out]; exact HP9.out⟩, HB9⟩
        · obtain rfl : i2 = s.size := by omega
          have hg0 : gb < w4.heap.size ∧ gc < w4.heap.size := ⟨by have := HBc.out.size; omega, by omega⟩
          have HG0 := Aside0.mk hg0
          rw [show (nums s).take s.size = nums s by rw [← nums_len, List.take_length]] at HP
          obtain ⟨fs, hfs⟩ : ∃ fs, fs = (runS Z0 (nums s)).out := ⟨_, rfl⟩
          obtain ⟨st, hst⟩ : ∃ st, st = emptied (runS Z0 (nums s)) := ⟨_, rfl⟩
          have hfl : fs.length ≤ 5000 := by
            have h := run_out_len (nums s) Z0
            rw [← hfs, nums_len] at h
            exact Nat.le_trans h (by show 0 + s.size ≤ 5000; omega)
          have hoa : Kd.R k64 64 w5 w4.heap.size (fun k => ¬ Sa k) va fs := by rw [hfs]; exact HOA.out
          have hpa' : Ph w4 Sa w1.heap.size ga w5 st (.slice none 0 0) [] := by rw [hst]; exact HPA.out
          have hp8 : Ph w5 S6 w2.heap.size gb w7 st v7 fs := by rw [hst, hfs]; exact HP8.out
          obtain ⟨Sc, hpc⟩ := HP.out
          rw [← hst, ← hfs] at hpc
          have HPC2 := Aside0.mk hpc
          have HPA2 := Aside0.mk hpa'
          have HPB2 := Aside0.mk hp8
          obtain ⟨vtc, _, hokc, _, _, _, hrc, hprc, hkc⟩ := hpc
          obtain ⟨vtb, _, _, _, hSb, hSzb, hrb, hprb, _⟩ := hp8
          obtain ⟨vta, _, _, _, hSa, hSza, hra, _, _⟩ := hpa'
          have ra : Kd.R k64 64 wr w4.heap.size (fun _ => True) va fs :=
            Kd.R_mono (Kd.R_kept (Kd.R_bound (Kd.R_kept (Kd.R_bound hoa) Hkb.out (fun k hk he => by have := hk.2.1; omega))) hkc (fun k hk he => by have := hk.2.1; omega)) (fun _ _ => trivial)
          have rb : Kd.R k64 64 wr w5.heap.size (fun _ => True) v7 fs :=
            Kd.R_mono (Kd.R_kept (Kd.R_bound hprb) hkc (fun k hk he => by have := hk.2.1; have := Hka.out.1; omega)) (fun _ _ => trivial)
          have rc : Kd.R k64 64 wr w7.heap.size (fun _ => True) u11 fs := Kd.R_mono hprc (fun _ _ => trivial)
          obtain ⟨Aa, na, ea⟩ := Kd.R_slice ra
          obtain ⟨Ab, nb, eb⟩ := Kd.R_slice rb
          obtain ⟨Ac, nc, ec⟩ := Kd.R_slice rc
          rw [ea] at ra
          rw [eb] at rb
          rw [ec] at rc
          have qa : RdrS Sa w1.heap.size w5.heap.size wr ga st vta (.slice none 0 0) := Rdr.step (Rdr.step hra fun k hk hlt => Hkb.out.2 k hlt (fun e => by rcases hSa k hk with h | h <;> omega)) fun k hk hlt => hkc.2 k hlt (fun e => by rcases hSa k hk with h | h <;> omega)
          have qb : RdrS S6 w2.heap.size w7.heap.size wr gb st vtb (.slice none 0 0) := Rdr.step hrb fun k hk hlt => hkc.2 k hlt (fun e => by have := Hka.out.1; rcases hSb k hk with h | h <;> omega)
          have RA := Aside0.mk ra
          have RB := Aside0.mk rb
          have RC := Aside0.mk rc
          have QA := Aside0.mk qa
          have QB := Aside0.mk qb
          have QC := Aside0.mk hrc
          have OK := Aside0.mk hokc
          have FL := Aside0.mk hfl
          clear ra rb rc qa qb hrc hprc hkc hSb hSzb hrb hprb hSa hSza hra hoa hfs hst hfl hokc hg0
          go_wp2_with fail
          rw [ea, eb]
          refine (stopcockref09_Same.calls (fs.length + 1) Aa na fs Ab nb fs true wr (Kd.R_reads' RA.out).2.2 (Kd.R_reads' RA.out).2.1 (Kd.R_reads' RB.out).2.2 (Kd.R_reads' RB.out).2.1 (same_refl fs (Nat.le_trans FL.out (by decide)))).mono ?_
          rintro _ w8 ⟨rfl, hd8⟩
          obtain ⟨n8, rfl⟩ := hd8.out
          go_wp2_with fail
          refine (stopcockref09_Same.calls (fs.length + 1) Aa na fs Ac nc fs true (wr.drewN n8) (Kd.R_reads' (Kd.R_drewN RA.out n8)).2.2 (Kd.R_reads' RA.out).2.1 (Kd.R_reads' (Kd.R_drewN RC.out n8)).2.2 (Kd.R_reads' RC.out).2.1 (same_refl fs (Nat.le_trans FL.out (by decide)))).mono ?_
          rintro _ w9 ⟨rfl, hd9⟩
          obtain ⟨n9, hw9⟩ := hd9.out
          rw [World.drewN_drewN] at hw9
          rw [hw9]
          clear hw9
          have QA9 := Aside0.mk (Rdr.step (w1 := wr.drewN (n8 + n9)) QA.out fun _ _ _ => rfl)
          have QB9 := Aside0.mk (Rdr.step (w1 := wr.drewN (n8 + n9)) QB.out fun _ _ _ => rfl)
          have QC9 := Aside0.mk (Rdr.step (w1 := wr.drewN (n8 + n9)) QC.out fun _ _ _ => rfl)
          have HB9 := Aside0.mk (pw_below_drewN HB.out (n8 + n9))
          generalize wr.drewN (n8 + n9) = w9 at *
          have g1 : ((st.at_ == 3) == (st.at_ == 3)) = true := beq_self_eq_true _
          have g2 : (leftI st == leftI st) = true := beq_self_eq_true _
          go_wp2_with fail
          refine (broken_calls Sa w1.heap.size w5.heap.size ga st.at_ st.lacks vta (.slice none 0 0) st.text st.out w9 QA9.out).mono ?_
          rintro _ _ ⟨rfl, rfl⟩
          go_wp2_with fail
          refine (broken_calls S6 w2.heap.size w7.heap.size gb st.at_ st.lacks vtb (.slice none 0 0) st.text st.out w9 QB9.out).mono ?_
          rintro _ _ ⟨rfl, rfl⟩
          go_wp2_with fail
          refine (left_calls Sa w1.heap.size w5.heap.size ga st vta (.slice none 0 0) w9 QA9.out OK.out).mono ?_
          rintro _ _ ⟨rfl, rfl⟩
          go_wp2_with fail
          refine (left_calls S6 w2.heap.size w7.heap.size gb st vtb (.slice none 0 0) w9 QB9.out OK.out).mono ?_
          rintro _ _ ⟨rfl, rfl⟩
          go_wp2_with fail
          refine (left_calls Sa w1.heap.size w5.heap.size ga st vta (.slice none 0 0) w9 QA9.out OK.out).mono ?_
          rintro _ _ ⟨rfl, rfl⟩
          go_wp2_with fail
          refine (left_calls Sc w3.heap.size _ gc st vtc (.slice none 0 0) w9 QC9.out OK.out).mono ?_
          rintro _ _ ⟨rfl, rfl⟩
          go_wp2_with fail
          go_ret
          exact ⟨rfl, HB9.out⟩
set_option maxHeartbeats 8000000 in
set_option maxRecDepth 100000 in
theorem cuts_long (s : ByteArray) (A0 : Option Addr) (c0 n : Nat) (w : World) (hs : 5000 < s.size) :
    Calls Try.prog 5 #[.string s, .slice A0 n c0] w fun e w' => e = .returned (.bool true) ∧ Below w.heap.size w w' := by
  go_enter Try.func5, Try.ntmps5
  go_wp2_with fail
  refine (live_calls w).mono ?_
  rintro _ w1 ⟨rfl, hb1⟩
  have HB1 := Aside0.mk hb1
  clear hb1
  go_wp2_with fail
  go_ret
  exact ⟨rfl, HB1.out⟩
theorem cuts_calls (s : ByteArray) (A0 : Option Addr) (c0 : Nat) (l : List Int) (w : World) (hr0 : Kd.C (Kd.int .i64) w A0 l.length l) (hc0 : l.length ≤ c0) (hll : l.length ≤ 140737488351232) :
    Calls Try.prog 5 #[.string s, .slice A0 l.length c0] w fun e w' => e = .returned (.bool true) ∧ Below w.heap.size w w' := by
  by_cases hs : s.size ≤ 5000
  · exact cuts_walk s A0 c0 l w hr0 hc0 hs hll
  · exact cuts_long s A0 c0 l.length w (by omega)
end Go.Proofs.Ytpnbeifbapcmdaa.St
