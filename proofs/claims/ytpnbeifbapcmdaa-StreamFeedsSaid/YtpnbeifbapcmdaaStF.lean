/- The law StreamBack's function, walked: Feed of Bytes tells the frames. -/
import Derived.Test.YtpnbeifbapcmdaaStE
namespace Go.Proofs.Ytpnbeifbapcmdaa.St
open Go.RowKit Go.Proofs.Ytpnbeifbapcmdaa.PStreamFeeds Go.Proofs.YtpnbeifbapcmdaaW.PrintWords Go.Proofs.YtpnbeifbapcmdaaW.PrintLast Go.Proofs.YtpnbeifbapcmdaaW.PrintMore
set_option linter.unusedVariables false
set_option linter.unusedSimpArgs false
attribute [local go_sem] max2_int min2_int max_two min_two
theorem text_run : ∀ (xs t : List Int) (o : List S64) (n : Nat), xs.length = n + 1 → runS ⟨2, (n : Int) + 1, t, o⟩ xs = ⟨0, 0, t ++ xs, o ++ [⟨81, strOfNums (t ++ xs)⟩]⟩ := by
  intro xs
  induction xs with
  | nil => intro t o n h; simp at h
  | cons c r ih =>
    intro t o n h
    have h1 : r.length = n := by simpa using h
    show runS (stepS ⟨2, (n : Int) + 1, t, o⟩ c) r = _
    cases n with
    | zero =>
      obtain rfl : r = [] := List.length_eq_zero_iff.1 h1
      rfl
    | succ n =>
      have e : stepS ⟨2, ((n + 1 : Nat) : Int) + 1, t, o⟩ c = ⟨2, (n : Int) + 1, t ++ [c], o⟩ := by
        unfold stepS
        simp only []
        rw [if_neg (by decide), if_neg (by decide), if_pos trivial, if_neg (by omega)]
        congr 1
        omega
      rw [e, ih (t ++ [c]) o n h1, List.append_assoc]
      rfl
theorem enc_run (s : RS) (hs : s.at_ = 0) (f : S64) (a : List Int) (h : encF f = some a) : (runS s a).at_ = 0 ∧ (runS s a).out = s.out ++ [f] ∧ (∀ x ∈ a, 0 ≤ x ∧ x < 256) := by
  obtain ⟨c, y⟩ := f
  unfold encF at h
  split at h
  · rename_i hc
    obtain rfl : c = 81 := hc
    split at h
    · rename_i hy
      have hy : y.size ≤ 48 := hy
      injection h with h
      have hby : ∀ x ∈ bytesOf y, 0 ≤ x ∧ x < 256 := by
        intro x hx
        obtain ⟨b, _, rfl⟩ := List.mem_map.1 hx
        have := b.toNat_lt
        omega
      have hs1 : stepS s 81 = ⟨1, s.lacks, s.text, s.out⟩ := by
        unfold stepS
        rw [if_pos hs, if_neg (by decide), if_pos rfl]
      have hb : ∀ x ∈ a, 0 ≤ x ∧ x < 256 := by
        rw [← h]
        intro x hx
        simp only [List.cons_append, List.nil_append, List.mem_cons] at hx
        rcases hx with rfl | rfl | hx
        · omega
        · show (0 : Int) ≤ (y.size : Int) ∧ (y.size : Int) < 256
          omega
        · exact hby x hx
      have e : runS s a = runS (stepS ⟨1, s.lacks, s.text, s.out⟩ (y.size : Int)) (bytesOf y) := by
        rw [← h, ← hs1]
        rfl
      by_cases h0 : y.size = 0
      · have hn : bytesOf y = [] := List.length_eq_zero_iff.1 (by rw [bytesOf_length]; exact h0)
        have hy0 : strOfNums [] = y := by rw [← hn, son_bytes]
        have e2 : stepS ⟨1, s.lacks, s.text, s.out⟩ (y.size : Int) = ⟨0, 0, [], s.out ++ [⟨81, strOfNums []⟩]⟩ := by
          unfold stepS
          simp only []
          rw [if_neg (by decide), if_pos trivial, if_pos (by omega)]
        rw [e, e2, hn, hy0]
        exact ⟨rfl, rfl, hb⟩
      · obtain ⟨n, hn⟩ : ∃ n, y.size = n + 1 := ⟨y.size - 1, by omega⟩
        have e2 : stepS ⟨1, s.lacks, s.text, s.out⟩ (y.size : Int) = ⟨2, (n : Int) + 1, [], s.out⟩ := by
          unfold stepS
          simp only []
          rw [if_neg (by decide), if_pos trivial, if_neg (by omega), if_neg (by omega)]
          congr 1
          omega
        rw [e, e2, text_run (bytesOf y) [] s.out n (by rw [bytesOf_length]; exact hn)]
        refine ⟨rfl, ?_, hb⟩
        show s.out ++ [⟨81, strOfNums (bytesOf y)⟩] = _
        rw [son_bytes]
    · cases h
  · split at h
    · rename_i hc
      have hc : c = 66 ∨ c = 69 := hc
      split at h
      · rename_i hy
        injection h with h
        have hy : y = ⟨#[]⟩ := by
          obtain ⟨d⟩ := y
          have : d.size = 0 := hy
          rw [Array.size_eq_zero_iff.1 this]
        rw [← h, hy]
        have e : stepS s c = { s with out := s.out ++ [⟨c, ⟨#[]⟩⟩] } := by
          unfold stepS
          rw [if_pos hs, if_pos hc]
        show (stepS s c).at_ = 0 ∧ (stepS s c).out = _ ∧ _
        rw [e]
        refine ⟨hs, rfl, fun x hx => ?_⟩
        have : x = c := by simpa using hx
        omega
      · cases h
    · cases h
theorem enc_runs : ∀ (l : List S64) (s : RS) (a0 acc : List Int), s.at_ = 0 → runE a0 l = some acc → ∃ r, acc = a0 ++ r ∧ (runS s r).at_ = 0 ∧ (runS s r).out = s.out ++ l ∧ (∀ x ∈ r, 0 ≤ x ∧ x < 256) ∧ r.length ≤ 50 * l.length := by
  intro l
  induction l with
  | nil =>
    intro s a0 acc hs h
    injection h with h
    exact ⟨[], by simp [h], hs, by simp [runS], by simp, by simp⟩
  | cons f r ih =>
    intro s a0 acc hs h
    unfold runE at h
    cases he : encF f with
    | none => rw [he] at h; cases h
    | some a =>
      rw [he] at h
      obtain ⟨h1, h2, h3⟩ := enc_run s hs f a he
      obtain ⟨q, e, h4, h5, h6, h7⟩ := ih (runS s a) (a0 ++ a) acc h1 h
      have hr : runS s (a ++ q) = runS (runS s a) q := by unfold runS; rw [List.foldl_append]
      refine ⟨a ++ q, by rw [e, List.append_assoc], by rw [hr]; exact h4, by rw [hr, h5, h2, List.append_assoc]; rfl, ?_, ?_⟩
      · intro x hx
        rcases List.mem_append.1 hx with hx | hx
        · exact h3 x hx
        · exact h6 x hx
      · have := encF_len he
        rw [List.length_append, List.length_cons]
        omega
set_option maxHeartbeats 8000000 in
set_option maxRecDepth 100000 in
theorem back_calls (A0 : Option Addr) (c0 : Nat) (l : List S64) (w : World) (hr0 : Kd.C k64 w A0 l.length l) (hc0 : l.length ≤ c0) (hl : l.length ≤ 2000000) :
    Calls Try.prog 8 #[.slice A0 l.length c0] w fun e w' => e = .returned (.bool true) ∧ Below w.heap.size w w' := by
  have HR := Aside0.mk hr0
  have HC := Aside0.mk hc0
  have HL := Aside0.mk hl
  clear hr0 hc0 hl
  go_enter Try.func8, Try.ntmps8
  go_wp2_with fail
  refine (live_calls w).mono ?_
  rintro _ w1 ⟨rfl, hb1⟩
  have HB1 := Aside0.mk hb1
  clear hb1
  go_wp2_with fail
  refine (bytes_calls' A0 c0 l w1 (Kd.C_below HR.out HB1.out) HC.out HL.out).mono ?_
  rintro _ w2 ⟨⟨A2, acc, c2, rfl, ho2, _, h9⟩, hb2⟩
  have HO2 := Aside0.mk ho2
  have HB2 := Aside0.mk (HB1.out.trans (hb2.mono HB1.out.size))
  have HBb := Aside0.mk hb2
  have H9 := Aside0.mk h9
  clear ho2 hb2 h9
  go_wp2_with fail
  refine (new_calls w2).mono ?_
  rintro _ w3 ⟨g, rfl, hg0, hg1, hgr, hb3⟩
  have HG := Aside0.mk hgr
  have HB3 := Aside0.mk (HB2.out.trans (hb3.mono HB2.out.size))
  have HBn := Aside0.mk hb3
  clear hgr hb3
  by_cases hok : ∃ a, runE [] l = some a
  · obtain ⟨a, ha⟩ := hok
    obtain rfl : acc = a := by rw [H9.out, ha]; rfl
    have hz : (ansB (runE [] l)).2 = 0 := by rw [ha]; rfl
    rw [hz]
    by_cases h2 : l.length ≤ 2000
    · have k1 : ¬ ((2000 : Int) < (l.length : Int)) := by omega
      obtain ⟨r, e, h4, h5, h6, h7⟩ := enc_runs l Z0 [] acc rfl ha
      obtain rfl : acc = r := by rw [e]; rfl
      have h5 : (runS Z0 acc).out = l := h5
      have H4 := Aside0.mk h4
      have H5 := Aside0.mk h5
      have H6 := Aside0.mk h6
      have H7 := Aside0.mk h7
      have H2 := Aside0.mk h2
      have HG0 := Aside0.mk hg0
      clear h4 h5 h6 h7 h2 e ha hz hg0
      go_wp2_with fail
      have hr3 : Kd.R (Kd.int .u8) 5 w3 w1.heap.size (fun k => ¬ (k = g)) (.slice A2 acc.length c2) acc :=
        Kd.R_mono (Kd.R_below (Kd.R_bound HO2.out) HBn.out) (fun k hk => by have := HG0.out; omega)
      refine (feed_calls (fun k => k = g) w2.heap.size w2.heap.size g Z0 (.slice none 0 0) A2 c2 acc w3 (HG.out _) rfl (by unfold okS Z0; decide) HBn.out.size (fun W' hk => (Kd.R_reads' (Kd.R_kept hr3 hk (fun k hk => hk))).2.2) (Kd.R_reads' HO2.out).2.1 H6.out (by have := H7.out; have := H2.out; omega)).mono ?_
      rintro _ w4 ⟨v, vt, S4, rfl, hs4, hz4, hrd, hro, hk4, hb4⟩
      rw [H5.out] at hro
      obtain ⟨Af, cf, rfl⟩ := Kd.R_slice hro
      have HRD := Aside0.mk hrd
      have HRO := Aside0.mk hro
      have HB4 := Aside0.mk (HB3.out.trans (hb4.mono HB2.out.size))
      have HR4 := Aside0.mk (Kd.C_below HR.out HB4.out)
      have hok4 : okS (runS Z0 acc) := run_okS (by unfold okS Z0; decide) acc H6.out
      obtain ⟨st, hst⟩ : ∃ st, st = runS Z0 acc := ⟨_, rfl⟩
      rw [← hst] at hok4 HRD H4
      have OK := Aside0.mk hok4
      clear hrd hro hr3 hok4 hst hs4 hz4 hk4 hb4
      go_wp2_with fail
      refine (stopcockref09_Same.calls (l.length + 1) Af cf l A0 c0 l true w4 (Kd.R_reads' HRO.out).2.2 (Kd.R_reads' HRO.out).2.1 HR4.out HC.out (same_refl l (by have := H2.out; omega))).mono ?_
      rintro _ w5 ⟨rfl, hd5⟩
      obtain ⟨n5, rfl⟩ := hd5.out
      have HB5 := Aside0.mk (pw_below_drewN HB4.out n5)
      have hrd5 : Rdr S4 w2.heap.size w3.heap.size (w4.drewN n5) g st.at_ st.lacks vt (.slice none 0 0) st.text [] := Rdr.step (w1 := w4.drewN n5) HRD.out fun _ _ _ => rfl
      rw [H4.out] at hrd5
      have HRD5 := Aside0.mk hrd5
      generalize w4.drewN n5 = w5 at *
      clear hrd5
      go_wp2_with fail
      refine (broken_calls S4 w2.heap.size w3.heap.size g 0 st.lacks vt (.slice none 0 0) st.text [] w5 HRD5.out).mono ?_
      rintro _ _ ⟨rfl, rfl⟩
      go_wp2_with fail
      refine (left_calls S4 w2.heap.size w3.heap.size g ⟨0, st.lacks, st.text, []⟩ vt (.slice none 0 0) w5 HRD5.out ⟨.inl rfl, fun h => by cases h⟩).mono ?_
      rintro _ _ ⟨rfl, rfl⟩
      rw [show leftI ⟨0, st.lacks, st.text, []⟩ = 0 from rfl]
      go_wp2_with fail
      go_ret
      exact ⟨rfl, HB5.out⟩
    · have k1 : ((2000 : Int) < (l.length : Int)) := by omega
      clear hz ha
      go_wp2_with fail
      go_ret
      exact ⟨rfl, HB3.out⟩
  · have hn : runE [] l = none := by
      cases h : runE [] l with
      | none => rfl
      | some a => exact absurd ⟨a, h⟩ hok
    have hz : (ansB (runE [] l)).2 = 90 := by rw [hn]; rfl
    rw [hz]
    clear hz hn hok
    go_wp2_with fail
    go_ret
    exact ⟨rfl, HB3.out⟩
end Go.Proofs.Ytpnbeifbapcmdaa.St
