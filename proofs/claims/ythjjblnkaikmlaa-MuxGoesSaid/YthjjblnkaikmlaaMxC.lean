/- A session's Next, Got, Turn, Answer, Lost, Open, Replies, New walked. -/
import Derived.Test.YthjjblnkaikmlaaMxB
import Derived.Deep.RegionWith
import Derived.Handy
import Derived.Lib.SliceRun
import Derived.StillTailTactics
namespace Go.Proofs.Ythjjblnkaikmlaa.Mx
open Go.RowKit Go.Proofs.Ythjjblnkaikmlaa.St Go.Proofs.Ythjjblnkaikmlaa.PMuxOnce Go.Proofs.YthjjblnkaikmlaaW.PrintWords Go.Proofs.YthjjblnkaikmlaaW.PrintLast Go.Proofs.YthjjblnkaikmlaaW.PrintMore
set_option linter.unusedVariables false
set_option linter.unusedSimpArgs false
attribute [local go_sem] max2_int min2_int max_two min_two
theorem Goes.tail {S : Nat → Prop} {b g : Nat} {w w1 w2 : World} {M : MSt} (h : Goes S b w g w1 M) (hb : Below w1.heap.size w1 w2) : Goes S b w g w2 M := by
  obtain ⟨S1, h1, h2, h3, h4⟩ := h
  exact ⟨S1, h1, h2.step hb, h3.below hb, h4.trans (hb.mono h2.2.1)⟩
theorem MR.del {S Sr : Nat → Prop} {b g gr q m na : Nat} {w1 w2 : World} {vt vb : Value} {M : MSt} {n : Nat} {r : List S44} {cur' : Array Value} (h : MR S Sr b w1 g gr vt (.slice (some ⟨q, 0, none⟩) n na) vb M) (hS : S q ∧ ¬ Sr q) (hfar : ∀ k, k ≠ q → w2.heap[k]? = w1.heap[k]?) (hq2 : w2.heap[q]? = some (.cells cur' 44 (0, 0))) (hsz : cur'.size = na * 2) (hfl : cur'.toList.take (m * 2) = flat r) (hbq : b ≤ q) (hm : m ≤ na) (hna : na ≤ maxLen) (hr : r.length = m) :
    MR S Sr b (w2.setCell ⟨g, 1, none⟩ (.slice (some ⟨q, 0, none⟩) m na)) g gr vt (.slice (some ⟨q, 0, none⟩) m na) vb { M with ahead := r } := by
  have hgq : g ≠ q := fun e => by
    have := h.row.1
    have h1 := h.blk
    have h2 := Kd.R_ne h.row h.blk (by decide)
    exact h2 (by rw [e]; rfl)
  have hb : w2.heap[g]? = some (.cells (cellsM gr (.slice (some ⟨q, 0, none⟩) n na) vb M) 71 (0, 0)) := (hfar g hgq).trans h.blk
  have hrow : Kd.R k44 44 w2 b (fun k => S k ∧ ¬ Sr k) (.slice (some ⟨q, 0, none⟩) m na) r := row_iff.2 ⟨fun k hk => by
    have hk : q = k := by simpa [Value.ownBlock] using hk
    exact hk ▸ hS, by rw [hr]; exact ⟨flat_len r ▸ (by rw [hr]), .inr ⟨q, na, cur', rfl, hbq, hq2, hm, hna, hsz, by simpa using hfl⟩⟩⟩
  have ht : Kd.R k42 42 w2 b (fun k => S k ∧ ¬ Sr k) vb M.told := Kd.R_mono (Kd.R_step (R_apart h.2.2.2.2.2.2.2.1 h.row (by decide)) fun k hk hl => hfar k (fun e => hk.2 (by rw [e]; rfl))) (fun k hk => hk.1)
  have hrd : Rdr (fun k => Sr k ∧ k ≠ g) b b w2 gr M.s.at_ M.s.lacks vt (.slice none 0 0) M.s.text M.s.out := Rdr.mono (Rdr.step h.2.2.2.2.2.1 fun k hk hl => hfar k (fun e => hS.2 (e ▸ hk))) fun k hk => ⟨hk, fun e => h.2.2.1 (e ▸ hk)⟩
  exact ⟨h.1, h.2.1, h.2.2.1, h.2.2.2.1, by simpa [cellsM] using blk_set hb 1 (.slice (some ⟨q, 0, none⟩) m na), Rdr.mono (Rdr.step (w1 := w2.setCell ⟨g, 1, none⟩ (.slice (some ⟨q, 0, none⟩) m na)) hrd fun k hk hl => Go.Deep.blk_setCell_other w2 ⟨g, 1, none⟩ _ k hk.2) (fun k hk => hk.1), Kd.R_set hrow hb (by decide) _ _, Kd.R_set ht hb (by decide) _ _, h.2.2.2.2.2.2.2.2⟩
theorem delete0_calls (q c : Nat) (f : S44) (r : List S44) (w : World) (cur : Array Value) (hq : w.heap[q]? = some (.cells cur 44 (0, 0))) (hn : r.length + 1 ≤ c) (hm : c ≤ maxLen) (hcs : cur.size = c * 2) (hfl : cur.toList.take ((r.length + 1) * 2) = flat (f :: r)) :
    Calls Try.prog 33 #[.slice (some ⟨q, 0, none⟩) (r.length + 1) c, .int .i64 0, .int .i64 1] w fun e w' => e = .returned (.slice (some ⟨q, 0, none⟩) r.length c) ∧ (∃ cur', w'.heap[q]? = some (.cells cur' 44 (0, 0)) ∧ cur'.size = c * 2 ∧ cur'.toList.take (r.length * 2) = flat r) ∧ (∀ k, k ≠ q → w'.heap[k]? = w.heap[k]?) ∧ w'.heap.size = w.heap.size ∧ w'.os = w.os ∧ w'.tape = w.tape ∧ w'.output = w.output :=
  delete_calls q c 0 r.length (f :: r) w cur hq hn hm hcs hfl (by simp) rfl
/-- A frame is taken: what is done next, and the session then. -/
def takeM (M : MSt) (f : S44) : Int × MSt :=
  if f.f0 = 66 then (if M.st = 66 then (1, waitM M false ⟨#[]⟩) else if M.st = 76 then (0, tellM M 7) else (0, setSt (tellM M 6) 66))
  else if f.f0 = 81 then (if M.st = 66 then (1, waitM M true f.f1) else if M.st = 76 then (2, sentM M f.f1) else (0, setSt (tellM M 6) 66))
  else if f.f0 = 69 then (if M.st = 66 then (0, tellM M 7) else if M.st = 76 then (3, setSt (tellM M 3) 66) else (0, setSt (tellM M 6) 66))
  else (if M.st = 76 then 3 else 0, hangM (tellM M 8))
def goL : MSt → List S44 → (Int × ByteArray) × MSt
  | M, [] => ((0, ⟨#[]⟩), M)
  | M, f :: r => if M.wd = 0 then (if (takeM { M with ahead := r } f).1 = 0 then goL (takeM { M with ahead := r } f).2 r else if (takeM { M with ahead := r } f).1 = 2 then ((2, f.f1), (takeM { M with ahead := r } f).2) else (((takeM { M with ahead := r } f).1, ⟨#[]⟩), (takeM { M with ahead := r } f).2)) else ((0, ⟨#[]⟩), M)
def nextM (M : MSt) : (Int × ByteArray) × MSt :=
  if M.wd = 2 then ((2, M.text), { M with wd := 3 }) else if M.wd = 4 then ((3, ⟨#[]⟩), { M with wd := 0, st := 66 }) else goL M M.ahead
def okT (M : MSt) : Prop := M.st = 66 ∨ M.st = 76 ∨ M.st = 81
theorem take_ok {M : MSt} (h : okT M) (f : S44) : okT (takeM M f).2 := by
  unfold takeM okT at *
  repeat' split
  all_goals simp_all [waitM, tellM, setSt, sentM, hangM]
theorem take_told (M : MSt) (f : S44) : (takeM M f).2.told.length ≤ M.told.length + 1 := by
  unfold takeM
  repeat' split
  all_goals simp [waitM, tellM, setSt, sentM, hangM]
theorem take_zero (M : MSt) (f : S44) (h0 : (takeM M f).1 = 0) (hw : (takeM M f).2.wd = 0) : (takeM M f).2.ahead = M.ahead := by
  unfold takeM at *
  repeat' split at *
  all_goals simp_all [waitM, tellM, setSt, sentM, hangM]
theorem take_do (M : MSt) (f : S44) : (takeM M f).1 = 0 ∨ (takeM M f).1 = 1 ∨ (takeM M f).1 = 2 ∨ (takeM M f).1 = 3 := by
  unfold takeM
  repeat' split
  all_goals simp
theorem method_begin (M : MSt) (hst : okT M) (f : S44) (hf : f.f0 = 66) : ∃ fb : Nat, (∀ w, (method 208 M.st (.agg #[]) "stopcock/mux.begin").run Try.prog w = .ok (fb, .agg #[]) w) ∧ (∀ (args : Array Value) w, (callFunc fb args).run Try.prog w = .ok (.enter fb args) w) ∧ ∀ (S : Nat → Prop) (b g : Nat) (w : World), MX S b w g M → M.told.length ≤ 1000000000 →
    Calls Try.prog fb #[.agg #[], .pointer (some ⟨g, 0, none⟩)] w fun e w' => e = .returned (.int .i64 (takeM M f).1) ∧ Goes S b w g w' (takeM M f).2 := by
  rcases hst with h | h | h
  · refine ⟨64, fun w => by rw [h]; kernel_rfl, fun args w => by kernel_rfl, fun S b g w hm hl => ?_⟩
    have e : takeM M f = (1, waitM M false ⟨#[]⟩) := by simp only [takeM, hf, h]; simp
    rw [e]
    exact free_begin_calls S b g M w hm hl
  · refine ⟨70, fun w => by rw [h]; kernel_rfl, fun args w => by kernel_rfl, fun S b g w hm hl => ?_⟩
    have e : takeM M f = (0, tellM M 7) := by simp only [takeM, hf, h]; simp
    rw [e]
    exact bound_begin_calls S b g M w hm hl
  · refine ⟨74, fun w => by rw [h]; kernel_rfl, fun args w => by kernel_rfl, fun S b g w hm hl => ?_⟩
    have e : takeM M f = (0, setSt (tellM M 6) 66) := by simp only [takeM, hf, h]; simp
    rw [e]
    exact dead_begin_calls S b g M w hm hl
theorem method_query (M : MSt) (hst : okT M) (f : S44) (hf : f.f0 = 81) : ∃ fb : Nat, (∀ w, (method 208 M.st (.agg #[]) "stopcock/mux.query").run Try.prog w = .ok (fb, .agg #[]) w) ∧ (∀ (args : Array Value) w, (callFunc fb args).run Try.prog w = .ok (.enter fb args) w) ∧ ∀ (S : Nat → Prop) (b g : Nat) (w : World), MX S b w g M → M.told.length ≤ 1000000000 →
    Calls Try.prog fb #[.agg #[], .pointer (some ⟨g, 0, none⟩), .string f.f1] w fun e w' => e = .returned (.int .i64 (takeM M f).1) ∧ Goes S b w g w' (takeM M f).2 := by
  rcases hst with h | h | h
  · refine ⟨66, fun w => by rw [h]; kernel_rfl, fun args w => by kernel_rfl, fun S b g w hm hl => ?_⟩
    have e : takeM M f = (1, waitM M true f.f1) := by simp only [takeM, hf, h]; simp
    rw [e]
    exact free_query_calls S b g M f.f1 w hm hl
  · refine ⟨72, fun w => by rw [h]; kernel_rfl, fun args w => by kernel_rfl, fun S b g w hm hl => ?_⟩
    have e : takeM M f = (2, sentM M f.f1) := by simp only [takeM, hf, h]; simp
    rw [e]
    exact bound_query_calls S b g M f.f1 w hm hl
  · refine ⟨76, fun w => by rw [h]; kernel_rfl, fun args w => by kernel_rfl, fun S b g w hm hl => ?_⟩
    have e : takeM M f = (0, setSt (tellM M 6) 66) := by simp only [takeM, hf, h]; simp
    rw [e]
    exact dead_query_calls S b g M f.f1 w hm hl
theorem method_end (M : MSt) (hst : okT M) (f : S44) (hf : f.f0 = 69) : ∃ fb : Nat, (∀ w, (method 208 M.st (.agg #[]) "stopcock/mux.end").run Try.prog w = .ok (fb, .agg #[]) w) ∧ (∀ (args : Array Value) w, (callFunc fb args).run Try.prog w = .ok (.enter fb args) w) ∧ ∀ (S : Nat → Prop) (b g : Nat) (w : World), MX S b w g M → M.told.length ≤ 1000000000 →
    Calls Try.prog fb #[.agg #[], .pointer (some ⟨g, 0, none⟩)] w fun e w' => e = .returned (.int .i64 (takeM M f).1) ∧ Goes S b w g w' (takeM M f).2 := by
  rcases hst with h | h | h
  · refine ⟨65, fun w => by rw [h]; kernel_rfl, fun args w => by kernel_rfl, fun S b g w hm hl => ?_⟩
    have e : takeM M f = (0, tellM M 7) := by simp only [takeM, hf, h]; simp
    rw [e]
    exact free_end_calls S b g M w hm hl
  · refine ⟨71, fun w => by rw [h]; kernel_rfl, fun args w => by kernel_rfl, fun S b g w hm hl => ?_⟩
    have e : takeM M f = (3, setSt (tellM M 3) 66) := by simp only [takeM, hf, h]; simp
    rw [e]
    exact bound_end_calls S b g M w hm hl
  · refine ⟨75, fun w => by rw [h]; kernel_rfl, fun args w => by kernel_rfl, fun S b g w hm hl => ?_⟩
    have e : takeM M f = (0, setSt (tellM M 6) 66) := by simp only [takeM, hf, h]; simp
    rw [e]
    exact dead_end_calls S b g M w hm hl
theorem method_bad (M : MSt) (hst : okT M) (f : S44) (h1 : f.f0 ≠ 66) (h2 : f.f0 ≠ 81) (h3 : f.f0 ≠ 69) : ∃ fb : Nat, (∀ w, (method 208 M.st (.agg #[]) "stopcock/mux.bad").run Try.prog w = .ok (fb, .agg #[]) w) ∧ (∀ (args : Array Value) w, (callFunc fb args).run Try.prog w = .ok (.enter fb args) w) ∧ ∀ (S : Nat → Prop) (b g : Nat) (w : World), MX S b w g M → M.told.length ≤ 1000000000 →
    Calls Try.prog fb #[.agg #[], .pointer (some ⟨g, 0, none⟩)] w fun e w' => e = .returned (.int .i64 (takeM M f).1) ∧ Goes S b w g w' (takeM M f).2 := by
  rcases hst with h | h | h
  · refine ⟨63, fun w => by rw [h]; kernel_rfl, fun args w => by kernel_rfl, fun S b g w hm hl => ?_⟩
    have e : takeM M f = (0, hangM (tellM M 8)) := by simp only [takeM, h1, h2, h3, h]; simp
    rw [e]
    exact free_bad_calls S b g M w hm hl
  · refine ⟨69, fun w => by rw [h]; kernel_rfl, fun args w => by kernel_rfl, fun S b g w hm hl => ?_⟩
    have e : takeM M f = (3, hangM (tellM M 8)) := by simp only [takeM, h1, h2, h3, h]; simp
    rw [e]
    exact bound_bad_calls S b g M w hm hl
  · refine ⟨73, fun w => by rw [h]; kernel_rfl, fun args w => by kernel_rfl, fun S b g w hm hl => ?_⟩
    have e : takeM M f = (0, hangM (tellM M 8)) := by simp only [takeM, h1, h2, h3, h]; simp
    rw [e]
    exact dead_bad_calls S b g M w hm hl
set_option maxHeartbeats 4000000 in
set_option maxRecDepth 100000 in
theorem next_calls' (S : Nat → Prop) (b g : Nat) (M : MSt) (w : World) (h : MX S b w g M) (hst : okT M) (hl : M.told.length + M.ahead.length ≤ 1000000) :
    Calls Try.prog 10 #[.pointer (some ⟨g, 0, none⟩)] w fun e w' => e = .returned (.tuple #[.int .i64 (nextM M).1.1, .string (nextM M).1.2]) ∧ Goes S b w g w' (nextM M).2 := by
  by_cases h2 : M.wd = 2
  · have e : nextM M = ((2, M.text), { M with wd := 3 }) := by unfold nextM; rw [if_pos h2]
    rw [e]
    have E2 : (M.wd == 2) = true := by rw [h2]; rfl
    obtain ⟨h1, h3, Sr, gr, vt, va, vb, hm⟩ := h
    obtain ⟨c0, c1, c2, c3, c4, c5, c6, c7⟩ := hm.cells
    have f4 := hm.frozen 4
    have HM := Aside0.mk hm
    have HW := Aside0.mk h3
    have hm1 := hm.fld 4 (.int .i64 3) { M with wd := 3 } rfl rfl rfl rfl
    obtain ⟨k0, k1, k2, k3, k4, k5, k6, k7⟩ := hm1.cells
    have HM1 := Aside0.mk hm1
    clear hm h1 h3 hst hl hm1 h2
    go_enter Try.func10, Try.ntmps10
    go_wp2_with fail
    repeat (go_quiet (fail))
    revert nq
    intro nq
    go_wp2_with fail
    go_returns
    exact ⟨rfl, Goes.of (HM1.out.step (w1 := (w.setCell ⟨g, 4, none⟩ (.int .i64 3)).drewN nq) (fun _ _ _ => rfl)).up HW.out (((Kept.refl w S).setCell (.inl HM.out.1) _).below (pw_below_drewN (Below.refl _ _) nq)) ((Below.setCell (Below.refl b w) HM.out.2.1 _).trans (pw_below_drewN (Below.refl _ _) nq))⟩
  have N2 : (M.wd == 2) = false := beq_eq_false_iff_ne.2 h2
  by_cases h4 : M.wd = 4
  · have e : nextM M = ((3, ⟨#[]⟩), { M with wd := 0, st := 66 }) := by unfold nextM; rw [if_neg h2, if_pos h4]
    rw [e]
    have E4 : (M.wd == 4) = true := by rw [h4]; rfl
    obtain ⟨h1, h3, Sr, gr, vt, va, vb, hm⟩ := h
    obtain ⟨c0, c1, c2, c3, c4, c5, c6, c7⟩ := hm.cells
    have f4 := hm.frozen 4
    have f3 := hm.frozen 3
    have HM := Aside0.mk hm
    have HW := Aside0.mk h3
    clear hm h1 h3 hst hl h2 h4
    go_enter Try.func10, Try.ntmps10
    go_wp2_with fail
    go_returns
    exact ⟨rfl, Goes.of ((HM.out.fld 4 (.int .i64 0) { M with wd := 0 } rfl rfl rfl rfl).fld 3 (.iface 66 (.agg #[])) { M with wd := 0, st := 66 } rfl rfl rfl rfl).up HW.out (((Kept.refl w S).setCell (.inl HM.out.1) _).setCell (.inl HM.out.1) _) (Below.setCell (Below.setCell (Below.refl b w) HM.out.2.1 _) HM.out.2.1 _)⟩
  have N4 : (M.wd == 4) = false := beq_eq_false_iff_ne.2 h4
  have e : nextM M = goL M M.ahead := by unfold nextM; rw [if_neg h2, if_neg h4]
  have E := Aside0.mk e
  have HST := Aside0.mk hst
  have HL := Aside0.mk hl
  have H := Aside0.mk h
  obtain ⟨h1, h3, Sr, gr, vt, va, vb, hm⟩ := h
  obtain ⟨c0, c1, c2, c3, c4, c5, c6, c7⟩ := hm.cells
  clear e hst hl h1 h3 hm h2 h4
  go_enter Try.func10, Try.ntmps10
  go_wp2_with fail
  clear c0 c1 c2 c3 c4 c5 c6 c7
  go_loopg [] M.ahead.length (fun kq w' => ∃ (Mi : MSt) (li : List S44), kq = li.length ∧ Aside0 (goL Mi li = goL M M.ahead) ∧ Aside0 (Mi.wd = 0 → Mi.ahead = li) ∧ Aside0 (okT Mi) ∧ Aside0 (Mi.told.length + li.length ≤ 1000000) ∧ Aside0 (Goes S b w g w' Mi))
  case atStart => exact ⟨M, M.ahead, rfl, ⟨rfl⟩, ⟨fun _ => rfl⟩, HST, HL, ⟨Goes.refl H.out⟩⟩
  case round =>
    obtain ⟨Mi, li, rfl, HG, HA, HT, HN, HGo⟩ := hrel
    obtain ⟨S1, i1, i2, i3, i4⟩ := HGo.out
    have HMX := Aside0.mk i2
    have HI1 := Aside0.mk i1
    have HK1 := Aside0.mk i3
    have HB1 := Aside0.mk i4
    obtain ⟨h1, h3, Sr, gr, vt, va, vb, hm⟩ := i2
    obtain ⟨Aa, na, rfl⟩ := Kd.R_slice hm.row
    obtain ⟨c0, c1, c2, c3, c4, c5, c6, c7⟩ := hm.cells
    have HM := Aside0.mk hm
    have HS1 := Aside0.mk h1
    have HW1 := Aside0.mk h3
    clear i1 i3 i4 HGo hm h1 h3
    by_cases hw : Mi.wd = 0
    · have W0 : (Mi.wd == 0) = true := by rw [hw]; rfl
      have hal := HA.out hw
      rcases li with _ | ⟨f, r⟩
      · rw [hal] at c1
        have HW0 := Aside0.mk hw
        clear hal hw
        go_wp2_with fail
        go_returns
        have e : goL M M.ahead = ((0, ⟨#[]⟩), Mi) := by rw [← HG.out]; rfl
        rw [E.out, e]
        exact ⟨rfl, ⟨S1, HI1.out, HMX.out, HK1.out, HB1.out⟩⟩
      · have hrow := HM.out.row
        rw [hal] at hrow c1
        have HW0 := Aside0.mk hw
        obtain ⟨q, cur, e1, hq, hcs, hcap, hfl, hqS, hqb, hcm⟩ : ∃ q cur, Aa = some ⟨q, 0, none⟩ ∧ wr.heap[q]? = some (.cells cur 44 (0, 0)) ∧ cur.size = na * 2 ∧ r.length + 1 ≤ na ∧ cur.toList.take ((r.length + 1) * 2) = flat (f :: r) ∧ (S1 q ∧ ¬ Sr q) ∧ b ≤ q ∧ na ≤ maxLen := by
          obtain ⟨h1, hl', ho⟩ := row_iff.1 hrow
          rcases ho with ⟨_, h2⟩ | ⟨g', cap, cur, a1, a2, a3, a4, a5, a6, a7⟩
          · simp at h2
          · injection a1 with b1 b2 b3
            subst b3
            exact ⟨g', cur, b1, a3, a6, a4, a7, h1 g' (by rw [b1]; rfl), a2, a5⟩
        subst e1
        have x0 : wr.cell? ⟨q, 0, none⟩ = some (.int .u8 f.f0) := by
          rw [cell_of_row wr q 0 cur 44 (0, 0) hq]
          have : (cur.toList.take ((r.length + 1) * 2))[0]? = some (.int .u8 f.f0) := by rw [hfl]; rfl
          rw [List.getElem?_take] at this
          split at this
          · simpa using this
          · cases this
        have x1 : wr.cell? ⟨q, 1, none⟩ = some (.string f.f1) := by
          rw [cell_of_row wr q 1 cur 44 (0, 0) hq]
          have : (cur.toList.take ((r.length + 1) * 2))[1]? = some (.string f.f1) := by rw [hfl]; rfl
          rw [List.getElem?_take] at this
          split at this
          · simpa using this
          · cases this
        have hgq : g ≠ q := blk_ne HM.out.blk hq (by decide)
        have HQ := Aside0.mk (And.intro hq (And.intro hcs (And.intro hcap (And.intro hfl (And.intro hqS (And.intro hqb hcm))))))
        have HGQ := Aside0.mk hgq
        have HAL := Aside0.mk hal
        have hr0 : (0 : Int) < (r.length : Int) + 1 := by omega
        have h1m := HM.out.step (w1 := wr.alloc (.cells #[.int .u8 f.f0, .string f.f1] 44)) (fun k hk hl => Below.heap_alloc _ _ _ hl)
        have h1q : (wr.alloc (.cells #[.int .u8 f.f0, .string f.f1] 44)).heap[q]? = some (.cells cur 44 (0, 0)) := (Below.heap_alloc _ _ _ (blk_lt hq)).trans hq
        have h1f : (wr.alloc (.cells #[.int .u8 f.f0, .string f.f1] 44)).heap[wr.heap.size]? = some (.cells #[.int .u8 f.f0, .string f.f1] 44 (0, 0)) := heap_alloc_new wr _
        have h1b : Below wr.heap.size wr (wr.alloc (.cells #[.int .u8 f.f0, .string f.f1] 44)) := below_alloc (Below.refl _ _) _
        have h1z : wr.heap.size + 1 = (wr.alloc (.cells #[.int .u8 f.f0, .string f.f1] 44)).heap.size := by simp
        obtain ⟨w1, hw1⟩ : ∃ w1, wr.alloc (.cells #[.int .u8 f.f0, .string f.f1] 44) = w1 := ⟨_, rfl⟩
        rw [hw1] at h1m h1q h1f h1b h1z
        have H1M := Aside0.mk h1m
        have H1Q := Aside0.mk h1q
        have H1F := Aside0.mk h1f
        have H1B := Aside0.mk h1b
        have H1Z := Aside0.mk h1z
        have j1 := h1m.cells.2.1
        rw [hal] at j1
        obtain ⟨z, hz⟩ : ∃ z, z = wr.heap.size := ⟨_, rfl⟩
        have HZ := Aside0.mk hz
        have hz' := hz.symm
        clear hal hrow hq hcs hcap hfl hqS hqb hcm hgq h1m h1q h1f h1b h1z hz
        simp only [List.length_cons] at c1 j1
        go_wp2_with fail
        refine (delete0_calls q na f r w1 cur H1Q.out HQ.out.2.2.1 HQ.out.2.2.2.2.2.2 HQ.out.2.1 HQ.out.2.2.2.1).mono ?_
        rintro e w2 ⟨rfl, ⟨cur', hq2, hs2, hl2⟩, hfar, hsz, ho2, ht2, hp2⟩
        have hmd := MR.del (by have := H1M.out; exact this) HQ.out.2.2.2.2.1 hfar hq2 hs2 hl2 HQ.out.2.2.2.2.2.1 (by have := HQ.out.2.2.1; omega) HQ.out.2.2.2.2.2.2 rfl
        have hbg2 := (hfar g HGQ.out).trans H1M.out.blk
        have j2 : w2.cell? ⟨g, 1, none⟩ = some (.slice (some ⟨q, 0, none⟩) (r.length + 1) na) := by
          have := (blk_cell hbg2 1).trans rfl
          rw [this]
          show some (Value.slice (some ⟨q, 0, none⟩) Mi.ahead.length na) = _
          rw [HAL.out]; rfl
        have jf2 : w2.frozen? ⟨g, 1, none⟩ = false := blk_frozen hbg2 1
        have hzq : z ≠ q := fun e => by have := blk_lt HQ.out.1; have := HZ.out; omega
        have hzg : z ≠ g := fun e => by have := blk_lt HM.out.blk; have := HZ.out; omega
        have hf2 : w2.heap[z]? = some (.cells #[.int .u8 f.f0, .string f.f1] 44 (0, 0)) := (hfar z hzq).trans (by rw [HZ.out]; exact H1F.out)
        have hf3 : (w2.setCell ⟨g, 1, none⟩ (.slice (some ⟨q, 0, none⟩) r.length na)).heap[z]? = some (.cells #[.int .u8 f.f0, .string f.f1] 44 (0, 0)) := (Go.Deep.blk_setCell_other w2 ⟨g, 1, none⟩ _ z hzg).trans hf2
        have hk3 : Kept wr (w2.setCell ⟨g, 1, none⟩ (.slice (some ⟨q, 0, none⟩) r.length na)) S1 := (Kept.of_below H1B.out S1).then_ (Kept.setCell (⟨by rw [hsz]; exact Nat.le_refl _, fun i hi hn => hfar i (fun e => hn (e ▸ HQ.out.2.2.2.2.1.1))⟩ : Kept w1 w2 S1) (.inl HM.out.1) _) (fun _ h => .inl h)
        have hb3 : Below b wr (w2.setCell ⟨g, 1, none⟩ (.slice (some ⟨q, 0, none⟩) r.length na)) := Below.setCell ((H1B.out.mono HW1.out).trans ⟨ho2, ht2, hp2, by rw [hsz]; exact Nat.le_refl _, fun k hk => hfar k (fun e => by have := HQ.out.2.2.2.2.2.1; omega)⟩) HM.out.2.1 _
        have hz3 : (w2.setCell ⟨g, 1, none⟩ (.slice (some ⟨q, 0, none⟩) r.length na)).heap.size = z + 1 := by rw [HZ.out, H1Z.out, ← hsz]; simp [World.setCell]
        obtain ⟨w3, hw3⟩ : ∃ w3, w2.setCell ⟨g, 1, none⟩ (.slice (some ⟨q, 0, none⟩) r.length na) = w3 := ⟨_, rfl⟩
        rw [hw3] at hmd hf3 hk3 hb3 hz3
        obtain ⟨k0, k1, k2, k3, k4, k5, k6, k7⟩ := hmd.cells
        have y0 : w3.cell? ⟨z, 0, none⟩ = some (.int .u8 f.f0) := (blk_cell hf3 0).trans rfl
        have y1 : w3.cell? ⟨z, 1, none⟩ = some (.string f.f1) := (blk_cell hf3 1).trans rfl
        have HMD := Aside0.mk hmd
        have HF3 := Aside0.mk hf3
        have HK3 := Aside0.mk hk3
        have HB3 := Aside0.mk hb3
        have HZ3 := Aside0.mk hz3
        have HX3 : Aside0 (MX S1 b w3 g { Mi with ahead := r }) := ⟨fun k hk => by have := HS1.out k hk; have := HZ.out; have := HZ3.out; omega, by have := HW1.out; have := HZ.out; have := HZ3.out; omega, Sr, gr, vt, _, vb, HMD.out⟩
        clear hmd hf3 hk3 hb3 hz3 hf2 hzq hzg hbg2 hq2 hs2 hl2 hfar hsz ho2 ht2 hp2
        by_cases h66 : f.f0 = 66
        · have B66 : (f.f0 == 66) = true := by rw [h66]; rfl
          obtain ⟨fb, hmt, hcf, hcl⟩ := method_begin { Mi with ahead := r } HT.out f h66
          have HCL := Aside0.mk hcl
          obtain ⟨p, hp⟩ : ∃ p, p = takeM { Mi with ahead := r } f := ⟨_, rfl⟩
          rw [← hp] at hcl
          have HP := Aside0.mk hp
          have HCL := Aside0.mk hcl
          clear hcl hp
          have HF0 := Aside0.mk h66
          clear h66
          go_wp2_with fail
          refine (HCL.out S1 b g w3 HX3.out (by have := HN.out; show Mi.told.length ≤ _; simp only [List.length_cons] at this; omega)).mono ?_
          rintro e w4 ⟨rfl, S2, s1, s2, s3, s4⟩
          have y4 : w4.cell? ⟨z, 1, none⟩ = some (.string f.f1) := cell_kept y1 s3 (fun h => by have := HS1.out z h; have := HZ.out; omega)
          have HGo4 : Aside0 (Goes S b w g w4 p.2) := ⟨Goes.then_ HI1.out HK1.out HB1.out (Goes.then_ (fun _ h => .inl h) HK3.out HB3.out ⟨S2, s1, s2, s3, s4⟩)⟩
          clear s1 s2 s3 s4
          obtain ⟨d, M4⟩ := p
          have hdo := take_do { Mi with ahead := r } f
          rw [← HP.out] at hdo
          have hdo : d = 0 ∨ d = 1 ∨ d = 2 ∨ d = 3 := hdo
          have HEQ : Aside0 (goL M M.ahead = if d = 0 then goL M4 r else if d = 2 then ((2, f.f1), M4) else ((d, ⟨#[]⟩), M4)) := ⟨by rw [← HG.out]; show (if Mi.wd = 0 then _ else _) = _; rw [if_pos HW0.out, ← HP.out]⟩
          rcases hdo with rfl | rfl | rfl | rfl
          · go_wp2_with fail
            go_roundg r.length
            case measure => first | omega | (simp only [List.length_cons]; omega)
            case rel => exact ⟨M4, r, rfl, ⟨by simpa using HEQ.out.symm⟩, ⟨fun h => by have := take_zero { Mi with ahead := r } f (by rw [← HP.out]) (by rw [← HP.out]; exact h); rw [← HP.out] at this; exact this⟩, ⟨by have := take_ok (M := { Mi with ahead := r }) HT.out f; rw [← HP.out] at this; exact this⟩, ⟨by have := take_told { Mi with ahead := r } f; rw [← HP.out] at this; have h2 := HN.out; simp only [List.length_cons] at h2; simp only at this; omega⟩, HGo4⟩
          · go_wp2_with fail
            go_returns
            rw [E.out, show goL M M.ahead = ((1, ⟨#[]⟩), M4) from by simpa using HEQ.out]
            exact ⟨rfl, HGo4.out⟩
          · go_wp2_with fail
            repeat (go_quiet (fail))
            revert nq
            intro nq
            go_wp2_with fail
            go_returns
            rw [E.out, show goL M M.ahead = ((2, f.f1), M4) from by simpa using HEQ.out]
            exact ⟨rfl, HGo4.out.tail (pw_below_drewN (Below.refl _ _) nq)⟩
          · go_wp2_with fail
            go_returns
            rw [E.out, show goL M M.ahead = ((3, ⟨#[]⟩), M4) from by simpa using HEQ.out]
            exact ⟨rfl, HGo4.out⟩
        have N66 : (f.f0 == 66) = false := beq_eq_false_iff_ne.2 h66
        by_cases h81 : f.f0 = 81
        · have B81 : (f.f0 == 81) = true := by rw [h81]; rfl
          obtain ⟨fb, hmt, hcf, hcl⟩ := method_query { Mi with ahead := r } HT.out f h81
          have HCL := Aside0.mk hcl
          obtain ⟨p, hp⟩ : ∃ p, p = takeM { Mi with ahead := r } f := ⟨_, rfl⟩
          rw [← hp] at hcl
          have HP := Aside0.mk hp
          have HCL := Aside0.mk hcl
          clear hcl hp
          have HF0 := Aside0.mk h81
          clear h81
          go_wp2_with fail
          have HX3d : Aside0 (MX S1 b w3.drew g { Mi with ahead := r }) := ⟨HX3.out.step ((Below.refl _ _).drew)⟩
          go_region_with (refine (HCL.out S1 b g w3.drew HX3d.out (by have := HN.out; show Mi.told.length ≤ _; simp only [List.length_cons] at this; omega)).mono ?_; rintro e w4 ⟨rfl, S2, s1, s2, s3, s4⟩)
          all_goals
            have y4 : w4.cell? ⟨z, 1, none⟩ = some (.string f.f1) := cell_kept (show w3.drew.cell? ⟨z, 1, none⟩ = some (.string f.f1) from y1) s3 (fun h => by have := HS1.out z h; have := HZ.out; omega)
            have HGo4 : Aside0 (Goes S b w g w4 p.2) := ⟨Goes.then_ HI1.out HK1.out HB1.out (Goes.then_ (fun _ h => .inl h) (HK3.out.below ((Below.refl _ _).drew)) (HB3.out.trans ((Below.refl b w3).drew)) ⟨S2, s1, s2, s3, s4⟩)⟩
            clear s1 s2 s3 s4
            obtain ⟨d, M4⟩ := p
            have hdo := take_do { Mi with ahead := r } f
            rw [← HP.out] at hdo
            have hdo : d = 0 ∨ d = 1 ∨ d = 2 ∨ d = 3 := hdo
            have HEQ : Aside0 (goL M M.ahead = if d = 0 then goL M4 r else if d = 2 then ((2, f.f1), M4) else ((d, ⟨#[]⟩), M4)) := ⟨by rw [← HG.out]; show (if Mi.wd = 0 then _ else _) = _; rw [if_pos HW0.out, ← HP.out]⟩
            rcases hdo with rfl | rfl | rfl | rfl
            · go_wp2_with fail
              go_roundg r.length
              case measure => first | omega | (simp only [List.length_cons]; omega)
              case rel => exact ⟨M4, r, rfl, ⟨by simpa using HEQ.out.symm⟩, ⟨fun h => by have := take_zero { Mi with ahead := r } f (by rw [← HP.out]) (by rw [← HP.out]; exact h); rw [← HP.out] at this; exact this⟩, ⟨by have := take_ok (M := { Mi with ahead := r }) HT.out f; rw [← HP.out] at this; exact this⟩, ⟨by have := take_told { Mi with ahead := r } f; rw [← HP.out] at this; have h2 := HN.out; simp only [List.length_cons] at h2; simp only at this; omega⟩, HGo4⟩
            · go_wp2_with fail
              go_returns
              rw [E.out, show goL M M.ahead = ((1, ⟨#[]⟩), M4) from by simpa using HEQ.out]
              exact ⟨rfl, HGo4.out⟩
            · go_wp2_with fail
              repeat (go_quiet (fail))
              revert nq
              intro nq
              go_wp2_with fail
              go_returns
              rw [E.out, show goL M M.ahead = ((2, f.f1), M4) from by simpa using HEQ.out]
              exact ⟨rfl, HGo4.out.tail (pw_below_drewN (Below.refl _ _) nq)⟩
            · go_wp2_with fail
              go_returns
              rw [E.out, show goL M M.ahead = ((3, ⟨#[]⟩), M4) from by simpa using HEQ.out]
              exact ⟨rfl, HGo4.out⟩
        have N81 : (f.f0 == 81) = false := beq_eq_false_iff_ne.2 h81
        by_cases h69 : f.f0 = 69
        · have B69 : (f.f0 == 69) = true := by rw [h69]; rfl
          obtain ⟨fb, hmt, hcf, hcl⟩ := method_end { Mi with ahead := r } HT.out f h69
          have HCL := Aside0.mk hcl
          obtain ⟨p, hp⟩ : ∃ p, p = takeM { Mi with ahead := r } f := ⟨_, rfl⟩
          rw [← hp] at hcl
          have HP := Aside0.mk hp
          have HCL := Aside0.mk hcl
          clear hcl hp
          have HF0 := Aside0.mk h69
          clear h69
          go_wp2_with fail
          refine (HCL.out S1 b g w3 HX3.out (by have := HN.out; show Mi.told.length ≤ _; simp only [List.length_cons] at this; omega)).mono ?_
          rintro e w4 ⟨rfl, S2, s1, s2, s3, s4⟩
          have y4 : w4.cell? ⟨z, 1, none⟩ = some (.string f.f1) := cell_kept y1 s3 (fun h => by have := HS1.out z h; have := HZ.out; omega)
          have HGo4 : Aside0 (Goes S b w g w4 p.2) := ⟨Goes.then_ HI1.out HK1.out HB1.out (Goes.then_ (fun _ h => .inl h) HK3.out HB3.out ⟨S2, s1, s2, s3, s4⟩)⟩
          clear s1 s2 s3 s4
          obtain ⟨d, M4⟩ := p
          have hdo := take_do { Mi with ahead := r } f
          rw [← HP.out] at hdo
          have hdo : d = 0 ∨ d = 1 ∨ d = 2 ∨ d = 3 := hdo
          have HEQ : Aside0 (goL M M.ahead = if d = 0 then goL M4 r else if d = 2 then ((2, f.f1), M4) else ((d, ⟨#[]⟩), M4)) := ⟨by rw [← HG.out]; show (if Mi.wd = 0 then _ else _) = _; rw [if_pos HW0.out, ← HP.out]⟩
          rcases hdo with rfl | rfl | rfl | rfl
          · go_wp2_with fail
            go_roundg r.length
            case measure => first | omega | (simp only [List.length_cons]; omega)
            case rel => exact ⟨M4, r, rfl, ⟨by simpa using HEQ.out.symm⟩, ⟨fun h => by have := take_zero { Mi with ahead := r } f (by rw [← HP.out]) (by rw [← HP.out]; exact h); rw [← HP.out] at this; exact this⟩, ⟨by have := take_ok (M := { Mi with ahead := r }) HT.out f; rw [← HP.out] at this; exact this⟩, ⟨by have := take_told { Mi with ahead := r } f; rw [← HP.out] at this; have h2 := HN.out; simp only [List.length_cons] at h2; simp only at this; omega⟩, HGo4⟩
          · go_wp2_with fail
            go_returns
            rw [E.out, show goL M M.ahead = ((1, ⟨#[]⟩), M4) from by simpa using HEQ.out]
            exact ⟨rfl, HGo4.out⟩
          · go_wp2_with fail
            repeat (go_quiet (fail))
            revert nq
            intro nq
            go_wp2_with fail
            go_returns
            rw [E.out, show goL M M.ahead = ((2, f.f1), M4) from by simpa using HEQ.out]
            exact ⟨rfl, HGo4.out.tail (pw_below_drewN (Below.refl _ _) nq)⟩
          · go_wp2_with fail
            go_returns
            rw [E.out, show goL M M.ahead = ((3, ⟨#[]⟩), M4) from by simpa using HEQ.out]
            exact ⟨rfl, HGo4.out⟩
        have N69 : (f.f0 == 69) = false := beq_eq_false_iff_ne.2 h69
        obtain ⟨fb, hmt, hcf, hcl⟩ := method_bad { Mi with ahead := r } HT.out f h66 h81 h69
        have HCL := Aside0.mk hcl
        obtain ⟨p, hp⟩ : ∃ p, p = takeM { Mi with ahead := r } f := ⟨_, rfl⟩
        rw [← hp] at hcl
        have HP := Aside0.mk hp
        have HCL := Aside0.mk hcl
        clear hcl hp
        go_wp2_with fail
        refine (HCL.out S1 b g w3 HX3.out (by have := HN.out; show Mi.told.length ≤ _; simp only [List.length_cons] at this; omega)).mono ?_
        rintro e w4 ⟨rfl, S2, s1, s2, s3, s4⟩
        have y4 : w4.cell? ⟨z, 1, none⟩ = some (.string f.f1) := cell_kept y1 s3 (fun h => by have := HS1.out z h; have := HZ.out; omega)
        have HGo4 : Aside0 (Goes S b w g w4 p.2) := ⟨Goes.then_ HI1.out HK1.out HB1.out (Goes.then_ (fun _ h => .inl h) HK3.out HB3.out ⟨S2, s1, s2, s3, s4⟩)⟩
        clear s1 s2 s3 s4
        obtain ⟨d, M4⟩ := p
        have hdo := take_do { Mi with ahead := r } f
        rw [← HP.out] at hdo
        have hdo : d = 0 ∨ d = 1 ∨ d = 2 ∨ d = 3 := hdo
        have HEQ : Aside0 (goL M M.ahead = if d = 0 then goL M4 r else if d = 2 then ((2, f.f1), M4) else ((d, ⟨#[]⟩), M4)) := ⟨by rw [← HG.out]; show (if Mi.wd = 0 then _ else _) = _; rw [if_pos HW0.out, ← HP.out]⟩
        rcases hdo with rfl | rfl | rfl | rfl
        · go_wp2_with fail
          go_roundg r.length
          case measure => first | omega | (simp only [List.length_cons]; omega)
          case rel => exact ⟨M4, r, rfl, ⟨by simpa using HEQ.out.symm⟩, ⟨fun h => by have := take_zero { Mi with ahead := r } f (by rw [← HP.out]) (by rw [← HP.out]; exact h); rw [← HP.out] at this; exact this⟩, ⟨by have := take_ok (M := { Mi with ahead := r }) HT.out f; rw [← HP.out] at this; exact this⟩, ⟨by have := take_told { Mi with ahead := r } f; rw [← HP.out] at this; have h2 := HN.out; simp only [List.length_cons] at h2; simp only at this; omega⟩, HGo4⟩
        · go_wp2_with fail
          go_returns
          rw [E.out, show goL M M.ahead = ((1, ⟨#[]⟩), M4) from by simpa using HEQ.out]
          exact ⟨rfl, HGo4.out⟩
        · go_wp2_with fail
          repeat (go_quiet (fail))
          revert nq
          intro nq
          go_wp2_with fail
          go_returns
          rw [E.out, show goL M M.ahead = ((2, f.f1), M4) from by simpa using HEQ.out]
          exact ⟨rfl, HGo4.out.tail (pw_below_drewN (Below.refl _ _) nq)⟩
        · go_wp2_with fail
          go_returns
          rw [E.out, show goL M M.ahead = ((3, ⟨#[]⟩), M4) from by simpa using HEQ.out]
          exact ⟨rfl, HGo4.out⟩
    · have W0 : (Mi.wd == 0) = false := beq_eq_false_iff_ne.2 hw
      have HW0 := Aside0.mk hw
      clear hw
      go_wp2_with fail
      go_returns
      have e : goL M M.ahead = ((0, ⟨#[]⟩), Mi) := by rw [← HG.out]; cases li with | nil => rfl | cons f r => unfold goL; rw [if_neg HW0.out]
      rw [E.out, e]
      exact ⟨rfl, ⟨S1, HI1.out, HMX.out, HK1.out, HB1.out⟩⟩
end Go.Proofs.Ythjjblnkaikmlaa.Mx
