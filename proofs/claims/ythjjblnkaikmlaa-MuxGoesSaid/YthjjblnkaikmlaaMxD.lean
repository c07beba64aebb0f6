/- A session's Got, Turn, Answer, Lost, Open, Replies, New walked. -/
import Derived.Test.YthjjblnkaikmlaaMxC
import Derived.Deep.RegionWith
import Derived.Handy
import Derived.Lib.SliceRun
import Derived.StillTailTactics
namespace Go.Proofs.Ythjjblnkaikmlaa.Mx
open Go.RowKit Go.Proofs.Ythjjblnkaikmlaa.St Go.Proofs.Ythjjblnkaikmlaa.PMuxOnce Go.Proofs.YthjjblnkaikmlaaW.PrintWords Go.Proofs.YthjjblnkaikmlaaW.PrintLast Go.Proofs.YthjjblnkaikmlaaW.PrintMore
set_option linter.unusedVariables false
set_option linter.unusedSimpArgs false
attribute [local go_sem] max2_int min2_int max_two min_two
attribute [local go_sem high] eqA42
def gotM (M : MSt) : Int × MSt := if M.wd = 1 then (if M.alone = true then (0, { M with wd := 2 }) else (0, tellM { M with wd := 0, st := 76 } 1)) else (3, M)
def answerM (M : MSt) (tx : ByteArray) : Int × MSt := if M.wd = 3 then (0, { M with told := M.told ++ [⟨2, 0, tx⟩], wd := if M.alone = true then 4 else 0, st := 76 }) else (3, M)
def lostM (M : MSt) : Int × MSt := if M.wd = 2 ∨ M.wd = 3 then (0, { tellM M 6 with wd := 0, st := 66 }) else if M.wd = 4 then (0, { M with wd := 0, st := 66 }) else if M.wd = 0 ∧ M.st = 76 then (0, { M with st := 81 }) else (3, M)
def turnOk (r : S42) : Prop := (r.f0 = 4 ∧ r.f1 = 0 ∧ r.f2.size = 0) ∨ (r.f0 = 5 ∧ r.f2.size = 0 ∧ 1 ≤ r.f1 ∧ r.f1 ≤ 7)
instance (r : S42) : Decidable (turnOk r) := by unfold turnOk; infer_instance
def turnM (M : MSt) (r : S42) : Int × MSt := if turnOk r then (if M.wd = 1 then (0, { M with wd := 0, st := 66, told := M.told ++ [r] }) else (3, M)) else (1, M)
set_option maxHeartbeats 4000000 in
set_option maxRecDepth 100000 in
theorem got_calls (S : Nat → Prop) (b g : Nat) (M : MSt) (w : World) (h : MX S b w g M) (hl : M.told.length ≤ 1000000000) :
    Calls Try.prog 11 #[.pointer (some ⟨g, 0, none⟩)] w fun e w' => e = .returned (.int .i64 (gotM M).1) ∧ Goes S b w g w' ((gotM M).2) := by
  by_cases h1 : M.wd = 1
  · have e1 : (M.wd == 1) = true := by rw [h1]; rfl
    rcases ha : M.alone with _ | _
    · have e : gotM M = (0, tellM { M with wd := 0, st := 76 } 1) := by unfold gotM; rw [if_pos h1, ha]; rfl
      rw [e]
      obtain ⟨i1, i2, Sr, gr, vt, va, vb, hm⟩ := h
      obtain ⟨c0, c1, c2, c3, c4, c5, c6, c7⟩ := hm.cells
      have f3 := hm.frozen 3
      have f4 := hm.frozen 4
      have f7 := hm.frozen 7
      have HX := Aside0.mk (show MX S b w g M from ⟨i1, i2, Sr, gr, vt, va, vb, hm⟩)
      have H := Aside0.mk hm
      have HL := Aside0.mk hl
      have HW := Aside0.mk i2
      have HS := Aside0.mk i1
      clear hm hl i1 i2
      rw [ha] at c5
      go_enter Try.func11, Try.ntmps11
      go_wp2_with fail
      have hm2 := (H.out.fld 4 (.int .i64 0) { M with wd := 0 } rfl rfl rfl rfl).fld 3 (.iface 76 (.agg #[])) { M with wd := 0, st := 76 } rfl rfl rfl rfl
      have hk2 := ((Kept.refl w S).setCell (p := ⟨g, 4, none⟩) (.inl H.out.1) (.int .i64 0)).setCell (p := ⟨g, 3, none⟩) (.inl H.out.1) (.iface 76 (.agg #[]))
      have hb2 := Below.setCell (p := ⟨g, 3, none⟩) (Below.setCell (p := ⟨g, 4, none⟩) (Below.refl b w) H.out.2.1 (.int .i64 0)) H.out.2.1 (.iface 76 (.agg #[]))
      refine (tell_calls S b g { M with wd := 0, st := 76 } 1 ((w.setCell ⟨g, 4, none⟩ (.int .i64 0)).setCell ⟨g, 3, none⟩ (.iface 76 (.agg #[]))) ⟨fun k hk => by have := HS.out k hk; simpa [World.setCell] using this, by have := HW.out; simpa [World.setCell] using this, Sr, gr, vt, va, vb, hm2⟩ HL.out).mono ?_
      rintro e w3 ⟨rfl, hg⟩
      have HG := Aside0.mk (Goes.then_ (fun _ h => .inl h) hk2 hb2 hg)
      clear hg hk2 hb2 hm2
      go_wp2_with fail
      go_ret
      exact ⟨rfl, HG.out⟩
    · have e : gotM M = (0, { M with wd := 2 }) := by unfold gotM; rw [if_pos h1, ha]; rfl
      rw [e]
      obtain ⟨i1, i2, Sr, gr, vt, va, vb, hm⟩ := h
      obtain ⟨c0, c1, c2, c3, c4, c5, c6, c7⟩ := hm.cells
      have f3 := hm.frozen 3
      have f4 := hm.frozen 4
      have f7 := hm.frozen 7
      have HX := Aside0.mk (show MX S b w g M from ⟨i1, i2, Sr, gr, vt, va, vb, hm⟩)
      have H := Aside0.mk hm
      have HL := Aside0.mk hl
      have HW := Aside0.mk i2
      have HS := Aside0.mk i1
      clear hm hl i1 i2
      rw [ha] at c5
      go_enter Try.func11, Try.ntmps11
      go_wp2_with fail
      go_ret
      exact ⟨rfl, Goes.of (H.out.fld 4 (.int .i64 2) { M with wd := 2 } rfl rfl rfl rfl).up HW.out ((Kept.refl w S).setCell (.inl H.out.1) _) (Below.setCell (Below.refl b w) H.out.2.1 _)⟩
  · have e1 : (M.wd == 1) = false := beq_eq_false_iff_ne.2 h1
    have e : gotM M = (3, M) := by unfold gotM; rw [if_neg h1]
    rw [e]
    obtain ⟨i1, i2, Sr, gr, vt, va, vb, hm⟩ := h
    obtain ⟨c0, c1, c2, c3, c4, c5, c6, c7⟩ := hm.cells
    have f3 := hm.frozen 3
    have f4 := hm.frozen 4
    have f7 := hm.frozen 7
    have HX := Aside0.mk (show MX S b w g M from ⟨i1, i2, Sr, gr, vt, va, vb, hm⟩)
    have H := Aside0.mk hm
    have HL := Aside0.mk hl
    have HW := Aside0.mk i2
    have HS := Aside0.mk i1
    clear hm hl i1 i2
    go_enter Try.func11, Try.ntmps11
    go_wp2_with fail
    go_ret
    exact ⟨rfl, Goes.refl HX.out⟩
set_option maxHeartbeats 4000000 in
set_option maxRecDepth 100000 in
theorem answer_calls (S : Nat → Prop) (b g : Nat) (M : MSt) (tx : ByteArray) (w : World) (h : MX S b w g M) (hl : M.told.length ≤ 1000000000) :
    Calls Try.prog 12 #[.pointer (some ⟨g, 0, none⟩), .string tx] w fun e w' => e = .returned (.int .i64 (answerM M tx).1) ∧ Goes S b w g w' ((answerM M tx).2) := by
  by_cases h1 : M.wd = 3
  · have e1 : (M.wd == 3) = true := by rw [h1]; rfl
    rcases ha : M.alone with _ | _
    · have e : answerM M tx = (0, { M with told := M.told ++ [⟨2, 0, tx⟩], wd := 0, st := 76 }) := by unfold answerM; rw [if_pos h1, ha]; rfl
      rw [e]
      obtain ⟨i1, i2, Sr, gr, vt, va, vb, hm⟩ := h
      obtain ⟨c0, c1, c2, c3, c4, c5, c6, c7⟩ := hm.cells
      have f3 := hm.frozen 3
      have f4 := hm.frozen 4
      have f7 := hm.frozen 7
      have HX := Aside0.mk (show MX S b w g M from ⟨i1, i2, Sr, gr, vt, va, vb, hm⟩)
      have H := Aside0.mk hm
      have HL := Aside0.mk hl
      have HW := Aside0.mk i2
      have HS := Aside0.mk i1
      clear hm hl i1 i2
      rw [ha] at c5
      go_enter Try.func12, Try.ntmps12
      go_wp2_with ((with_reducible refine gate_builtin (b := .append) (xs := #[.tmp 14, .tmp 17]) rfl ?_); at_builtin; refine Kd.R_append k42 (w0 := w) (W := w) b rfl (.tmp 14) (.tmp 17) 39 42 (.agg #[(.int .i64 0), (.int .i64 0), (.string ⟨#[]⟩)]) 32 rfl Try.underlying39 info42 rfl (by decide) (by omega) vb M.told (⟨2, 0, tx⟩ : S42) [.int .i64 2, .int .i64 0, .string tx] (fun k => (S k ∨ w.heap.size ≤ k) ∧ ¬ Sr k) (fun _ => False) rfl rfl (k42_mkM _ _ _ (⟨2, 0, tx⟩ : S42)) (fun _ hk => hk.elim) (fun _ hk => ⟨.inr hk, fun hs => Nat.not_lt.2 hk (HS.out _ (H.out.2.2.2.1 _ hs))⟩) (Kd.R_mono H.out.2.2.2.2.2.2.2.1 (fun _ hk => ⟨.inl hk.1, hk.2⟩)) (Below.refl _ _) HW.out (by have := HL.out; omega) ?_; intro v1 w1 ho hb hg hat; obtain ⟨m1, A1, n1, e1⟩ : ∃ m1 A1 n1, v1 = Value.slice A1 m1 n1 := (by obtain ⟨A, c, e⟩ := Kd.R_slice ho; exact ⟨_, A, c, e⟩); subst e1; have hQ := MR.tell (H.out.mono (S' := fun k => S k ∨ w.heap.size ≤ k) (fun _ hk => .inl hk)) hg ho; have hbk := blk_grown H.out.blk hg (Kd.R_ne H.out.2.2.2.2.2.2.2.1 H.out.blk (by decide)); have hf1 : w1.frozen? ⟨g, 7, none⟩ = false := blk_frozen hbk 7; have hd1 : w1.cell? ⟨g, 7, none⟩ = some vb := (blk_cell hbk 7).trans rfl; have hf2 : w1.frozen? ⟨g, 4, none⟩ = false := blk_frozen hbk 4; have hd2 : w1.cell? ⟨g, 4, none⟩ = some (.int .i64 M.wd) := (blk_cell hbk 4).trans rfl; have hf3 : w1.frozen? ⟨g, 3, none⟩ = false := blk_frozen hbk 3; have hd3 : w1.cell? ⟨g, 3, none⟩ = some (.iface M.st (.agg #[])) := (blk_cell hbk 3).trans rfl; have hd5 : w1.cell? ⟨g, 5, none⟩ = some (.bool M.alone) := (blk_cell hbk 5).trans rfl; have HQ := Aside0.mk hQ; have HG := Aside0.mk hg; have HB := Aside0.mk hb; clear ho hb hg hat hQ hbk)
      all_goals rw [ha] at hd5
      all_goals go_wp2_with fail
      all_goals go_ret
      all_goals exact ⟨rfl, Goes.of ((HQ.out.fld 4 (.int .i64 0) { M with told := M.told ++ [⟨2, 0, tx⟩], wd := 0 } rfl rfl rfl rfl).fld 3 (.iface 76 (.agg #[])) { M with told := M.told ++ [⟨2, 0, tx⟩], wd := 0, st := 76 } rfl rfl rfl rfl) HW.out ((((Kept.of_grown HG.out (Kept.refl w S) (fun k hk => .inl (H.out.2.2.2.2.2.2.2.1.1 k hk).1)).setCell (.inl H.out.1) _).setCell (.inl H.out.1) _).setCell (.inl H.out.1) _) (Below.setCell (Below.setCell (Below.setCell HB.out H.out.2.1 _) H.out.2.1 _) H.out.2.1 _)⟩
    · have e : answerM M tx = (0, { M with told := M.told ++ [⟨2, 0, tx⟩], wd := 4, st := 76 }) := by unfold answerM; rw [if_pos h1, ha]; rfl
      rw [e]
      obtain ⟨i1, i2, Sr, gr, vt, va, vb, hm⟩ := h
      obtain ⟨c0, c1, c2, c3, c4, c5, c6, c7⟩ := hm.cells
      have f3 := hm.frozen 3
      have f4 := hm.frozen 4
      have f7 := hm.frozen 7
      have HX := Aside0.mk (show MX S b w g M from ⟨i1, i2, Sr, gr, vt, va, vb, hm⟩)
      have H := Aside0.mk hm
      have HL := Aside0.mk hl
      have HW := Aside0.mk i2
      have HS := Aside0.mk i1
      clear hm hl i1 i2
      rw [ha] at c5
      go_enter Try.func12, Try.ntmps12
      go_wp2_with ((with_reducible refine gate_builtin (b := .append) (xs := #[.tmp 14, .tmp 17]) rfl ?_); at_builtin; refine Kd.R_append k42 (w0 := w) (W := w) b rfl (.tmp 14) (.tmp 17) 39 42 (.agg #[(.int .i64 0), (.int .i64 0), (.string ⟨#[]⟩)]) 32 rfl Try.underlying39 info42 rfl (by decide) (by omega) vb M.told (⟨2, 0, tx⟩ : S42) [.int .i64 2, .int .i64 0, .string tx] (fun k => (S k ∨ w.heap.size ≤ k) ∧ ¬ Sr k) (fun _ => False) rfl rfl (k42_mkM _ _ _ (⟨2, 0, tx⟩ : S42)) (fun _ hk => hk.elim) (fun _ hk => ⟨.inr hk, fun hs => Nat.not_lt.2 hk (HS.out _ (H.out.2.2.2.1 _ hs))⟩) (Kd.R_mono H.out.2.2.2.2.2.2.2.1 (fun _ hk => ⟨.inl hk.1, hk.2⟩)) (Below.refl _ _) HW.out (by have := HL.out; omega) ?_; intro v1 w1 ho hb hg hat; obtain ⟨m1, A1, n1, e1⟩ : ∃ m1 A1 n1, v1 = Value.slice A1 m1 n1 := (by obtain ⟨A, c, e⟩ := Kd.R_slice ho; exact ⟨_, A, c, e⟩); subst e1; have hQ := MR.tell (H.out.mono (S' := fun k => S k ∨ w.heap.size ≤ k) (fun _ hk => .inl hk)) hg ho; have hbk := blk_grown H.out.blk hg (Kd.R_ne H.out.2.2.2.2.2.2.2.1 H.out.blk (by decide)); have hf1 : w1.frozen? ⟨g, 7, none⟩ = false := blk_frozen hbk 7; have hd1 : w1.cell? ⟨g, 7, none⟩ = some vb := (blk_cell hbk 7).trans rfl; have hf2 : w1.frozen? ⟨g, 4, none⟩ = false := blk_frozen hbk 4; have hd2 : w1.cell? ⟨g, 4, none⟩ = some (.int .i64 M.wd) := (blk_cell hbk 4).trans rfl; have hf3 : w1.frozen? ⟨g, 3, none⟩ = false := blk_frozen hbk 3; have hd3 : w1.cell? ⟨g, 3, none⟩ = some (.iface M.st (.agg #[])) := (blk_cell hbk 3).trans rfl; have hd5 : w1.cell? ⟨g, 5, none⟩ = some (.bool M.alone) := (blk_cell hbk 5).trans rfl; have HQ := Aside0.mk hQ; have HG := Aside0.mk hg; have HB := Aside0.mk hb; clear ho hb hg hat hQ hbk)
      all_goals rw [ha] at hd5
      all_goals go_wp2_with fail
      all_goals go_ret
      all_goals exact ⟨rfl, Goes.of (((HQ.out.fld 4 (.int .i64 0) { M with told := M.told ++ [⟨2, 0, tx⟩], wd := 0 } rfl rfl rfl rfl).fld 3 (.iface 76 (.agg #[])) { M with told := M.told ++ [⟨2, 0, tx⟩], wd := 0, st := 76 } rfl rfl rfl rfl).fld 4 (.int .i64 4) { M with told := M.told ++ [⟨2, 0, tx⟩], wd := 4, st := 76 } rfl rfl rfl rfl) HW.out (((((Kept.of_grown HG.out (Kept.refl w S) (fun k hk => .inl (H.out.2.2.2.2.2.2.2.1.1 k hk).1)).setCell (.inl H.out.1) _).setCell (.inl H.out.1) _).setCell (.inl H.out.1) _).setCell (.inl H.out.1) _) (Below.setCell (Below.setCell (Below.setCell (Below.setCell HB.out H.out.2.1 _) H.out.2.1 _) H.out.2.1 _) H.out.2.1 _)⟩
  · have e1 : (M.wd == 3) = false := beq_eq_false_iff_ne.2 h1
    have e : answerM M tx = (3, M) := by unfold answerM; rw [if_neg h1]
    rw [e]
    obtain ⟨i1, i2, Sr, gr, vt, va, vb, hm⟩ := h
    obtain ⟨c0, c1, c2, c3, c4, c5, c6, c7⟩ := hm.cells
    have f3 := hm.frozen 3
    have f4 := hm.frozen 4
    have f7 := hm.frozen 7
    have HX := Aside0.mk (show MX S b w g M from ⟨i1, i2, Sr, gr, vt, va, vb, hm⟩)
    have H := Aside0.mk hm
    have HL := Aside0.mk hl
    have HW := Aside0.mk i2
    have HS := Aside0.mk i1
    clear hm hl i1 i2
    go_enter Try.func12, Try.ntmps12
    go_wp2_with fail
    go_ret
    exact ⟨rfl, Goes.refl HX.out⟩
theorem ta66 (w : World) : (Instr.typeAssert (.iface 66 (.agg #[])) 68 76 true).run Try.prog w = .ok (.tuple #[.agg #[], .bool false]) w := by kernel_rfl
theorem ta76 (w : World) : (Instr.typeAssert (.iface 76 (.agg #[])) 68 76 true).run Try.prog w = .ok (.tuple #[.agg #[], .bool true]) w := by kernel_rfl
theorem ta81 (w : World) : (Instr.typeAssert (.iface 81 (.agg #[])) 68 76 true).run Try.prog w = .ok (.tuple #[.agg #[], .bool false]) w := by kernel_rfl
attribute [local go_sem high] ta66 ta76 ta81
set_option maxHeartbeats 4000000 in
set_option maxRecDepth 100000 in
theorem lost_calls (S : Nat → Prop) (b g : Nat) (M : MSt) (w : World) (h : MX S b w g M) (hl : M.told.length ≤ 1000000000) (hst : okT M) :
    Calls Try.prog 23 #[.pointer (some ⟨g, 0, none⟩)] w fun e w' => e = .returned (.int .i64 (lostM M).1) ∧ Goes S b w g w' ((lostM M).2) := by
  have hx1 : MX S b (w.alloc (.cells #[] 76)) g M := h.step (below_alloc (Below.refl _ _) _)
  have hbl := below_alloc (Below.refl w.heap.size w) (.cells #[] 76)
  obtain ⟨w1, hw1⟩ : ∃ w1, w.alloc (.cells #[] 76) = w1 := ⟨_, rfl⟩
  rw [hw1] at hx1 hbl
  have HBL := Aside0.mk hbl
  have HB0 := Aside0.mk h.2.1
  obtain ⟨z1, z2, z3, z4, z5, z6⟩ := (show ∃ Sr gr vt va vb, MR S Sr b w g gr vt va vb M from h.2.2)
  obtain ⟨_, _, _, d3, _, _, _, _⟩ := z6.cells
  have HT := Aside0.mk hst
  have HX1 := Aside0.mk hx1
  have HL0 := Aside0.mk hl
  by_cases a2 : M.wd = 2 ∨ M.wd = 3
  · have e : lostM M = (0, { tellM M 6 with wd := 0, st := 66 }) := by unfold lostM; rw [if_pos a2]
    rw [e]
    rcases hst with ht | ht | ht <;> rw [ht] at d3 <;> rcases a2 with a2 | a2
    all_goals
      (obtain ⟨i1, i2, Sr, gr, vt, va, vb, hm⟩ := hx1
       obtain ⟨c0, c1, c2, c3, c4, c5, c6, c7⟩ := hm.cells
       have e2 : (M.wd == 2) = (M.wd == 2) := rfl
       rw [a2] at c4
       clear hm i1 i2 h hl hbl z6 a2 ht e
       go_enter Try.func23, Try.ntmps23
       go_wp2_with fail
       refine (tell_calls S b g M 6 w1 HX1.out HL0.out).mono ?_
       rintro e w2 ⟨rfl, S1, s1, ⟨m1, m2, Sr1, gr1, vt1, va1, vb1, hm⟩, s3, s4⟩
       obtain ⟨k0, k1, k2, k3, k4, k5, k6, k7⟩ := hm.cells
       have f3 := hm.frozen 3
       have f4 := hm.frozen 4
       have HM := Aside0.mk hm
       have HI := Aside0.mk m2
       have HS1 := Aside0.mk s1
       have HK := Aside0.mk s3
       have HB := Aside0.mk s4
       clear hm m1 m2 s1 s3 s4
       go_wp2_with fail
       all_goals go_ret
       all_goals exact ⟨rfl, Goes.from_ HBL.out HB0.out (Goes.then_ HS1.out HK.out HB.out (Goes.of ((HM.out.fld 4 (.int .i64 0) { tellM M 6 with wd := 0 } rfl rfl rfl rfl).fld 3 (.iface 66 (.agg #[])) { tellM M 6 with wd := 0, st := 66 } rfl rfl rfl rfl).up HI.out (((Kept.refl _ _).setCell (.inl HM.out.1) _).setCell (.inl HM.out.1) _) (Below.setCell (Below.setCell (Below.refl b _) HM.out.2.1 _) HM.out.2.1 _)))⟩)
  have n2 : (M.wd == 2) = false := beq_eq_false_iff_ne.2 (fun h => a2 (.inl h))
  have n3 : (M.wd == 3) = false := beq_eq_false_iff_ne.2 (fun h => a2 (.inr h))
  by_cases a4 : M.wd = 4
  · have e : lostM M = (0, { M with wd := 0, st := 66 }) := by unfold lostM; rw [if_neg a2, if_pos a4]
    rw [e]
    have e4 : (M.wd == 4) = true := by rw [a4]; rfl
    rcases hst with ht | ht | ht <;> rw [ht] at d3
    all_goals
      (obtain ⟨i1, i2, Sr, gr, vt, va, vb, hm⟩ := hx1
       obtain ⟨c0, c1, c2, c3, c4, c5, c6, c7⟩ := hm.cells
       have f3 := hm.frozen 3
       have f4 := hm.frozen 4
       have HM := Aside0.mk hm
       have HI := Aside0.mk i2
       clear hm i1 i2 h hl hbl z6 a2 a4 e ht
       go_enter Try.func23, Try.ntmps23
       go_wp2_with fail
       all_goals go_ret
       all_goals exact ⟨rfl, Goes.from_ HBL.out HB0.out (Goes.of ((HM.out.fld 4 (.int .i64 0) { M with wd := 0 } rfl rfl rfl rfl).fld 3 (.iface 66 (.agg #[])) { M with wd := 0, st := 66 } rfl rfl rfl rfl).up HI.out (((Kept.refl _ _).setCell (.inl HM.out.1) _).setCell (.inl HM.out.1) _) (Below.setCell (Below.setCell (Below.refl b _) HM.out.2.1 _) HM.out.2.1 _))⟩)
  have n4 : (M.wd == 4) = false := beq_eq_false_iff_ne.2 a4
  by_cases a0 : M.wd = 0
  · have e0 : (M.wd == 0) = true := by rw [a0]; rfl
    by_cases ht : M.st = 76
    · have e : lostM M = (0, { M with st := 81 }) := by unfold lostM; rw [if_neg a2, if_neg a4, if_pos ⟨a0, ht⟩]
      rw [e]
      rw [ht] at d3
      obtain ⟨i1, i2, Sr, gr, vt, va, vb, hm⟩ := hx1
      obtain ⟨c0, c1, c2, c3, c4, c5, c6, c7⟩ := hm.cells
      have f3 := hm.frozen 3
      have HM := Aside0.mk hm
      have HI := Aside0.mk i2
      clear hm i1 i2 h hl hbl z6 a2 a4 e ht a0 hst
      go_enter Try.func23, Try.ntmps23
      go_wp2_with fail
      all_goals go_ret
      all_goals exact ⟨rfl, Goes.from_ HBL.out HB0.out (Goes.of (HM.out.fld 3 (.iface 81 (.agg #[])) { M with st := 81 } rfl rfl rfl rfl).up HI.out ((Kept.refl _ _).setCell (.inl HM.out.1) _) (Below.setCell (Below.refl b _) HM.out.2.1 _))⟩
    · have e : lostM M = (3, M) := by unfold lostM; rw [if_neg a2, if_neg a4, if_neg (fun h => ht h.2)]
      rw [e]
      rcases hst with ht | ht' | ht
      rotate_left 1
      · exact absurd ht' (by assumption)
      all_goals
        (rw [ht] at d3
         obtain ⟨i1, i2, Sr, gr, vt, va, vb, hm⟩ := hx1
         obtain ⟨c0, c1, c2, c3, c4, c5, c6, c7⟩ := hm.cells
         clear hm i1 i2 h hl hbl z6 a2 a4 e ht a0
         go_enter Try.func23, Try.ntmps23
         go_wp2_with fail
         all_goals go_ret
         all_goals exact ⟨rfl, Goes.from_ HBL.out HB0.out (Goes.refl HX1.out)⟩)
  · have e0 : (M.wd == 0) = false := beq_eq_false_iff_ne.2 a0
    have e : lostM M = (3, M) := by unfold lostM; rw [if_neg a2, if_neg a4, if_neg (fun h => a0 h.1)]
    rw [e]
    rcases hst with ht | ht | ht
    all_goals
      (rw [ht] at d3
       obtain ⟨i1, i2, Sr, gr, vt, va, vb, hm⟩ := hx1
       obtain ⟨c0, c1, c2, c3, c4, c5, c6, c7⟩ := hm.cells
       clear hm i1 i2 h hl hbl z6 a2 a4 e ht a0
       go_enter Try.func23, Try.ntmps23
       go_wp2_with fail
       all_goals go_ret
       all_goals exact ⟨rfl, Goes.from_ HBL.out HB0.out (Goes.refl HX1.out)⟩)
set_option maxRecDepth 100000 in
theorem open_calls (S : Nat → Prop) (b g : Nat) (M : MSt) (w : World) (h : MX S b w g M) :
    Calls Try.prog 16 #[.pointer (some ⟨g, 0, none⟩)] w fun e w' => e = .returned (.bool (M.wd != 5)) ∧ w = w' := by
  obtain ⟨h1, h2, Sr, gr, vt, va, vb, hm⟩ := h
  obtain ⟨c0, c1, c2, c3, c4, c5, c6, c7⟩ := hm.cells
  clear hm h1 h2
  go_enter Try.func16, Try.ntmps16
  go_wp2_with fail
  go_ret
  exact ⟨rfl, rfl⟩
theorem R42_only {w : World} {b : Nat} {ok : Nat → Prop} {v : Value} {l : List S42} (h : Kd.R k42 42 w b ok v l) : Kd.R k42 42 w b (fun k => ok k ∧ some k = v.ownBlock) v l := by
  obtain ⟨h1, inner, ho, hr⟩ := h
  refine ⟨fun k hk => ⟨h1 k hk, hk.symm⟩, inner, ho, hr.1, fun j p hp => ?_⟩
  have e := k42_openM (hr.2 j p hp)
  rw [e]
  exact k42_mkM _ _ _ p
theorem MR.shed {S Sr : Nat → Prop} {b g gr : Nat} {w : World} {vt va vb : Value} {M : MSt} (h : MR S Sr b w g gr vt va vb M) : MR (fun k => S k ∧ some k ≠ vb.ownBlock) Sr b (w.setCell ⟨g, 7, none⟩ (.slice none 0 0)) g gr vt va (.slice none 0 0) { M with told := [] } ∧ Kd.R k42 42 (w.setCell ⟨g, 7, none⟩ (.slice none 0 0)) b (fun k => S k ∧ ¬ (S k ∧ some k ≠ vb.ownBlock)) vb M.told := by
  have hq := h.quiet
  have ht := h.2.2.2.2.2.2.2.1
  have hne := Kd.R_ne ht h.blk (by decide)
  refine ⟨⟨⟨hq.1, hne⟩, hq.2.1, hq.2.2.1, fun k hk => ⟨hq.2.2.2.1 k hk, fun e => (ht.1 k e.symm).2 hk⟩, hq.blk, hq.2.2.2.2.2.1, Kd.R_mono (Kd.R_set (R_apart h.row ht (by decide)) h.blk (by decide) _ _) (fun k hk => ⟨⟨hk.1.1, hk.2⟩, hk.1.2⟩), Kd.R_nil _ _ _ _ _, hq.2.2.2.2.2.2.2.2⟩, ?_⟩
  exact Kd.R_mono (R42_only (Kd.R_set ht h.blk (by decide) _ _)) (fun k hk => ⟨hk.1.1, fun h => h.2 hk.2⟩)
set_option maxRecDepth 100000 in
theorem replies_calls (S : Nat → Prop) (b g : Nat) (M : MSt) (w : World) (h : MX S b w g M) :
    Calls Try.prog 13 #[.pointer (some ⟨g, 0, none⟩)] w fun e w' => ∃ v S', e = .returned v ∧ (∀ k, S' k → S k) ∧ MX S' b w' g { M with told := [] } ∧ Kd.R k42 42 w' b (fun k => S k ∧ ¬ S' k) v M.told ∧ Kept w w' S ∧ Below b w w' := by
  obtain ⟨h1, h2, Sr, gr, vt, va, vb, hm⟩ := h
  obtain ⟨c0, c1, c2, c3, c4, c5, c6, c7⟩ := hm.cells
  have f7 := hm.frozen 7
  have HM := Aside0.mk hm
  have HI := Aside0.mk h1
  have HW := Aside0.mk h2
  clear hm h1 h2
  go_enter Try.func13, Try.ntmps13
  go_wp2_with fail
  all_goals go_ret
  all_goals exact ⟨_, _, rfl, fun k hk => hk.1, ⟨fun k hk => by have := HI.out k hk.1; simpa [World.setCell] using this, by have := HW.out; simpa [World.setCell] using this, Sr, gr, vt, va, _, HM.out.shed.1⟩, HM.out.shed.2, (Kept.refl w S).setCell (.inl HM.out.1) _, Below.setCell (Below.refl b w) HM.out.2.1 _⟩
def M0 : MSt := ⟨⟨0, 0, [], []⟩, [], false, 66, 0, false, ⟨#[]⟩, []⟩
set_option maxRecDepth 100000 in
theorem new_calls' (w : World) :
    Calls Try.prog 8 #[] w fun e w' => ∃ g S, e = .returned (.pointer (some ⟨g, 0, none⟩)) ∧ (∀ k, S k → w.heap.size ≤ k) ∧ MX S w.heap.size w' g M0 ∧ Below w.heap.size w w' := by
  go_enter Try.func8, Try.ntmps8
  go_wp2_with fail
  refine (new_calls w).mono ?_
  rintro e w1 ⟨gr, rfl, g1, g2, hr, hb⟩
  have HR := Aside0.mk hr
  have HB := Aside0.mk hb
  have HG := Aside0.mk (And.intro g1 g2)
  clear hr hb g1 g2
  go_wp2_with fail
  go_ret
  refine ⟨w1.heap.size, fun k => k = gr ∨ k = w1.heap.size, rfl, fun k hk => by have := HB.out.size; have := HG.out.1; omega, ⟨fun k hk => by have := HG.out.2; simp; omega, by have := HB.out.size; simp; omega, fun k => k = gr, gr, .slice none 0 0, .slice none 0 0, .slice none 0 0, .inr rfl, HB.out.size, fun h => by have := HG.out.2; omega, fun k hk => .inl hk, heap_alloc_new _ _, Rdr.step (HR.out w.heap.size) (fun k _ hl => Below.heap_alloc _ _ _ hl), Kd.R_nil _ _ _ _ _, Kd.R_nil _ _ _ _ _, rfl, ⟨.inl rfl, fun h => by cases h⟩⟩, HB.out.trans ((below_alloc (Below.refl _ _) _).mono HB.out.size)⟩
end Go.Proofs.Ythjjblnkaikmlaa.Mx
