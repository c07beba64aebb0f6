/- MuxGoes: the simulation (pure) and the function walked: for every input it answers true. -/
import Derived.Test.YthjjblnkaikmlaaMxM
import Derived.Deep.RegionWith
import Derived.Deep.RegionLaw
import Derived.Deep.CutBlock
import Derived.Handy
import Derived.Lib.SliceRun
import Derived.StillTailTactics
namespace Go.Proofs.Ythjjblnkaikmlaa.Mx
open Go.RowKit Go.Proofs.Ythjjblnkaikmlaa.St Go.Proofs.Ythjjblnkaikmlaa.PMuxOnce Go.Proofs.YthjjblnkaikmlaaW.PrintWords Go.Proofs.YthjjblnkaikmlaaW.PrintLast Go.Proofs.YthjjblnkaikmlaaW.PrintMore
set_option linter.unusedVariables false
set_option linter.unusedSimpArgs false
/-! The document's session does what the program's does: in plain Lean. -/
def dcode (wd : Int) (st : Nat) : Int := if wd = 0 then (if st = 66 then 0 else if st = 76 then 2 else 6) else if wd = 1 then 1 else if wd = 2 then 3 else if wd = 3 then 4 else if wd = 4 then 5 else 7
def dOf (M : MSt) (tx : ByteArray) : DSt := ⟨strOfNums (keptS M.s), decide (M.s.at_ = 3), M.ahead, dcode M.wd M.st, M.alone, tx, M.told⟩
def okG (f : S44) : Prop := (f.f0 = 66 ∧ f.f1 = ⟨#[]⟩) ∨ f.f0 = 81 ∨ f.f0 = 69 ∨ f.f0 = 0
def okW (M : MSt) : Prop := M.wd = 0 ∨ M.wd = 1 ∨ M.wd = 2 ∨ M.wd = 3 ∨ M.wd = 4 ∨ M.wd = 5
/-- What holds of a session in every run. -/
structure G (M : MSt) : Prop where
  w : okW M
  t : okT M
  br : M.broke = decide (M.s.at_ = 3)
  by_ : By (keptS M.s)
  tl : M.s.text.length ≤ 1000
  fr : ∀ f ∈ M.ahead, okG f
  ok : okS M.s
  out : M.s.out = []
theorem G.of {M M' : MSt} (h : G M) (hs : M'.s = M.s) (hb : M'.broke = M.broke) (ha : ∀ f ∈ M'.ahead, f ∈ M.ahead) (hw : okW M') (ht : okT M') : G M' :=
  ⟨hw, ht, by rw [hs, hb]; exact h.br, by rw [hs]; exact h.by_, by rw [hs]; exact h.tl, fun f hf => h.fr f (ha f hf), by rw [hs]; exact h.ok, by rw [hs]; exact h.out⟩
theorem sim_take (M : MSt) (f : S44) (hw : M.wd = 0) (hst : okT M) (hf : okG f) : ∃ tx, dtake (dOf M M.text) f = ((takeM M f).1, dOf (takeM M f).2 tx) ∧ ((takeM M f).2.wd ≠ 5 → tx = (takeM M f).2.text) ∧ ((takeM M f).1 = 2 → tx = f.f1) := by
  obtain ⟨s, a, br, st, wd, al, tx, td⟩ := M
  obtain ⟨k, y⟩ := f
  have hw : wd = 0 := hw
  subst hw
  have hst : st = 66 ∨ st = 76 ∨ st = 81 := hst
  have hf : (k = 66 ∧ y = ⟨#[]⟩) ∨ k = 81 ∨ k = 69 ∨ k = 0 := hf
  rcases hst with rfl | rfl | rfl <;> rcases hf with ⟨rfl, rfl⟩ | rfl | rfl | rfl
  all_goals first
    | exact ⟨_, rfl, fun _ => rfl, fun _ => rfl⟩
    | exact ⟨_, rfl, fun _ => rfl, fun h => absurd h (show ¬ (1 : Int) = 2 by decide)⟩
    | exact ⟨_, rfl, fun _ => rfl, fun h => absurd h (show ¬ (0 : Int) = 2 by decide)⟩
    | exact ⟨_, rfl, fun _ => rfl, fun h => absurd h (show ¬ (3 : Int) = 2 by decide)⟩
    | exact ⟨_, rfl, fun h => absurd rfl h, fun h => absurd h (show ¬ (0 : Int) = 2 by decide)⟩
    | exact ⟨_, rfl, fun h => absurd rfl h, fun h => absurd h (show ¬ (3 : Int) = 2 by decide)⟩
theorem take_keep (M : MSt) (f : S44) (hst : okT M) (hw : okW M) : (takeM M f).2.s = M.s ∧ (takeM M f).2.broke = M.broke ∧ (∀ g ∈ (takeM M f).2.ahead, g ∈ M.ahead) ∧ okT (takeM M f).2 ∧ okW (takeM M f).2 := by
  refine ⟨?_, ?_, ?_, take_ok hst f, ?_⟩
  · unfold takeM; repeat' split
    all_goals rfl
  · unfold takeM; repeat' split
    all_goals rfl
  · unfold takeM; repeat' split
    all_goals (intro g hg; first | exact hg | cases hg)
  · unfold okW at *
    unfold takeM; repeat' split
    all_goals first
      | exact hw
      | exact .inr (.inl rfl)
      | exact .inr (.inr (.inr (.inl rfl)))
      | exact .inr (.inr (.inr (.inr (.inr rfl))))
theorem dcode_open {wd : Int} {st : Nat} (h : dcode wd st = 0 ∨ dcode wd st = 2 ∨ dcode wd st = 6) : wd = 0 := by
  unfold dcode at h
  repeat' split at h
  all_goals first | assumption | omega
theorem dcode_zero {st : Nat} : dcode 0 st = 0 ∨ dcode 0 st = 2 ∨ dcode 0 st = 6 := by
  unfold dcode
  rw [if_pos rfl]
  repeat' split
  all_goals simp
theorem sim_go : ∀ (r : List S44) (M : MSt) (tx : ByteArray), M.ahead = r → okT M → okW M → (∀ f ∈ r, okG f) → (M.wd ≠ 5 → tx = M.text) →
    ∃ tx', dgoL (dOf M tx) r = ((goL M r).1, dOf (goL M r).2 tx') ∧ ((goL M r).2.wd ≠ 5 → tx' = (goL M r).2.text) ∧ (goL M r).2.s = M.s ∧ (goL M r).2.broke = M.broke ∧ (∀ g ∈ (goL M r).2.ahead, g ∈ r) ∧ okT (goL M r).2 ∧ okW (goL M r).2 := by
  intro r
  induction r with
  | nil => intro M tx ha ht hw hf hx; exact ⟨tx, rfl, hx, rfl, rfl, fun g hg => by have hg : g ∈ M.ahead := hg; rw [ha] at hg; exact hg, ht, hw⟩
  | cons f r ih =>
    intro M tx ha ht hw hf hx
    by_cases h0 : M.wd = 0
    · obtain rfl := hx (by omega)
      obtain ⟨tx1, h1, h2, h3⟩ := sim_take { M with ahead := r } f h0 ht (hf f (List.mem_cons_self ..))
      obtain ⟨k1, k2, k3, k4, k5⟩ := take_keep { M with ahead := r } f ht hw
      obtain ⟨d, M1, hp⟩ : ∃ d M1, takeM { M with ahead := r } f = (d, M1) := ⟨_, _, rfl⟩
      rw [hp] at h1 h2 h3 k1 k2 k3 k4 k5
      have h1 : dtake { dOf M M.text with ahead := r } f = (d, dOf M1 tx1) := h1
      have hopen : (dOf M M.text).code = 0 ∨ (dOf M M.text).code = 2 ∨ (dOf M M.text).code = 6 := by show dcode M.wd M.st = 0 ∨ dcode M.wd M.st = 2 ∨ dcode M.wd M.st = 6; rw [h0]; exact dcode_zero
      rw [goL_one h0 hp]
      have hd : dgoL (dOf M M.text) (f :: r) = if d = 0 then dgoL (dOf M1 tx1) r else if d = 2 then ((2, tx1), dOf M1 tx1) else ((d, ⟨#[]⟩), dOf M1 tx1) := by
        conv => lhs; unfold dgoL
        rw [if_pos hopen, h1]
        rfl
      rw [hd]
      by_cases d0 : d = 0
      · rw [if_pos d0, if_pos d0]
        by_cases hM : M1.wd = 0
        · have hma : M1.ahead = r := by
            have := take_zero { M with ahead := r } f (by rw [hp]; exact d0) (by rw [hp]; exact hM)
            rw [hp] at this
            exact this
          obtain ⟨tx', e1, e2, e3, e4, e5, e6, e7⟩ := ih M1 tx1 hma k4 k5 (fun g hg => hf g (List.mem_cons_of_mem _ hg)) h2
          exact ⟨tx', e1, e2, e3.trans k1, e4.trans k2, fun g hg => List.mem_cons_of_mem _ (e5 g hg), e6, e7⟩
        · have hg1 : goL M1 r = ((0, ⟨#[]⟩), M1) := by cases r with | nil => rfl | cons f2 r2 => unfold goL; rw [if_neg hM]
          have hg2 : dgoL (dOf M1 tx1) r = ((0, ⟨#[]⟩), dOf M1 tx1) := by cases r with | nil => rfl | cons f2 r2 => unfold dgoL; rw [if_neg (show ¬ ((dOf M1 tx1).code = 0 ∨ (dOf M1 tx1).code = 2 ∨ (dOf M1 tx1).code = 6) from fun h => hM (dcode_open h))]
          rw [hg1, hg2]
          exact ⟨tx1, rfl, h2, k1, k2, fun g hg => List.mem_cons_of_mem _ (k3 g hg), k4, k5⟩
      · rw [if_neg d0, if_neg d0]
        by_cases d2 : d = 2
        · rw [if_pos d2, if_pos d2, h3 d2]
          exact ⟨f.f1, rfl, fun h => by rw [← h3 d2]; exact h2 h, k1, k2, fun g hg => List.mem_cons_of_mem _ (k3 g hg), k4, k5⟩
        · rw [if_neg d2, if_neg d2]
          exact ⟨tx1, rfl, h2, k1, k2, fun g hg => List.mem_cons_of_mem _ (k3 g hg), k4, k5⟩
    · have hg1 : goL M (f :: r) = ((0, ⟨#[]⟩), M) := by unfold goL; rw [if_neg h0]
      have hg2 : dgoL (dOf M tx) (f :: r) = ((0, ⟨#[]⟩), dOf M tx) := by unfold dgoL; rw [if_neg (show ¬ ((dOf M tx).code = 0 ∨ (dOf M tx).code = 2 ∨ (dOf M tx).code = 6) from fun h => h0 (dcode_open h))]
      rw [hg1, hg2]
      exact ⟨tx, rfl, hx, rfl, rfl, fun g hg => by have hg : g ∈ M.ahead := hg; rw [ha] at hg; exact hg, ht, hw⟩
theorem dc {M : MSt} (h : okW M) : (dcode M.wd M.st = 1 ↔ M.wd = 1) ∧ (dcode M.wd M.st = 3 ↔ M.wd = 2) ∧ (dcode M.wd M.st = 4 ↔ M.wd = 3) ∧ (dcode M.wd M.st = 5 ↔ M.wd = 4) ∧ (dcode M.wd M.st = 7 ↔ M.wd = 5) ∧ (dcode M.wd M.st = 2 ↔ M.wd = 0 ∧ M.st = 76) := by
  unfold okW at h
  unfold dcode
  refine ⟨?_, ?_, ?_, ?_, ?_, ?_⟩
  all_goals (repeat' split)
  all_goals first | omega | (constructor <;> intro h1 <;> omega) | simp_all
/-- The document's session dOf M tx and the program's M stand alike. -/
def Sim (M : MSt) (tx : ByteArray) : Prop := G M ∧ (M.wd ≠ 5 → tx = M.text)
theorem sim_next {M : MSt} {tx : ByteArray} (h : Sim M tx) : ∃ tx', dnext (dOf M tx) = ((nextM M).1, dOf (nextM M).2 tx') ∧ Sim (nextM M).2 tx' := by
  obtain ⟨g, hx⟩ := h
  obtain ⟨c1, c3, c4, c5, c7, c2⟩ := dc g.w
  unfold dnext nextM
  by_cases h2 : M.wd = 2
  · rw [if_pos (show (dOf M tx).code = 3 from c3.2 h2), if_pos h2]
    obtain rfl := hx (by omega)
    exact ⟨M.text, rfl, g.of rfl rfl (fun f hf => hf) (.inr (.inr (.inr (.inl rfl)))) g.t, fun _ => rfl⟩
  · rw [if_neg (show ¬ (dOf M tx).code = 3 from fun h => h2 (c3.1 h)), if_neg h2]
    by_cases h4 : M.wd = 4
    · rw [if_pos (show (dOf M tx).code = 5 from c5.2 h4), if_pos h4]
      exact ⟨tx, rfl, g.of rfl rfl (fun f hf => hf) (.inl rfl) (.inl rfl), fun _ => hx (by omega)⟩
    · rw [if_neg (show ¬ (dOf M tx).code = 5 from fun h => h4 (c5.1 h)), if_neg h4]
      obtain ⟨tx', e1, e2, e3, e4, e5, e6, e7⟩ := sim_go M.ahead M tx rfl g.t g.w g.fr hx
      exact ⟨tx', e1, g.of e3 e4 e5 e7 e6, e2⟩
theorem sim_got {M : MSt} {tx : ByteArray} (h : Sim M tx) : dgot (dOf M tx) = ((gotM M).1, dOf (gotM M).2 tx) ∧ Sim (gotM M).2 tx := by
  obtain ⟨g, hx⟩ := h
  obtain ⟨c1, c3, c4, c5, c7, c2⟩ := dc g.w
  unfold dgot gotM
  by_cases h1 : M.wd = 1
  · rw [if_pos (show (dOf M tx).code = 1 from c1.2 h1), if_pos h1]
    by_cases ha : M.alone = true
    · rw [if_pos (show (dOf M tx).alone = true from ha), if_pos ha]
      exact ⟨rfl, g.of rfl rfl (fun f hf => hf) (.inr (.inr (.inl rfl))) g.t, fun _ => hx (by omega)⟩
    · rw [if_neg (show ¬ (dOf M tx).alone = true from ha), if_neg ha]
      exact ⟨rfl, g.of rfl rfl (fun f hf => hf) (.inl rfl) (.inr (.inl rfl)), fun _ => hx (by omega)⟩
  · rw [if_neg (show ¬ (dOf M tx).code = 1 from fun h => h1 (c1.1 h)), if_neg h1]
    exact ⟨rfl, g, hx⟩
theorem sim_answer {M : MSt} {tx : ByteArray} (h : Sim M tx) (t : ByteArray) : danswer (dOf M tx) t = ((answerM M t).1, dOf (answerM M t).2 tx) ∧ Sim (answerM M t).2 tx := by
  obtain ⟨g, hx⟩ := h
  obtain ⟨c1, c3, c4, c5, c7, c2⟩ := dc g.w
  unfold danswer answerM
  by_cases h1 : M.wd = 3
  · rw [if_pos (show (dOf M tx).code = 4 from c4.2 h1), if_pos h1]
    by_cases ha : M.alone = true
    · rw [if_pos (show (dOf M tx).alone = true from ha), if_pos ha]
      exact ⟨rfl, g.of rfl rfl (fun f hf => hf) (.inr (.inr (.inr (.inr (.inl rfl))))) (.inr (.inl rfl)), fun _ => hx (by omega)⟩
    · rw [if_neg (show ¬ (dOf M tx).alone = true from ha), if_neg ha]
      exact ⟨rfl, g.of rfl rfl (fun f hf => hf) (.inl rfl) (.inr (.inl rfl)), fun _ => hx (by omega)⟩
  · rw [if_neg (show ¬ (dOf M tx).code = 4 from fun h => h1 (c4.1 h)), if_neg h1]
    exact ⟨rfl, g, hx⟩
theorem sim_turn {M : MSt} {tx : ByteArray} (h : Sim M tx) (r : S42) : dturn (dOf M tx) r = ((turnM M r).1, dOf (turnM M r).2 tx) ∧ Sim (turnM M r).2 tx := by
  obtain ⟨g, hx⟩ := h
  obtain ⟨c1, c3, c4, c5, c7, c2⟩ := dc g.w
  unfold dturn turnM
  by_cases ho : turnOk r
  · rw [if_pos ho, if_pos ho]
    by_cases h1 : M.wd = 1
    · rw [if_pos (show (dOf M tx).code = 1 from c1.2 h1), if_pos h1]
      exact ⟨rfl, g.of rfl rfl (fun f hf => hf) (.inl rfl) (.inl rfl), fun _ => hx (by omega)⟩
    · rw [if_neg (show ¬ (dOf M tx).code = 1 from fun h => h1 (c1.1 h)), if_neg h1]
      exact ⟨rfl, g, hx⟩
  · rw [if_neg ho, if_neg ho]
    exact ⟨rfl, g, hx⟩
theorem sim_lost {M : MSt} {tx : ByteArray} (h : Sim M tx) : dlost (dOf M tx) = ((lostM M).1, dOf (lostM M).2 tx) ∧ Sim (lostM M).2 tx := by
  obtain ⟨g, hx⟩ := h
  obtain ⟨c1, c3, c4, c5, c7, c2⟩ := dc g.w
  unfold dlost lostM
  by_cases h2 : M.wd = 0 ∧ M.st = 76
  · rw [if_pos (show (dOf M tx).code = 2 from c2.2 h2), if_neg (by omega), if_neg (by omega), if_pos h2]
    refine ⟨?_, g.of rfl rfl (fun f hf => hf) g.w (.inr (.inr rfl)), fun _ => hx (by omega)⟩
    show ((0 : Int), ({ dOf M tx with code := 6 } : DSt)) = (0, dOf { M with st := 81 } tx)
    unfold dOf
    show ((0 : Int), (⟨_, _, _, 6, _, _, _⟩ : DSt)) = (0, ⟨_, _, _, dcode M.wd 81, _, _, _⟩)
    rw [h2.1]
    rfl
  · rw [if_neg (show ¬ (dOf M tx).code = 2 from fun h => h2 (c2.1 h))]
    by_cases h3 : M.wd = 2 ∨ M.wd = 3
    · rw [if_pos (show (dOf M tx).code = 3 ∨ (dOf M tx).code = 4 from h3.elim (fun h => .inl (c3.2 h)) (fun h => .inr (c4.2 h))), if_pos h3]
      exact ⟨rfl, g.of rfl rfl (fun f hf => hf) (.inl rfl) (.inl rfl), fun _ => hx (by omega)⟩
    · rw [if_neg (show ¬ ((dOf M tx).code = 3 ∨ (dOf M tx).code = 4) from fun h => h3 (h.elim (fun h => .inl (c3.1 h)) (fun h => .inr (c4.1 h)))), if_neg h3]
      by_cases h4 : M.wd = 4
      · rw [if_pos (show (dOf M tx).code = 5 from c5.2 h4), if_pos h4]
        exact ⟨rfl, g.of rfl rfl (fun f hf => hf) (.inl rfl) (.inl rfl), fun _ => hx (by omega)⟩
      · rw [if_neg (show ¬ (dOf M tx).code = 5 from fun h => h4 (c5.1 h)), if_neg h4, if_neg h2]
        exact ⟨rfl, g, hx⟩
theorem sim_hang {M : MSt} {tx : ByteArray} (h : Sim M tx) : dend (dOf M tx) = dOf (hangM M) ⟨#[]⟩ ∧ Sim (hangM M) ⟨#[]⟩ :=
  ⟨rfl, h.1.of rfl rfl (fun f hf => by cases hf) (.inr (.inr (.inr (.inr (.inr rfl))))) h.1.t, fun h => absurd rfl h⟩
theorem sim_replies {M : MSt} {tx : ByteArray} (h : Sim M tx) : ({ dOf M tx with told := [] } : DSt) = dOf { M with told := [] } tx ∧ Sim { M with told := [] } tx :=
  ⟨rfl, h.1.of rfl rfl (fun f hf => hf) h.1.w h.1.t, h.2⟩
theorem okG_app {a b : List S44} (ha : ∀ f ∈ a, okG f) (hb : ∀ f ∈ b, okG f) : ∀ f ∈ a ++ b, okG f := fun f hf => (List.mem_append.1 hf).elim (ha f) (hb f)
theorem step_okG (s : RS) (c : Int) (h : ∀ f ∈ s.out, okG f) : ∀ f ∈ (stepS s c).out, okG f := by
  have one : ∀ x : S44, okG x → ∀ f ∈ s.out ++ [x], okG f := fun x hx => okG_app h (fun f hf => by rw [List.mem_singleton] at hf; exact hf ▸ hx)
  unfold stepS
  split
  · split
    · rename_i hc
      exact one _ (hc.elim (fun h => .inl ⟨h, rfl⟩) (fun h => .inr (.inr (.inl h))))
    · exact h
  · split
    · split
      · exact one _ (.inr (.inl rfl))
      · exact h
    · split
      · split
        · exact one _ (.inr (.inl rfl))
        · exact h
      · exact h
theorem run_okG : ∀ (l : List Int) (s : RS), (∀ f ∈ s.out, okG f) → ∀ f ∈ (runS s l).out, okG f := by
  intro l
  induction l with
  | nil => intro s h; exact h
  | cons c r ih => intro s h; exact ih (stepS s c) (step_okG s c h)
theorem step_tl (s : RS) (c : Int) (ho : okS s) (h : s.text.length ≤ 1000) : (stepS s c).text.length ≤ 1000 := by
  unfold stepS
  repeat' split
  all_goals first
    | exact h
    | exact Nat.zero_le _
    | (have h2 := ho.2 (by assumption); simp only [List.length_append, List.length_cons, List.length_nil]; omega)
theorem run_tl : ∀ (l : List Int) (s : RS), okS s → (∀ x ∈ l, 0 ≤ x ∧ x < 256) → s.text.length ≤ 1000 → (runS s l).text.length ≤ 1000 := by
  intro l
  induction l with
  | nil => intro s _ _ h; exact h
  | cons c r ih => intro s ho hb h; exact ih (stepS s c) (step_ok ho (hb c (List.mem_cons_self ..)).1) (fun x hx => hb x (List.mem_cons_of_mem _ hx)) (step_tl s c ho h)
theorem sim_feed {M : MSt} {tx : ByteArray} (h : Sim M tx) (a : ByteArray) (ha : a.size ≤ 2000) :
    ∃ fr B2 bad2, stopcockref09_Reader_Feed.f 40000 (dOf M tx).B (dOf M tx).bad a = some (fr, B2, bad2) ∧ fr.length ≤ 2000 ∧ dfeedD (dOf M tx) fr B2 bad2 = ((feedM M (nums a)).1, dOf (feedM M (nums a)).2 tx) ∧ Sim (feedM M (nums a)).2 tx := by
  obtain ⟨g, hx⟩ := h
  obtain ⟨c1, c3, c4, c5, c7, c2⟩ := dc g.w
  obtain ⟨hfe, hby⟩ := feed_ref M.s g.ok g.out g.by_ a (by omega)
  have hlen := run_out_len (nums a) M.s
  rw [g.out, nums_len] at hlen
  refine ⟨_, _, _, hfe, by simp at hlen; omega, ?_⟩
  unfold dfeedD feedM
  by_cases h7 : M.wd = 5
  · rw [if_pos (show (dOf M tx).code = 7 from c7.2 h7), if_pos h7]
    exact ⟨rfl, g, hx⟩
  · rw [if_neg (show ¬ (dOf M tx).code = 7 from fun h => h7 (c7.1 h)), if_neg h7]
    by_cases h4 : 4 ≤ M.ahead.length
    · rw [if_pos (show 4 ≤ (dOf M tx).ahead.length from h4), if_pos h4]
      exact ⟨rfl, g, hx⟩
    · rw [if_neg (show ¬ 4 ≤ (dOf M tx).ahead.length from h4), if_neg h4]
      have hok := run_okS g.ok (nums a) (nums_by a)
      have htl := run_tl (nums a) M.s g.ok (nums_by a) g.tl
      have hfr := run_okG (nums a) M.s (fun f hf => by rw [g.out] at hf; cases hf)
      obtain ⟨R, hR⟩ : ∃ R, R = runS M.s (nums a) := ⟨_, rfl⟩
      rw [← hR] at hby hok htl hfr ⊢
      by_cases hc : R.at_ = 3 ∧ M.broke = false
      · rw [if_pos hc]
        have hbad : (dOf M tx).bad = false := by show decide (M.s.at_ = 3) = false; rw [← g.br]; exact hc.2
        refine ⟨?_, ⟨g.w, g.t, ?_, hby, htl, ?_, hok, rfl⟩, hx⟩
        · unfold dfed
          rw [if_pos ⟨decide_eq_true hc.1, hbad⟩]
          rfl
        · show true = decide (R.at_ = 3)
          rw [decide_eq_true hc.1]
        · exact okG_app (okG_app g.fr hfr) (fun f hf => by rw [List.mem_singleton] at hf; rw [hf]; exact .inr (.inr (.inr rfl)))
      · rw [if_neg hc]
        have hbr : M.broke = decide (R.at_ = 3) := by
          cases hb : M.broke with
          | false => rw [hb] at hc; rw [decide_eq_false (fun h => hc ⟨h, rfl⟩)]
          | true =>
            have h3 : M.s.at_ = 3 := by have := g.br; rw [hb] at this; exact of_decide_eq_true this.symm
            rw [hR, St.run_stuck M.s h3, decide_eq_true h3]
        refine ⟨?_, ⟨g.w, g.t, hbr, hby, htl, okG_app g.fr hfr, hok, rfl⟩, hx⟩
        unfold dfed
        rw [if_neg (fun h => hc ⟨of_decide_eq_true h.1, by have : decide (M.s.at_ = 3) = false := h.2; rw [g.br]; exact this⟩), List.append_nil]
        rfl
theorem sim_start : Sim M0 ⟨#[]⟩ := by
  refine ⟨⟨.inl rfl, .inl rfl, rfl, ?_, by decide, ?_, ⟨.inl rfl, ?_⟩, rfl⟩, fun _ => rfl⟩
  · intro x hx; cases hx
  · intro f hf; cases hf
  · intro h; cases h
def D0 : DSt := ⟨⟨#[]⟩, false, [], 0, false, ⟨#[]⟩, []⟩
theorem D0_e : dOf M0 ⟨#[]⟩ = D0 := rfl
theorem take_len (M : MSt) (f : S44) : (takeM M f).2.told.length + (takeM M f).2.ahead.length ≤ M.told.length + M.ahead.length + 1 := by
  unfold takeM
  repeat' split
  all_goals simp [waitM, tellM, setSt, sentM, hangM] <;> omega
theorem goL_len : ∀ (r : List S44) (M : MSt), M.ahead = r → (goL M r).2.told.length + (goL M r).2.ahead.length ≤ M.told.length + r.length := by
  intro r
  induction r with
  | nil => intro M h; show M.told.length + M.ahead.length ≤ _; rw [h]; exact Nat.le_refl _
  | cons f r ih =>
    intro M h
    by_cases h0 : M.wd = 0
    · obtain ⟨d, M1, hp⟩ : ∃ d M1, takeM { M with ahead := r } f = (d, M1) := ⟨_, _, rfl⟩
      have hl := take_len { M with ahead := r } f
      have hz := take_zero { M with ahead := r } f
      rw [hp] at hl hz
      have hl : M1.told.length + M1.ahead.length ≤ M.told.length + r.length + 1 := hl
      rw [goL_one h0 hp]
      split
      · rename_i d0
        by_cases hM : M1.wd = 0
        · have hma : M1.ahead = r := hz d0 hM
          have := ih M1 hma
          rw [hma] at hl
          simp only [List.length_cons]
          omega
        · have hg1 : goL M1 r = ((0, ⟨#[]⟩), M1) := by cases r with | nil => rfl | cons f2 r2 => unfold goL; rw [if_neg hM]
          rw [hg1]
          simp only [List.length_cons]
          omega
      · split <;> (simp only [List.length_cons]; omega)
    · have hg1 : goL M (f :: r) = ((0, ⟨#[]⟩), M) := by unfold goL; rw [if_neg h0]
      rw [hg1]
      show M.told.length + M.ahead.length ≤ _
      rw [h]
      exact Nat.le_refl _
theorem next_len (M : MSt) : (nextM M).2.told.length + (nextM M).2.ahead.length ≤ M.told.length + M.ahead.length := by
  unfold nextM
  split
  · exact Nat.le_refl _
  · split
    · exact Nat.le_refl _
    · exact goL_len M.ahead M rfl
theorem feed_len (M : MSt) (l : List Int) (ho : M.s.out = []) : (feedM M l).2.told.length + (feedM M l).2.ahead.length ≤ M.told.length + M.ahead.length + l.length + 1 := by
  have := run_out_len l M.s
  rw [ho] at this
  simp only [List.length_nil] at this
  unfold feedM
  repeat' split
  all_goals first
    | omega
    | (simp only [List.length_append, List.length_cons, List.length_nil]; omega)
theorem same_from (l : List S42) (hl : l.length ≤ 1000000000) (d : Nat) : ∀ (k i : Nat), l.length - i = d → i ≤ l.length → d < k → stopcockref19_Same.l0 k l l (l.length : Int) (i : Int) = some true := by
  induction d with
  | zero =>
    intro k i hd hi hk
    obtain ⟨k, rfl⟩ : ∃ m, k = m + 1 := ⟨k - 1, by omega⟩
    simp only [stopcockref19_Same.l0]
    rw [if_neg (by omega)]
  | succ d ih =>
    intro k i hd hi hk
    obtain ⟨k, rfl⟩ : ∃ m, k = m + 1 := ⟨k - 1, by omega⟩
    simp only [stopcockref19_Same.l0]
    rw [if_pos (by omega), if_pos (by omega), if_pos (by omega), if_pos (by omega), if_neg (by simp)]
    rw [show wrap64 ((i : Int) + 1) = ((i + 1 : Nat) : Int) by unfold wrap64; omega]
    exact ih k (i + 1) (by omega) (by omega) (by omega)
theorem same_refl (l : List S42) (hl : l.length ≤ 1000000000) : stopcockref19_Same.f (l.length + 1) l l = some true := by
  unfold stopcockref19_Same.f
  rw [if_pos rfl]
  exact same_from l hl l.length (l.length + 1) 0 (by omega) (by omega) (by omega)
/-- A call of the script. -/
structure S59 where
  d : Int
  s : ByteArray
  r : S42
def z59 : S59 := ⟨0, ⟨#[]⟩, z42⟩
def k59 : Kd S59 := Kd.iso (Kd.pair (Kd.int .i64) (Kd.pair Kd.string k42)) (fun x : S59 => (x.d, x.s, x.r))
def c59 (x : S59) : List Value := [.int .i64 x.d, .string x.s, .int .i64 x.r.f0, .int .i64 x.r.f1, .string x.r.f2]
theorem k59_open {w : World} {x : S59} {cs : List Value} (h : k59.K w x cs) : cs = c59 x := by
  obtain ⟨_, _, rfl, rfl, _, _, rfl, rfl, h2⟩ := h
  rw [k42_open h2]
  rfl
def rd59 (xs : List S59) (i : Nat) : S59 := xs.getD i z59
theorem at59 {w : World} {A : Option Addr} {n : Nat} {xs : List S59} (h : Kd.C k59 w A n xs) (i : Nat) (h1 : i < n) : ∃ ad, A = some ad ∧ w.cell? (ad.add (i * 5)) = some (.int .i64 (rd59 xs i).d) ∧ w.cell? ⟨(ad.add (i * 5)).block, (ad.add (i * 5)).off + 1, none⟩ = some (.string (rd59 xs i).s) ∧ w.cell? ⟨(ad.add (i * 5)).block, (ad.add (i * 5)).off + 2, none⟩ = some (.int .i64 (rd59 xs i).r.f0) ∧ w.cell? ⟨(ad.add (i * 5)).block, (ad.add (i * 5)).off + 3, none⟩ = some (.int .i64 (rd59 xs i).r.f1) ∧ w.cell? ⟨(ad.add (i * 5)).block, (ad.add (i * 5)).off + 4, none⟩ = some (.string (rd59 xs i).r.f2) := by
  obtain ⟨ad, c, e, _, hK, hc0⟩ := Kd.C_get h z59 (i : Int) (by omega) (by omega)
  rw [Int.toNat_natCast] at hK hc0
  have hc : ∀ j u, c[j]? = some u → w.cell? (ad.add (i * 5 + j)) = some u := hc0
  obtain rfl := k59_open hK
  exact ⟨ad, e, hc 0 _ rfl, by rw [← add_field _ _ 1 (by omega)]; exact hc 1 _ rfl, by rw [← add_field _ _ 2 (by omega)]; exact hc 2 _ rfl, by rw [← add_field _ _ 3 (by omega)]; exact hc 3 _ rfl, by rw [← add_field _ _ 4 (by omega)]; exact hc 4 _ rfl⟩
/-- The program's session and the document's, on blocks of their own; none is one of P's. -/
def Duo (P : Nat → Prop) (b : Nat) (w : World) (g gx : Nat) (M : MSt) (D : DSt) : Prop :=
  ∃ S T : Nat → Prop, MX S b w g M ∧ DX T b w gx D ∧ (∀ k, S k → ¬ T k) ∧ (∀ k, P k → k < w.heap.size ∧ ¬ S k ∧ ¬ T k)
section
variable {P Q : Nat → Prop} {b g gx : Nat} {w w1 : World} {M : MSt} {D : DSt}
theorem Duo.prog (h : Duo P b w g gx M D) : ∃ S, MX S b w g M ∧ ∀ w' M', Goes S b w g w' M' → Duo P b w' g gx M' D ∧ (∀ k, P k → w'.heap[k]? = w.heap[k]?) ∧ Below b w w' := by
  obtain ⟨S, T, hm, hd, hst, hp⟩ := h
  refine ⟨S, hm, fun w' M' ⟨S', a1, a2, a3, a4⟩ => ⟨⟨S', T, a2, hd.far a3.1 (fun k hk hl => a3.2 k hl (fun h => hst k h hk)), fun k hk ht => (a1 k hk).elim (fun h => hst k h ht) (fun h => Nat.not_lt.2 h (hd.1 k ht)), fun k hk => ⟨Nat.lt_of_lt_of_le (hp k hk).1 a3.1, fun hs => (a1 k hs).elim (hp k hk).2.1 (fun h => Nat.not_lt.2 h (hp k hk).1), (hp k hk).2.2⟩⟩, fun k hk => a3.2 k (hp k hk).1 (hp k hk).2.1, a4⟩⟩
theorem Duo.doc (h : Duo P b w g gx M D) : ∃ T, DX T b w gx D ∧ ∀ w' D', DGoes T b w gx w' D' → Duo P b w' g gx M D' ∧ (∀ k, P k → w'.heap[k]? = w.heap[k]?) ∧ Below b w w' := by
  obtain ⟨S, T, hm, hd, hst, hp⟩ := h
  refine ⟨T, hd, fun w' D' ⟨T', a1, a2, a3, a4⟩ => ⟨⟨S, T', hm.far a3.1 (fun k hk hl => a3.2 k hl (hst k hk)), a2, fun k hk ht => (a1 k ht).elim (hst k hk) (fun h => Nat.not_lt.2 h (hm.1 k hk)), fun k hk => ⟨Nat.lt_of_lt_of_le (hp k hk).1 a3.1, (hp k hk).2.1, fun ht => (a1 k ht).elim (hp k hk).2.2 (fun h => Nat.not_lt.2 h (hp k hk).1)⟩⟩, fun k hk => a3.2 k (hp k hk).1 (hp k hk).2.2, a4⟩⟩
theorem Duo.below (h : Duo P b w g gx M D) (hb : Below w.heap.size w w1) : Duo P b w1 g gx M D := by
  obtain ⟨S, T, hm, hd, hst, hp⟩ := h
  exact ⟨S, T, hm.step hb, hd.step hb, hst, fun k hk => ⟨Nat.lt_of_lt_of_le (hp k hk).1 hb.size, (hp k hk).2⟩⟩
/-- Blocks that neither session has are changed. -/
theorem Duo.put (h : Duo P b w g gx M D) (hz : w.heap.size ≤ w1.heap.size) (hk : ∀ k, k < w.heap.size → ¬ P k → w1.heap[k]? = w.heap[k]?) : Duo P b w1 g gx M D := by
  obtain ⟨S, T, hm, hd, hst, hp⟩ := h
  exact ⟨S, T, hm.far hz (fun k hs hl => hk k hl (fun h => (hp k h).2.1 hs)), hd.far hz (fun k ht hl => hk k hl (fun h => (hp k h).2.2 ht)), hst, fun k hk => ⟨Nat.lt_of_lt_of_le (hp k hk).1 hz, (hp k hk).2⟩⟩
/-- A new block is watched, too. -/
theorem Duo.watch (h : Duo P b w g gx M D) (hb : Below w.heap.size w w1) (hq : ∀ k, Q k → P k ∨ (w.heap.size ≤ k ∧ k < w1.heap.size)) : Duo Q b w1 g gx M D := by
  obtain ⟨S, T, hm, hd, hst, hp⟩ := h
  exact ⟨S, T, hm.step hb, hd.step hb, hst, fun k hk => (hq k hk).elim (fun h => ⟨Nat.lt_of_lt_of_le (hp k h).1 hb.size, (hp k h).2⟩) (fun h => ⟨h.2, fun hs => Nat.not_lt.2 h.1 (hm.1 k hs), fun ht => Nat.not_lt.2 h.1 (hd.1 k ht)⟩)⟩
theorem Duo.base (h : Duo P b w g gx M D) : b ≤ w.heap.size := by
  obtain ⟨S, T, hm, _⟩ := h
  exact hm.2.1
end
theorem blk_setF {w : World} {g : Nat} {t : TypeId} {cs : Array Value} {fr : Nat × Nat} (h : w.heap[g]? = some (.cells cs t fr)) (i : Nat) (u : Value) : (w.setCell ⟨g, i, none⟩ u).heap[g]? = some (.cells (cs.setIfInBounds i u) t fr) := by
  simp [World.setCell, Array.getElem?_modify, h]
theorem bw_row2 (W : World) (s : ByteArray) : ∃ rest lo hi, (Lib.bytesWorld W 5 s).heap[W.heap.size]? = some (.cells ((St.nums s).map (Value.int .u8) ++ rest).toArray 5 (lo, hi)) ∧ s.size ≤ lo := by
  refine ⟨(List.replicate (grownCap W s.size 0 5 - s.size) (.int .u8 0)), (Lib.bytesCells W 5 s).size, (Lib.bytesCells W 5 s).size + 1, ?_, ?_⟩
  · rw [Lib.bytesWorld_at_new]
    congr 2
    apply Array.ext'
    simp only [Lib.bytesCells, St.nums, Array.toList_append, Array.toList_map, Array.toList_replicate, List.map_map, List.toList_toArray]
    rfl
  · simp only [Lib.bytesCells, Array.size_append, Array.size_map]
    exact Nat.le_add_right _ _
theorem blk_some {w : World} {g : Nat} {t : TypeId} {cs : Array Value} {fr : Nat × Nat} (h : w.heap[g]? = some (.cells cs t fr)) (i : Nat) (hi : i < cs.size) : ∃ u, w.cell? ⟨g, i, none⟩ = some u :=
  ⟨_, (cell_of_row w g i cs t fr h).trans (Array.getElem?_eq_getElem hi)⟩
theorem blk_froz {w : World} {g : Nat} {t : TypeId} {cs : Array Value} {lo hi : Nat} (h : w.heap[g]? = some (.cells cs t (lo, hi))) (i : Nat) (hi : i < lo) : w.frozen? ⟨g, i, none⟩ = false := by
  simp [World.frozen?, h]
  omega
def Blk (t n : Nat) (q : Nat) (w : World) : Prop := ∃ cs lo hi, w.heap[q]? = some (.cells cs t (lo, hi)) ∧ n ≤ cs.size ∧ (n ≤ lo ∨ hi = 0)
theorem Blk.cell {t n q : Nat} {w : World} (h : Blk t n q w) (i : Nat) (hi : i < n) : (∃ u, w.cell? ⟨q, i, none⟩ = some u) ∧ w.frozen? ⟨q, i, none⟩ = false := by
  obtain ⟨cs, lo, hi', hb, h1, h2⟩ := h
  refine ⟨blk_some hb i (by omega), ?_⟩
  simp [World.frozen?, hb]
  omega
theorem Blk.set {t n q : Nat} {w : World} (h : Blk t n q w) (g i : Nat) (u : Value) : Blk t n q (w.setCell ⟨g, i, none⟩ u) := by
  obtain ⟨cs, lo, hi', hb, h1, h2⟩ := h
  by_cases e : q = g
  · subst e
    exact ⟨_, lo, hi', blk_setF hb i u, by simpa using h1, h2⟩
  · exact ⟨cs, lo, hi', (Below.heap_setCell w ⟨g, i, none⟩ u q e).trans hb, h1, h2⟩
theorem Blk.heap {t n q : Nat} {w w1 : World} (h : Blk t n q w) (e : w1.heap[q]? = w.heap[q]?) : Blk t n q w1 := by
  obtain ⟨cs, lo, hi', hb, h1, h2⟩ := h
  exact ⟨cs, lo, hi', e.trans hb, h1, h2⟩
theorem Duo.prog' {P : Nat → Prop} {b g gx : Nat} {w : World} {M : MSt} {D : DSt} (h : Duo P b w g gx M D) : ∃ S, (MX S b w g M ∧ ∀ k, P k → ¬ S k) ∧ ∀ w' M', Goes S b w g w' M' → Duo P b w' g gx M' D ∧ (∀ k, P k → w'.heap[k]? = w.heap[k]?) ∧ Below b w w' := by
  obtain ⟨S, T, hm, hd, hst, hp⟩ := h
  refine ⟨S, ⟨hm, fun k hk => (hp k hk).2.1⟩, fun w' M' ⟨S', a1, a2, a3, a4⟩ => ⟨⟨S', T, a2, hd.far a3.1 (fun k hk hl => a3.2 k hl (fun h => hst k h hk)), fun k hk ht => (a1 k hk).elim (fun h => hst k h ht) (fun h => Nat.not_lt.2 h (hd.1 k ht)), fun k hk => ⟨Nat.lt_of_lt_of_le (hp k hk).1 a3.1, fun hs => (a1 k hs).elim (hp k hk).2.1 (fun h => Nat.not_lt.2 h (hp k hk).1), (hp k hk).2.2⟩⟩, fun k hk => a3.2 k (hp k hk).1 (hp k hk).2.1, a4⟩⟩
/-- The session that is spoilt, its clone, the document's session. -/
def Trio (b : Nat) (w : World) (g g2 gx : Nat) (Mo M : MSt) (D : DSt) : Prop :=
  ∃ S S2 T : Nat → Prop, MX S b w g Mo ∧ MX S2 b w g2 M ∧ DX T b w gx D ∧ (∀ k, S2 k → ¬ S k) ∧ (∀ k, T k → ¬ S k) ∧ (∀ k, S2 k → ¬ T k)
theorem Trio.old {b g g2 gx : Nat} {w : World} {Mo M : MSt} {D : DSt} (h : Trio b w g g2 gx Mo M D) : ∃ S, MX S b w g Mo ∧ ∀ w' Mo', Goes S b w g w' Mo' → Trio b w' g g2 gx Mo' M D ∧ Below b w w' := by
  obtain ⟨S, S2, T, h1, h2, h3, d1, d2, d3⟩ := h
  refine ⟨S, h1, fun w' Mo' ⟨S', a1, a2, a3, a4⟩ => ⟨⟨S', S2, T, a2, h2.far a3.1 (fun k hk hl => a3.2 k hl (d1 k hk)), h3.far a3.1 (fun k hk hl => a3.2 k hl (d2 k hk)), fun k hk hs => (a1 k hs).elim (d1 k hk) (fun h => Nat.not_lt.2 h (h2.1 k hk)), fun k hk hs => (a1 k hs).elim (d2 k hk) (fun h => Nat.not_lt.2 h (h3.1 k hk)), d3⟩, a4⟩⟩
theorem Trio.below {b g g2 gx : Nat} {w w1 : World} {Mo M : MSt} {D : DSt} (h : Trio b w g g2 gx Mo M D) (hb : Below w.heap.size w w1) : Trio b w1 g g2 gx Mo M D := by
  obtain ⟨S, S2, T, h1, h2, h3, d⟩ := h
  exact ⟨S, S2, T, h1.step hb, h2.step hb, h3.step hb, d⟩
theorem Trio.drop {b g g2 gx : Nat} {w : World} {Mo M : MSt} {D : DSt} (h : Trio b w g g2 gx Mo M D) : Duo (fun _ => False) b w g2 gx M D := by
  obtain ⟨S, S2, T, h1, h2, h3, d1, d2, d3⟩ := h
  exact ⟨S2, T, h2, h3, d3, fun k hk => hk.elim⟩
theorem feed_okT {M : MSt} (h : okT M) (l : List Int) : okT (feedM M l).2 := by
  unfold feedM
  repeat' split
  all_goals exact h
theorem next_okT {M : MSt} (h : G M) : okT (nextM M).2 := (sim_next (tx := M.text) ⟨h, fun _ => rfl⟩).choose_spec.2.1.t
/-- A reply's row: its cells may be written. -/
theorem row42_blk {b : Nat} {ok : Nat → Prop} {w : World} {A : Option Addr} {n c : Nat} {l : List S42} (h : Kd.R k42 42 w b ok (.slice A n c) l) : l.length = 0 ∨ ∃ q, A = some ⟨q, 0, none⟩ ∧ ok q ∧ b ≤ q ∧ Blk 42 (l.length * 3) q w := by
  obtain ⟨h1, hl, ho⟩ := row_iffQ.1 h
  rcases ho with ⟨_, h2⟩ | ⟨q, cap, cur, a1, a2, a3, a4, a5, a6, a7⟩
  · exact .inl h2
  · injection a1 with e1 e2 e3
    exact .inr ⟨q, e1, h1 q (by rw [e1]; rfl), a2, cur, 0, 0, a3, by omega, .inr rfl⟩
set_option maxHeartbeats 16000000 in
set_option maxRecDepth 100000 in
theorem goes_calls (A0 : Option Addr) (c0 : Nat) (l : List S59) (w : World) (hr0 : Kd.C k59 w A0 l.length l) (hc0 : l.length ≤ c0) :
    Calls Try.prog 5 #[.slice A0 l.length c0] w fun e w' => e = .returned (.bool true) ∧ Below w.heap.size w w' := by
  have HR0 := Aside0.mk hr0
  have HC0 := Aside0.mk hc0
  clear hr0 hc0
  have hcv := fun (W : World) (s : ByteArray) => conv_str W s
  have hcc := fun (W : World) (C : Array Value) (n c : Nat) => conv_const W C n c
  go_enter Try.func5, Try.ntmps5
  go_wp2_with fail
  refine (live_calls w).mono ?_
  rintro _ w1 ⟨rfl, hb1⟩
  have HB1 := Aside0.mk hb1
  clear hb1
  go_wp2_with fail
  refine (new_calls' w1).mono ?_
  rintro _ w3 ⟨g, S, rfl, hS, hm, hb⟩
  have hd0 : DX (fun k => k = w3.heap.size) w1.heap.size (w3.alloc (.cells #[.string ⟨#[]⟩, .bool false, .slice none 0 0, .int .i64 0, .bool false, .string ⟨#[]⟩, .slice none 0 0] 57)) w3.heap.size D0 := ⟨fun k hk => by rw [hk]; simp, Nat.le_trans hb.size (by simp), .slice none 0 0, .slice none 0 0, rfl, hb.size, heap_alloc_new w3 _, .inl ⟨rfl, rfl⟩, Kd.R_nil _ _ _ _ _⟩
  have hal : Below w3.heap.size w3 (w3.alloc (.cells #[.string ⟨#[]⟩, .bool false, .slice none 0 0, .int .i64 0, .bool false, .string ⟨#[]⟩, .slice none 0 0] 57)) := below_alloc (Below.refl _ _) _
  obtain ⟨w4, hw4⟩ : ∃ w4, w3.alloc (.cells #[.string ⟨#[]⟩, .bool false, .slice none 0 0, .int .i64 0, .bool false, .string ⟨#[]⟩, .slice none 0 0] 57) = w4 := ⟨_, rfl⟩
  rw [hw4] at hd0 hal
  obtain ⟨gx, hgx⟩ : ∃ gx, gx = w3.heap.size := ⟨_, rfl⟩
  have hgx' := hgx.symm
  rw [hgx'] at hd0
  have HDuo : Aside0 (Duo (fun _ => False) w1.heap.size w4 g gx M0 (dOf M0 ⟨#[]⟩)) := ⟨⟨S, fun k => k = gx, hm.step hal, hd0, fun k hk h => by have := hm.1 k hk; omega, fun k hk => hk.elim⟩⟩
  have HB4 : Aside0 (Below w.heap.size w w4) := ⟨HB1.out.trans ((hb.mono HB1.out.size).trans (hal.mono (Nat.le_trans HB1.out.size hb.size)))⟩
  clear hm hb hS hal hd0 hgx
  by_cases hn : (200 : Int) < (l.length : Int)
  · go_wp2_with fail
    go_ret
    exact ⟨rfl, HB4.out⟩
  have HN : Aside0 (l.length ≤ 200) := ⟨by omega⟩
  go_wp2_with fail
  clear hw4 hgx'
  go_loopg [4, 36] l.length (fun kq v4 v36 w' => ∃ (i : Nat) (M : MSt) (tx : ByteArray) (g : Nat), i ≤ l.length ∧ kq = l.length - i ∧ v4 = .pointer (some ⟨g, 0, none⟩) ∧ v36 = .int .i64 (i : Int) ∧ Aside0 (Sim M tx) ∧ Aside0 (M.told.length + M.ahead.length ≤ 2003 * i) ∧ Aside0 (Duo (fun _ => False) w1.heap.size w' g gx M (dOf M tx)) ∧ Aside0 (Below w.heap.size w w'))
  case atStart => exact ⟨0, M0, ⟨#[]⟩, g, by omega, rfl, rfl, rfl, ⟨sim_start⟩, ⟨by decide⟩, HDuo, HB4⟩
  case round =>
    obtain ⟨i, M, tx, g, hile, rfl, rfl, rfl, HS, HLN, HD, HB⟩ := hrel
    by_cases c1 : i < l.length
    · obtain ⟨ad, eA, y0, y1, y2, y3, y4⟩ := at59 (Kd.C_below HR0.out HB.out) i c1
      obtain ⟨x, hx⟩ : ∃ x, x = rd59 l i := ⟨_, rfl⟩
      rw [← hx] at y0 y1 y2 y3 y4
      have h5f : (wr.alloc (.cells #[.int .i64 x.d, .string x.s, .int .i64 x.r.f0, .int .i64 x.r.f1, .string x.r.f2] 59)).heap[wr.heap.size]? = some (.cells #[.int .i64 x.d, .string x.s, .int .i64 x.r.f0, .int .i64 x.r.f1, .string x.r.f2] 59 (0, 0)) := heap_alloc_new wr _
      have h5b : Below wr.heap.size wr (wr.alloc (.cells #[.int .i64 x.d, .string x.s, .int .i64 x.r.f0, .int .i64 x.r.f1, .string x.r.f2] 59)) := below_alloc (Below.refl _ _) _
      have h5z : (wr.alloc (.cells #[.int .i64 x.d, .string x.s, .int .i64 x.r.f0, .int .i64 x.r.f1, .string x.r.f2] 59)).heap.size = wr.heap.size + 1 := by simp
      obtain ⟨w5, hw5⟩ : ∃ w5, wr.alloc (.cells #[.int .i64 x.d, .string x.s, .int .i64 x.r.f0, .int .i64 x.r.f1, .string x.r.f2] 59) = w5 := ⟨_, rfl⟩
      obtain ⟨z, hz⟩ : ∃ z, z = wr.heap.size := ⟨_, rfl⟩
      rw [hw5] at h5f h5b h5z
      rw [← hz] at h5f h5z
      have hz' := hz.symm
      have hd5 : Duo (fun k => k = z) w1.heap.size w5 g gx M (dOf M tx) := HD.out.watch h5b (fun k hk => .inr (by omega))
      have HD5 := Aside0.mk hd5
      have HB5 : Aside0 (Below w.heap.size w w5) := ⟨HB.out.trans (h5b.mono HB.out.size)⟩
      have z0 : w5.cell? ⟨z, 0, none⟩ = some (.int .i64 x.d) := (blk_cell h5f 0).trans rfl
      have z1 : w5.cell? ⟨z, 1, none⟩ = some (.string x.s) := (blk_cell h5f 1).trans rfl
      have z2 : w5.cell? ⟨z, 2, none⟩ = some (.int .i64 x.r.f0) := (blk_cell h5f 2).trans rfl
      have z3 : w5.cell? ⟨z, 3, none⟩ = some (.int .i64 x.r.f1) := (blk_cell h5f 3).trans rfl
      have z4 : w5.cell? ⟨z, 4, none⟩ = some (.string x.r.f2) := (blk_cell h5f 4).trans rfl
      have H5F := Aside0.mk h5f
      have hw1 : IntKind.i64.wrap ((i : Int) + 1) = (i : Int) + 1 := by rw [IntKind.wrap_i64]; have := HN.out; omega
      have hi0 : (0 : Int) ≤ (i : Int) := by omega
      have hi1 : (i : Int) < (l.length : Int) := by omega
      have HC1 := Aside0.mk c1
      subst eA
      clear hx h5f h5b h5z hz hd5 c1 hile
      go_upto_block 2 with (fail)
      go_cut [4, 8] (fun v4 v8 wc => ∃ (g2 : Nat) (M2 : MSt) (tx2 : ByteArray), v4 = .pointer (some ⟨g2, 0, none⟩) ∧ v8 = .bool true ∧ Aside0 (Sim M2 tx2) ∧ Aside0 (M2.told.length + M2.ahead.length ≤ 2003 * (i + 1)) ∧ Aside0 (Duo (fun _ => False) w1.heap.size wc g2 gx M2 (dOf M2 tx2)) ∧ Aside0 (Below w.heap.size w wc))
      case first =>
        by_cases d0 : x.d = 0
        · have B0 : (x.d == 0) = true := by rw [d0]; rfl
          have HDK := Aside0.mk d0
          clear d0
          by_cases hsz : (2000 : Int) < (x.s.size : Int)
          · go_wp2_with fail
            go_roundg (l.length - (i + 1))
            case measure => have := HC1.out; omega
            case rel => exact ⟨i + 1, M, tx, g, by have := HC1.out; omega, rfl, rfl, by go_num, HS, ⟨by have := HLN.out; omega⟩, ⟨HD5.out.watch (Below.refl _ _) (fun k hk => hk.elim)⟩, HB5⟩
          have HSZ : Aside0 (x.s.size ≤ 2000) := ⟨by omega⟩
          obtain ⟨rest, lo, hi, hrow, hlo⟩ := bw_row2 w5 x.s
          have hbb := bw_below w5 x.s
          obtain ⟨wb, hwb⟩ : ∃ wb, Lib.bytesWorld w5 5 x.s = wb := ⟨_, rfl⟩
          obtain ⟨kb, hkb⟩ : ∃ kb, kb = w5.heap.size := ⟨_, rfl⟩
          rw [hwb] at hrow hbb
          rw [← hkb] at hrow
          have hkb' := hkb.symm
          have hblk : Blk 5 x.s.size kb wb := ⟨_, lo, hi, hrow, by simp [nums_len], .inl hlo⟩
          have hdb : Duo (fun k => k = z ∨ k = kb) w1.heap.size wb.drew g gx M (dOf M tx) := (HD5.out.watch hbb (fun k hk => hk.elim .inl (fun h => .inr ⟨by omega, by have := blk_lt hrow; omega⟩))).below ((Below.refl _ _).drew)
          have hzb : wb.heap[z]? = some (.cells #[.int .i64 x.d, .string x.s, .int .i64 x.r.f0, .int .i64 x.r.f1, .string x.r.f2] 59 (0, 0)) := (hbb.block z (blk_lt H5F.out)).trans H5F.out
          have zb1 : wb.cell? ⟨z, 1, none⟩ = some (.string x.s) := (blk_cell hzb 1).trans rfl
          obtain ⟨S6, ⟨hm6, hns6⟩, hgo6⟩ := hdb.prog'
          have hkS : ¬ S6 kb := hns6 kb (.inr rfl)
          have hrd := row_kept (w := wb.drew) hrow hkS (by rw [nums_len]; have := HSZ.out; omega)
          have HRD := Aside0.mk hrd
          have HM6 := Aside0.mk hm6
          have HGO6 := Aside0.mk hgo6
          have HZB := Aside0.mk hzb
          have HBLK := Aside0.mk hblk
          have HBB : Aside0 (Below w.heap.size w wb.drew) := ⟨(HB5.out.trans (hbb.mono HB5.out.size)).trans ((Below.refl _ wb).drew)⟩
          have HKB : Aside0 (w.heap.size ≤ kb) := ⟨by have := HB5.out.size; omega⟩
          have hcap := grownCap_ge w5 x.s.size 0 5
          have HCAP := Aside0.mk hcap
          obtain ⟨fr, B2, bad2, hfe, hfl, hse, hsim⟩ := sim_feed HS.out x.s HSZ.out
          have HFE := Aside0.mk hfe
          have HFL := Aside0.mk hfl
          have HSE := Aside0.mk hse
          have HSI := Aside0.mk hsim
          have hnl := nums_len x.s
          have HNL := Aside0.mk hnl
          clear hrow hbb hlo hkb hblk hdb hzb hm6 hns6 hgo6 hkS hrd hcap hfe hfl hse hsim hnl
          go_wp2_with fail
          go_region_held3 (fun w' => w'.cell? ⟨z, 1, none⟩ = some (.string x.s)) (first | exact zb1 | exact hq6 | exact hq7 | go_keep) (first | (go_at_call 9; have hfd := feed_calls' S6 w1.heap.size g M (some ⟨kb, 0, none⟩) (grownCap w5 x.s.size 0 5) (nums x.s) wb.drew HM6.out HRD.out (by rw [HNL.out]; exact HCAP.out) (nums_by x.s) (by rw [HNL.out]; have := HSZ.out; omega); rw [HNL.out] at hfd; refine hfd.mono ?_; clear hfd; rintro _ w6 ⟨rfl, hg6⟩; obtain ⟨hd6, hp6, hb6⟩ := HGO6.out w6 _ hg6; obtain ⟨T7, hm7, hgo7⟩ := hd6.doc; have hz6 : w6.heap[z]? = some (.cells #[.int .i64 x.d, .string x.s, .int .i64 x.r.f0, .int .i64 x.r.f1, .string x.r.f2] 59 (0, 0)) := (hp6 z (.inl rfl)).trans HZB.out; have hq6 := (show w6.cell? ⟨z, 1, none⟩ = some (.string x.s) from (blk_cell hz6 1).trans rfl); have HK6 : Aside0 (Blk 5 x.s.size kb w6) := ⟨HBLK.out.heap (hp6 kb (.inr rfl))⟩; have HM7 := Aside0.mk hm7; have HGO7 := Aside0.mk hgo7; have HZ6 := Aside0.mk hz6; have HB6 : Aside0 (Below w.heap.size w w6) := ⟨HBB.out.trans (hb6.mono HB1.out.size)⟩; clear hg6 hd6 hp6 hb6 hm7 hgo7 hz6) | (go_at_call 17; refine (dfeed_calls' T7 w1.heap.size gx (dOf M tx) x.s fr B2 bad2 40000 w6 HM7.out HFE.out (by have := HFL.out; omega)).mono ?_; rw [HSE.out]; rintro _ w7 ⟨rfl, hg7⟩; obtain ⟨hd7, hp7, hb7⟩ := HGO7.out w7 _ hg7; have hz7 : w7.heap[z]? = some (.cells #[.int .i64 x.d, .string x.s, .int .i64 x.r.f0, .int .i64 x.r.f1, .string x.r.f2] 59 (0, 0)) := (hp7 z (.inl rfl)).trans HZ6.out; have hq7 := (show w7.cell? ⟨z, 1, none⟩ = some (.string x.s) from (blk_cell hz7 1).trans rfl); have HK7 : Aside0 (Blk 5 x.s.size kb w7) := ⟨HK6.out.heap (hp7 kb (.inr rfl))⟩; have HD7 := Aside0.mk hd7; have HB7 : Aside0 (Below w.heap.size w w7) := ⟨HB6.out.trans (hb7.mono HB1.out.size)⟩; clear hg7 hd7 hp7 hb7 hz7))
          go_wp2_with fail
          go_loopg [61] x.s.size (fun kq v61 w' => ∃ j : Nat, j ≤ x.s.size ∧ kq = x.s.size - j ∧ v61 = .int .i64 (j : Int) ∧ Aside0 (Duo (fun k => k = z ∨ k = kb) w1.heap.size w' g gx (feedM M (nums x.s)).2 (dOf (feedM M (nums x.s)).2 tx)) ∧ Aside0 (Below w.heap.size w w') ∧ Aside0 (Blk 5 x.s.size kb w'))
          case atStart => exact ⟨0, by omega, rfl, rfl, HD7, HB7, HK7⟩
          case round =>
            obtain ⟨j, hj, rfl, rfl, HDj, HBj, HKj⟩ := hrel
            by_cases e1 : j < x.s.size
            · obtain ⟨⟨u, hu⟩, hfz⟩ := HKj.out.cell j e1
              have hw9 : IntKind.i64.wrap ((j : Int) + 1) = (j : Int) + 1 := by rw [IntKind.wrap_i64]; have := HSZ.out; omega
              have E1 := Aside0.mk e1
              have hj0 : (0 : Int) ≤ (j : Int) := by omega
              have hj1 : (j : Int) < (x.s.size : Int) := by omega
              clear e1
              go_wp2_with fail
              go_roundg (x.s.size - (j + 1))
              case measure => have := E1.out; omega
              case rel => exact ⟨j + 1, by have := E1.out; omega, rfl, by go_num, ⟨HDj.out.put (by simp [World.setCell]) (fun k hk hp => Go.Deep.blk_setCell_other _ ⟨kb, _, none⟩ _ k (fun (e : k = kb) => hp (.inr e)))⟩, ⟨Below.setCell HBj.out HKB.out _⟩, ⟨HKj.out.set _ _ _⟩⟩
            · have hj1 : ¬ (j : Int) < (x.s.size : Int) := by omega
              go_wp2_with fail
              go_meet
              case rel => exact ⟨g, (feedM M (nums x.s)).2, tx, rfl, rfl, HSI, ⟨by have := feed_len M (nums x.s) HS.out.1.out; rw [HNL.out] at this; have := HSZ.out; have := HLN.out; omega⟩, ⟨HDj.out.watch (Below.refl _ _) (fun k hk => hk.elim)⟩, HBj⟩
        have N0 : (x.d == 0) = false := beq_eq_false_iff_ne.2 d0
        by_cases d1 : x.d = 1
        · have B1 : (x.d == 1) = true := by rw [d1]; rfl
          have HDK := Aside0.mk d1
          clear d0 d1
          obtain ⟨S6, hm6, hgo6⟩ := HD5.out.prog
          have HM6 := Aside0.mk hm6
          have HGO6 := Aside0.mk hgo6
          clear hm6 hgo6
          go_wp2_with fail
          refine (next_calls' S6 w1.heap.size g M w5 HM6.out HS.out.1.t (by have := HLN.out; have := HN.out; have := HC1.out; omega)).mono ?_
          rintro _ w6 ⟨rfl, hg6⟩
          obtain ⟨hd6, hp6, hb6⟩ := HGO6.out w6 _ hg6
          obtain ⟨T7, hm7, hgo7⟩ := hd6.doc
          have HM7 := Aside0.mk hm7
          have HGO7 := Aside0.mk hgo7
          have HB6 : Aside0 (Below w.heap.size w w6) := ⟨HB5.out.trans (hb6.mono HB1.out.size)⟩
          clear hg6 hd6 hp6 hb6 hm7 hgo7
          obtain ⟨tx', hse, hsim⟩ := sim_next HS.out
          have HSE := Aside0.mk hse
          have HSI := Aside0.mk hsim
          clear hse hsim
          go_wp2_with fail
          refine (dnext_calls T7 w1.heap.size gx (dOf M tx) w6 HM7.out (by have := HLN.out; have := HN.out; have := HC1.out; show M.told.length + M.ahead.length ≤ _; omega)).mono ?_
          rw [HSE.out]
          rintro _ w7 ⟨rfl, hg7⟩
          obtain ⟨hd7, _, hb7⟩ := HGO7.out w7 _ hg7
          have HD7 := Aside0.mk hd7
          have HB7 : Aside0 (Below w.heap.size w w7) := ⟨HB6.out.trans (hb7.mono HB1.out.size)⟩
          clear hg7 hd7 hb7
          go_wp2_with fail
          go_meet
          case rel => exact ⟨g, (nextM M).2, tx', rfl, rfl, ⟨HSI.out⟩, ⟨by have := next_len M; have := HLN.out; have := HN.out; have := HC1.out; omega⟩, ⟨(HD7.out).watch (Below.refl _ _) (fun k hk => hk.elim)⟩, ⟨HB7.out⟩⟩
        have N1 : (x.d == 1) = false := beq_eq_false_iff_ne.2 d1
        by_cases d2 : x.d = 2
        · have B2 : (x.d == 2) = true := by rw [d2]; rfl
          have HDK := Aside0.mk d2
          clear d0 d1 d2
          obtain ⟨S6, hm6, hgo6⟩ := HD5.out.prog
          have HM6 := Aside0.mk hm6
          have HGO6 := Aside0.mk hgo6
          clear hm6 hgo6
          go_wp2_with fail
          refine (got_calls S6 w1.heap.size g M w5 HM6.out (by have := HLN.out; have := HN.out; have := HC1.out; omega)).mono ?_
          rintro _ w6 ⟨rfl, hg6⟩
          obtain ⟨hd6, hp6, hb6⟩ := HGO6.out w6 _ hg6
          obtain ⟨T7, hm7, hgo7⟩ := hd6.doc
          have HM7 := Aside0.mk hm7
          have HGO7 := Aside0.mk hgo7
          have HB6 : Aside0 (Below w.heap.size w w6) := ⟨HB5.out.trans (hb6.mono HB1.out.size)⟩
          clear hg6 hd6 hp6 hb6 hm7 hgo7
          have HSE := Aside0.mk (sim_got HS.out).1
          have HSI := Aside0.mk (sim_got HS.out).2
          go_wp2_with fail
          refine (dgot_calls T7 w1.heap.size gx (dOf M tx) w6 HM7.out (by have := HLN.out; have := HN.out; have := HC1.out; show M.told.length ≤ _; omega)).mono ?_
          rw [HSE.out]
          rintro _ w7 ⟨rfl, hg7⟩
          obtain ⟨hd7, _, hb7⟩ := HGO7.out w7 _ hg7
          have HD7 := Aside0.mk hd7
          have HB7 : Aside0 (Below w.heap.size w w7) := ⟨HB6.out.trans (hb7.mono HB1.out.size)⟩
          clear hg7 hd7 hb7
          go_wp2_with fail
          go_meet
          case rel => exact ⟨g, (gotM M).2, tx, rfl, rfl, ⟨HSI.out⟩, ⟨by have := got_len M; have := HLN.out; have := HN.out; have := HC1.out; omega⟩, ⟨(HD7.out).watch (Below.refl _ _) (fun k hk => hk.elim)⟩, ⟨HB7.out⟩⟩
        have N2 : (x.d == 2) = false := beq_eq_false_iff_ne.2 d2
        by_cases d3 : x.d = 3
        · have B3 : (x.d == 3) = true := by rw [d3]; rfl
          have HDK := Aside0.mk d3
          clear d0 d1 d2 d3
          have hd5d : Duo (fun k => k = z) w1.heap.size w5.drew g gx M (dOf M tx) := HD5.out.below ((Below.refl _ _).drew)
          obtain ⟨S6, hm6, hgo6⟩ := hd5d.prog
          have HM6 := Aside0.mk hm6
          have HGO6 := Aside0.mk hgo6
          clear hm6 hgo6 hd5d
          have HSE := Aside0.mk (sim_turn HS.out x.r).1
          have HSI := Aside0.mk (sim_turn HS.out x.r).2
          go_wp2_with fail
          go_region_held3 (fun w' => w'.cell? ⟨z, 2, none⟩ = some (.int .i64 x.r.f0) ∧ w'.cell? ⟨z, 3, none⟩ = some (.int .i64 x.r.f1) ∧ w'.cell? ⟨z, 4, none⟩ = some (.string x.r.f2)) (first | exact ⟨z2, z3, z4⟩ | exact hq6 | exact hq7 | go_keep) (first | (go_at_call 20; refine (turn_calls S6 w1.heap.size g M x.r w5.drew HM6.out (by have := HLN.out; have := HN.out; have := HC1.out; omega)).mono ?_; rintro _ w6 ⟨rfl, hg6⟩; obtain ⟨hd6, hp6, hb6⟩ := HGO6.out w6 _ hg6; obtain ⟨T7, hm7, hgo7⟩ := hd6.doc; have hz6 : w6.heap[z]? = some (.cells #[.int .i64 x.d, .string x.s, .int .i64 x.r.f0, .int .i64 x.r.f1, .string x.r.f2] 59 (0, 0)) := (hp6 z rfl).trans H5F.out; have hq6 := show w6.cell? ⟨z, 2, none⟩ = some (.int .i64 x.r.f0) ∧ w6.cell? ⟨z, 3, none⟩ = some (.int .i64 x.r.f1) ∧ w6.cell? ⟨z, 4, none⟩ = some (.string x.r.f2) from ⟨(blk_cell hz6 2).trans rfl, (blk_cell hz6 3).trans rfl, (blk_cell hz6 4).trans rfl⟩; have HM7 := Aside0.mk hm7; have HGO7 := Aside0.mk hgo7; have HZ6 := Aside0.mk hz6; have HB6 : Aside0 (Below w.heap.size w w6) := ⟨(HB5.out.trans ((Below.refl _ w5).drew)).trans (hb6.mono HB1.out.size)⟩; clear hg6 hd6 hp6 hb6 hm7 hgo7 hz6) | (go_at_call 21; refine (dturn_calls T7 w1.heap.size gx (dOf M tx) x.r w6 HM7.out (by have := HLN.out; have := HN.out; have := HC1.out; show M.told.length ≤ _; omega)).mono ?_; rw [HSE.out]; rintro _ w7 ⟨rfl, hg7⟩; obtain ⟨hd7, hp7, hb7⟩ := HGO7.out w7 _ hg7; have hz7 : w7.heap[z]? = some (.cells #[.int .i64 x.d, .string x.s, .int .i64 x.r.f0, .int .i64 x.r.f1, .string x.r.f2] 59 (0, 0)) := (hp7 z rfl).trans HZ6.out; have hq7 := show w7.cell? ⟨z, 2, none⟩ = some (.int .i64 x.r.f0) ∧ w7.cell? ⟨z, 3, none⟩ = some (.int .i64 x.r.f1) ∧ w7.cell? ⟨z, 4, none⟩ = some (.string x.r.f2) from ⟨(blk_cell hz7 2).trans rfl, (blk_cell hz7 3).trans rfl, (blk_cell hz7 4).trans rfl⟩; have HD7 := Aside0.mk hd7; have HB7 : Aside0 (Below w.heap.size w w7) := ⟨HB6.out.trans (hb7.mono HB1.out.size)⟩; clear hg7 hd7 hp7 hb7 hz7))
          all_goals go_wp2_with fail
          go_meet
          case rel => exact ⟨g, (turnM M x.r).2, tx, rfl, rfl, ⟨HSI.out⟩, ⟨by have := turn_len M x.r; have := HLN.out; have := HN.out; have := HC1.out; omega⟩, ⟨(HD7.out).watch (Below.refl _ _) (fun k hk => hk.elim)⟩, ⟨HB7.out⟩⟩
        have N3 : (x.d == 3) = false := beq_eq_false_iff_ne.2 d3
        by_cases d4 : x.d = 4
        · have B4 : (x.d == 4) = true := by rw [d4]; rfl
          have HDK := Aside0.mk d4
          clear d0 d1 d2 d3 d4
          have hd5d : Duo (fun k => k = z) w1.heap.size w5.drew g gx M (dOf M tx) := HD5.out.below ((Below.refl _ _).drew)
          obtain ⟨S6, hm6, hgo6⟩ := hd5d.prog
          have HM6 := Aside0.mk hm6
          have HGO6 := Aside0.mk hgo6
          clear hm6 hgo6 hd5d
          have HSE := Aside0.mk (sim_answer HS.out x.s).1
          have HSI := Aside0.mk (sim_answer HS.out x.s).2
          go_wp2_with fail
          go_region_held3 (fun w' => w'.cell? ⟨z, 1, none⟩ = some (.string x.s)) (first | exact z1 | exact hq6 | exact hq7 | go_keep) (first | (go_at_call 12; refine (answer_calls S6 w1.heap.size g M x.s w5.drew HM6.out (by have := HLN.out; have := HN.out; have := HC1.out; omega)).mono ?_; rintro _ w6 ⟨rfl, hg6⟩; obtain ⟨hd6, hp6, hb6⟩ := HGO6.out w6 _ hg6; obtain ⟨T7, hm7, hgo7⟩ := hd6.doc; have hz6 : w6.heap[z]? = some (.cells #[.int .i64 x.d, .string x.s, .int .i64 x.r.f0, .int .i64 x.r.f1, .string x.r.f2] 59 (0, 0)) := (hp6 z rfl).trans H5F.out; have hq6 := show w6.cell? ⟨z, 1, none⟩ = some (.string x.s) from (blk_cell hz6 1).trans rfl; have HM7 := Aside0.mk hm7; have HGO7 := Aside0.mk hgo7; have HZ6 := Aside0.mk hz6; have HB6 : Aside0 (Below w.heap.size w w6) := ⟨(HB5.out.trans ((Below.refl _ w5).drew)).trans (hb6.mono HB1.out.size)⟩; clear hg6 hd6 hp6 hb6 hm7 hgo7 hz6) | (go_at_call 22; refine (danswer_calls T7 w1.heap.size gx (dOf M tx) x.s w6 HM7.out (by have := HLN.out; have := HN.out; have := HC1.out; show M.told.length ≤ _; omega)).mono ?_; rw [HSE.out]; rintro _ w7 ⟨rfl, hg7⟩; obtain ⟨hd7, hp7, hb7⟩ := HGO7.out w7 _ hg7; have hz7 : w7.heap[z]? = some (.cells #[.int .i64 x.d, .string x.s, .int .i64 x.r.f0, .int .i64 x.r.f1, .string x.r.f2] 59 (0, 0)) := (hp7 z rfl).trans HZ6.out; have hq7 := show w7.cell? ⟨z, 1, none⟩ = some (.string x.s) from (blk_cell hz7 1).trans rfl; have HD7 := Aside0.mk hd7; have HB7 : Aside0 (Below w.heap.size w w7) := ⟨HB6.out.trans (hb7.mono HB1.out.size)⟩; clear hg7 hd7 hp7 hb7 hz7))
          all_goals go_wp2_with fail
          go_meet
          case rel => exact ⟨g, (answerM M x.s).2, tx, rfl, rfl, ⟨HSI.out⟩, ⟨by have := answer_len M x.s; have := HLN.out; have := HN.out; have := HC1.out; omega⟩, ⟨(HD7.out).watch (Below.refl _ _) (fun k hk => hk.elim)⟩, ⟨HB7.out⟩⟩
        have N4 : (x.d == 4) = false := beq_eq_false_iff_ne.2 d4
        by_cases d5 : x.d = 5
        · have B5 : (x.d == 5) = true := by rw [d5]; rfl
          have HDK := Aside0.mk d5
          clear d0 d1 d2 d3 d4 d5
          obtain ⟨S6, hm6, hgo6⟩ := HD5.out.prog
          have HM6 := Aside0.mk hm6
          have HGO6 := Aside0.mk hgo6
          clear hm6 hgo6
          go_wp2_with fail
          refine (lost_calls S6 w1.heap.size g M w5 HM6.out (by have := HLN.out; have := HN.out; have := HC1.out; omega) HS.out.1.t).mono ?_
          rintro _ w6 ⟨rfl, hg6⟩
          obtain ⟨hd6, hp6, hb6⟩ := HGO6.out w6 _ hg6
          obtain ⟨T7, hm7, hgo7⟩ := hd6.doc
          have HM7 := Aside0.mk hm7
          have HGO7 := Aside0.mk hgo7
          have HB6 : Aside0 (Below w.heap.size w w6) := ⟨HB5.out.trans (hb6.mono HB1.out.size)⟩
          clear hg6 hd6 hp6 hb6 hm7 hgo7
          have HSE := Aside0.mk (sim_lost HS.out).1
          have HSI := Aside0.mk (sim_lost HS.out).2
          go_wp2_with fail
          refine (dlost_calls T7 w1.heap.size gx (dOf M tx) w6 HM7.out (by have := HLN.out; have := HN.out; have := HC1.out; show M.told.length ≤ _; omega)).mono ?_
          rw [HSE.out]
          rintro _ w7 ⟨rfl, hg7⟩
          obtain ⟨hd7, _, hb7⟩ := HGO7.out w7 _ hg7
          have HD7 := Aside0.mk hd7
          have HB7 : Aside0 (Below w.heap.size w w7) := ⟨HB6.out.trans (hb7.mono HB1.out.size)⟩
          clear hg7 hd7 hb7
          go_wp2_with fail
          go_meet
          case rel => exact ⟨g, (lostM M).2, tx, rfl, rfl, ⟨HSI.out⟩, ⟨by have := lost_len M; have := HLN.out; have := HN.out; have := HC1.out; omega⟩, ⟨(HD7.out).watch (Below.refl _ _) (fun k hk => hk.elim)⟩, ⟨HB7.out⟩⟩
        have N5 : (x.d == 5) = false := beq_eq_false_iff_ne.2 d5
        by_cases d6 : x.d = 6
        · have B6 : (x.d == 6) = true := by rw [d6]; rfl
          have HDK := Aside0.mk d6
          clear d0 d1 d2 d3 d4 d5 d6
          obtain ⟨S6, hm6, hgo6⟩ := HD5.out.prog
          have HM6 := Aside0.mk hm6
          have HGO6 := Aside0.mk hgo6
          clear hm6 hgo6
          go_wp2_with fail
          refine (hang_calls S6 w1.heap.size g M w5 HM6.out).mono ?_
          rintro _ w6 ⟨rfl, hg6⟩
          obtain ⟨hd6, hp6, hb6⟩ := HGO6.out w6 _ hg6
          obtain ⟨T7, hm7, hgo7⟩ := hd6.doc
          have HM7 := Aside0.mk hm7
          have HGO7 := Aside0.mk hgo7
          have HB6 : Aside0 (Below w.heap.size w w6) := ⟨HB5.out.trans (hb6.mono HB1.out.size)⟩
          clear hg6 hd6 hp6 hb6 hm7 hgo7
          have HSE := Aside0.mk (sim_hang HS.out).1
          have HSI := Aside0.mk (sim_hang HS.out).2
          go_wp2_with fail
          refine (dhang_calls T7 w1.heap.size gx (dOf M tx) w6 HM7.out).mono ?_
          rw [HSE.out]
          rintro _ w7 ⟨rfl, hg7⟩
          obtain ⟨hd7, _, hb7⟩ := HGO7.out w7 _ hg7
          have HD7 := Aside0.mk hd7
          have HB7 : Aside0 (Below w.heap.size w w7) := ⟨HB6.out.trans (hb7.mono HB1.out.size)⟩
          clear hg7 hd7 hb7
          go_wp2_with fail
          go_meet
          case rel => exact ⟨g, (hangM M), ⟨#[]⟩, rfl, rfl, ⟨HSI.out⟩, ⟨by show M.told.length + 0 ≤ _; have := HLN.out; have := HN.out; have := HC1.out; omega⟩, ⟨(HD7.out).watch (Below.refl _ _) (fun k hk => hk.elim)⟩, ⟨HB7.out⟩⟩
        have N6 : (x.d == 6) = false := beq_eq_false_iff_ne.2 d6
        by_cases d7 : x.d = 7
        · have B7 : (x.d == 7) = true := by rw [d7]; rfl
          have HDK := Aside0.mk d7
          clear d0 d1 d2 d3 d4 d5 d6 d7
          obtain ⟨S6, T6, hm6, hd6, hst6, hp6⟩ := HD5.out
          have HM6 := Aside0.mk hm6
          have HD6 := Aside0.mk hd6
          have HST6 := Aside0.mk hst6
          clear hm6 hd6 hst6 hp6
          go_wp2_with fail
          refine (replies_calls S6 w1.heap.size g M w5 HM6.out).mono ?_
          rintro _ w6 ⟨v6, S7, rfl, s1, s2, s3, s4, s5⟩
          obtain ⟨A6, n6, rfl⟩ := Kd.R_slice s3
          have HD6' := Aside0.mk (HD6.out.far s4.1 (fun k hk hl => s4.2 k hl (fun h => HST6.out k h hk)))
          have HS7 := Aside0.mk s1
          have HM7 := Aside0.mk s2
          have HR6 := Aside0.mk s3
          have HB6 : Aside0 (Below w.heap.size w w6) := ⟨HB5.out.trans (s5.mono HB1.out.size)⟩
          clear s1 s2 s3 s4 s5
          go_wp2_with fail
          refine (dreplies_calls T6 w1.heap.size gx (dOf M tx) w6 HD6'.out).mono ?_
          rintro _ w7 ⟨v7, T7, rfl, s1, s2, s3, s4, s5⟩
          have s3 : Kd.R k42 42 w7 w1.heap.size (fun k => T6 k ∧ ¬ T7 k) v7 M.told := s3
          obtain ⟨A7, n7, rfl⟩ := Kd.R_slice s3
          have HR7 := Aside0.mk (Kd.R_reads' s3)
          have hr6 := Kd.R_step HR6.out (fun k hk hl => s4.2 k hl (fun ht => HST6.out k hk.1 ht))
          have HR6' := Aside0.mk hr6
          have HDU7 : Aside0 (Duo (fun k => S6 k ∧ ¬ S7 k ∧ k < w7.heap.size) w1.heap.size w7 g gx { M with told := [] } (dOf { M with told := [] } tx)) := ⟨⟨S7, T7, HM7.out.far s4.1 (fun k hk hl => s4.2 k hl (fun ht => HST6.out k (HS7.out k hk) ht)), s2, fun k hk ht => HST6.out k (HS7.out k hk) (s1 k ht), fun k hk => ⟨hk.2.2, hk.2.1, fun ht => HST6.out k hk.1 (s1 k ht)⟩⟩⟩
          have HB7 : Aside0 (Below w.heap.size w w7) := ⟨HB6.out.trans (s5.mono HB1.out.size)⟩
          clear s1 s2 s3 s4 s5 hr6
          go_wp2_with fail
          have hlm : M.told.length ≤ 1000000 := by have := HLN.out; have := HN.out; have := HC1.out; omega
          refine (stopcockref19_Same.calls (M.told.length + 1) A6 n6 M.told A7 n7 M.told true w7 (Kd.R_reads' HR6'.out).2.2 (Kd.R_reads' HR6'.out).2.1 HR7.out.2.2 HR7.out.2.1 (same_refl M.told (by omega))).mono ?_
          rintro _ w8 ⟨rfl, hd⟩
          obtain ⟨n8, h8⟩ := hd.out
          have HDU8 : Aside0 (Duo (fun k => S6 k ∧ ¬ S7 k ∧ k < w7.heap.size) w1.heap.size w8 g gx { M with told := [] } (dOf { M with told := [] } tx)) := ⟨by rw [h8]; exact HDU7.out.below (pw_below_drewN (Below.refl _ _) n8)⟩
          have HB8 : Aside0 (Below w.heap.size w w8) := ⟨by rw [h8]; exact pw_below_drewN HB7.out n8⟩
          have HBK : Aside0 (M.told.length = 0 ∨ ∃ q, A6 = some ⟨q, 0, none⟩ ∧ (S6 q ∧ ¬ S7 q ∧ q < w7.heap.size) ∧ w1.heap.size ≤ q ∧ Blk 42 (M.told.length * 3) q w8) := ⟨by
            rcases row42_blk HR6'.out with h | ⟨q, h1, h2, h3, h4⟩
            · exact .inl h
            · exact .inr ⟨q, h1, ⟨h2.1, h2.2, by obtain ⟨_, _, _, hb, _⟩ := h4; exact blk_lt hb⟩, h3, h4.heap (by rw [h8]; rfl)⟩⟩
          have HLM := Aside0.mk hlm
          clear hd h8 hlm
          go_wp2_with fail
          go_loopg [140] M.told.length (fun kq v140 w' => ∃ j : Nat, j ≤ M.told.length ∧ kq = M.told.length - j ∧ v140 = .int .i64 (j : Int) ∧ Aside0 (Duo (fun k => S6 k ∧ ¬ S7 k ∧ k < w7.heap.size) w1.heap.size w' g gx { M with told := [] } (dOf { M with told := [] } tx)) ∧ Aside0 (Below w.heap.size w w') ∧ Aside0 (M.told.length = 0 ∨ ∃ q, A6 = some ⟨q, 0, none⟩ ∧ (S6 q ∧ ¬ S7 q ∧ q < w7.heap.size) ∧ w1.heap.size ≤ q ∧ Blk 42 (M.told.length * 3) q w'))
          case atStart => exact ⟨0, by omega, rfl, rfl, HDU8, HB8, HBK⟩
          case round =>
            obtain ⟨j, hj, rfl, rfl, HDj, HBj, HKj⟩ := hrel
            by_cases e1 : j < M.told.length
            · obtain ⟨q, hA, hq1, hq2, hbk⟩ := HKj.out.resolve_left (by omega)
              subst hA
              obtain ⟨⟨u, hu⟩, hfz⟩ := hbk.cell (j * 3) (by omega)
              have hw9 : IntKind.i64.wrap ((j : Int) + 1) = (j : Int) + 1 := by rw [IntKind.wrap_i64]; have := HLM.out; omega
              have E1 := Aside0.mk e1
              have HQ := Aside0.mk (And.intro hq1 hq2)
              have HBQ := Aside0.mk hbk
              have hj0 : (0 : Int) ≤ (j : Int) := by omega
              have hj1 : (j : Int) < (M.told.length : Int) := by omega
              clear hq1 hq2 hbk e1
              go_wp2_with fail
              go_roundg (M.told.length - (j + 1))
              case measure => have := E1.out; omega
              case rel => exact ⟨j + 1, by have := E1.out; omega, rfl, by go_num, ⟨HDj.out.put (by simp [World.setCell]) (fun k hk hp => Go.Deep.blk_setCell_other _ ⟨q, _, none⟩ _ k (fun (e : k = q) => hp (e ▸ HQ.out.1)))⟩, ⟨Below.setCell HBj.out (Nat.le_trans HB1.out.size HQ.out.2) _⟩, ⟨.inr ⟨q, rfl, HQ.out.1, HQ.out.2, HBQ.out.set _ _ _⟩⟩⟩
            · have hj1 : ¬ (j : Int) < (M.told.length : Int) := by omega
              go_wp2_with fail
              go_meet
              case rel => exact ⟨g, { M with told := [] }, tx, rfl, rfl, ⟨(sim_replies HS.out).2⟩, ⟨by show 0 + M.ahead.length ≤ _; have := HLN.out; have := HN.out; have := HC1.out; omega⟩, ⟨HDj.out.watch (Below.refl _ _) (fun k hk => hk.elim)⟩, HBj⟩
        have N7 : (x.d == 7) = false := beq_eq_false_iff_ne.2 d7
        by_cases d8 : x.d = 8
        · have B8 : (x.d == 8) = true := by rw [d8]; rfl
          have HDK := Aside0.mk d8
          clear d0 d1 d2 d3 d4 d5 d6 d7 d8
          obtain ⟨S6, T6, hm6, hd6, hst6, hp6⟩ := HD5.out
          have HM6 := Aside0.mk hm6
          have HD6 := Aside0.mk hd6
          have HST6 := Aside0.mk hst6
          clear hm6 hd6 hst6 hp6
          go_wp2_with fail
          refine (sclone_calls S6 w1.heap.size g M w5 HM6.out (by have := HLN.out; have := HN.out; have := HC1.out; omega) HS.out.1.tl).mono ?_
          rintro _ w6 ⟨g2, S2, rfl, hs2, hm2, hb6⟩
          have HT6 : Aside0 (Trio w1.heap.size w6 g g2 gx M M (dOf M tx)) := ⟨⟨S6, S2, T6, HM6.out.step hb6, hm2, HD6.out.step hb6, fun k hk hs => by have := hs2 k hk; have := HM6.out.1 k hs; omega, fun k hk hs => HST6.out k hs hk, fun k hk ht => by have := hs2 k hk; have := HD6.out.1 k ht; omega⟩⟩
          have HB6 : Aside0 (Below w.heap.size w w6) := ⟨HB5.out.trans (hb6.mono HB5.out.size)⟩
          clear hs2 hm2 hb6
          go_wp2_with fail
          have hal := below_alloc (Below.refl w6.heap.size w6) (.cells #[.int .u8 66, .int .u8 81, .int .u8 1, .int .u8 120, .int .u8 69, .int .u8 69, .int .u8 69] 5 (7, 7 + 1))
          obtain ⟨S7, hm7, hgo7⟩ := (HT6.out.below hal).old
          obtain ⟨So, _, _, hmo, _, _, _, _, _⟩ := HT6.out
          have hlt7 : ∀ k, S7 k → k ≠ w6.heap.size ∨ True := fun _ _ => .inr trivial
          clear hlt7 hmo
          have hT7 : Trio w1.heap.size w6 g g2 gx M M (dOf M tx) := HT6.out
          obtain ⟨S8, S9, T8, k1, k2, k3, k4, k5, k6⟩ := hT7
          have hf := feed_calls' S8 w1.heap.size g M (some ⟨w6.heap.size, 0, none⟩) 7 [66, 81, 1, 120, 69, 69, 69] (w6.alloc (.cells #[.int .u8 66, .int .u8 81, .int .u8 1, .int .u8 120, .int .u8 69, .int .u8 69, .int .u8 69] 5 (7, 7 + 1))) (k1.step hal) (row_kept (rest := []) (fr := (7, 7 + 1)) (by simpa using heap_alloc_new w6 _) (fun h => Nat.lt_irrefl _ (k1.1 _ h)) (by decide)) (by decide) (by decide) (by decide)
          refine Calls.mono (show Calls Try.prog 9 #[.pointer (some ⟨g, 0, none⟩), .slice (some ⟨w6.heap.size, 0, none⟩) 7 7] _ _ from hf) ?_
          rintro _ w7 ⟨rfl, a0, a1, a2, a3, a4⟩
          have HT7 : Aside0 (Trio w1.heap.size w7 g g2 gx (feedM M [66, 81, 1, 120, 69, 69, 69]).2 M (dOf M tx)) := ⟨⟨a0, S9, T8, a2, (k2.step hal).far a3.1 (fun k hk hl => a3.2 k hl (k4 k hk)), (k3.step hal).far a3.1 (fun k hk hl => a3.2 k hl (k5 k hk)), fun k hk hs => (a1 k hs).elim (k4 k hk) (fun h => Nat.not_lt.2 h ((k2.step hal).1 k hk)), fun k hk hs => (a1 k hs).elim (k5 k hk) (fun h => Nat.not_lt.2 h ((k3.step hal).1 k hk)), k6⟩⟩
          have HB7 : Aside0 (Below w.heap.size w w7) := ⟨HB6.out.trans ((hal.mono HB6.out.size).trans (a4.mono HB1.out.size))⟩
          clear hf hm7 hgo7 k1 k2 k3 k4 k5 k6 a0 a1 a2 a3 a4 hal
          obtain ⟨Mf, hMf⟩ : ∃ Mf, Mf = (feedM M [66, 81, 1, 120, 69, 69, 69]).2 := ⟨_, rfl⟩
          have hfo : okT Mf := by rw [hMf]; exact feed_okT HS.out.1.t _
          have hfl : Mf.told.length + Mf.ahead.length ≤ 1000000 := by
            have := feed_len M [66, 81, 1, 120, 69, 69, 69] HS.out.1.out
            rw [← hMf] at this
            simp only [List.length_cons, List.length_nil] at this
            have := HLN.out; have := HN.out; have := HC1.out; omega
          rw [← hMf] at HT7
          have HFO := Aside0.mk hfo
          have HFL := Aside0.mk hfl
          clear hfo hfl hMf
          obtain ⟨Sa, hma, hga⟩ := HT7.out.old
          have HMa := Aside0.mk hma
          have HGa := Aside0.mk hga
          clear hma hga
          go_wp2_with fail
          refine (next_calls' Sa w1.heap.size g Mf w7 HMa.out HFO.out HFL.out).mono ?_
          rintro _ w8 ⟨rfl, hg8⟩
          obtain ⟨ht8, hb8⟩ := HGa.out w8 _ hg8
          have HT8 := Aside0.mk ht8
          have HB8 : Aside0 (Below w.heap.size w w8) := ⟨HB7.out.trans (hb8.mono HB1.out.size)⟩
          obtain ⟨Sb, hmb, hgb⟩ := ht8.old
          have HMb := Aside0.mk hmb
          have HGb := Aside0.mk hgb
          clear hg8 ht8 hb8 hmb hgb
          go_wp2_with fail
          refine (replies_calls Sb w1.heap.size g (nextM Mf).2 w8 HMb.out).mono ?_
          rintro _ w9 ⟨v9, S9, rfl, b1, b2, b3, b4, b5⟩
          obtain ⟨ht9, hb9⟩ := HGb.out w9 _ ⟨S9, fun k hk => .inl (b1 k hk), b2, b4, b5⟩
          have HB9 : Aside0 (Below w.heap.size w w9) := ⟨HB8.out.trans (hb9.mono HB1.out.size)⟩
          obtain ⟨Sc, hmc, hgc⟩ := ht9.old
          have HMc := Aside0.mk hmc
          have HGc := Aside0.mk hgc
          clear b1 b2 b3 b4 b5 ht9 hb9 hmc hgc
          go_wp2_with fail
          refine (hang_calls Sc w1.heap.size g _ w9 HMc.out).mono ?_
          rintro _ w10 ⟨rfl, hg10⟩
          obtain ⟨ht10, hb10⟩ := HGc.out w10 _ hg10
          have HD10 := Aside0.mk ht10.drop
          have HB10 : Aside0 (Below w.heap.size w w10) := ⟨HB9.out.trans (hb10.mono HB1.out.size)⟩
          clear hg10 ht10 hb10
          go_wp2_with fail
          go_meet
          case rel => exact ⟨g2, M, tx, rfl, rfl, ⟨HS.out⟩, ⟨by have := HLN.out; have := HN.out; have := HC1.out; omega⟩, HD10, HB10⟩
        have N8 : (x.d == 8) = false := beq_eq_false_iff_ne.2 d8
        clear d0 d1 d2 d3 d4 d5 d6 d7 d8
        go_wp2_with fail
        go_meet
        case rel => exact ⟨g, M, tx, rfl, rfl, ⟨HS.out⟩, ⟨by have := HLN.out; have := HN.out; have := HC1.out; omega⟩, ⟨(HD5.out).watch (Below.refl _ _) (fun k hk => hk.elim)⟩, ⟨HB5.out⟩⟩
      case rest =>
        obtain ⟨g2, M2, tx2, rfl, rfl, HS2, HLN2, HD2, HB2⟩ := hcut
        obtain ⟨S2, T2, hm2, hd2, hst2, _⟩ := HD2.out
        have HM2 := Aside0.mk (hm2.step ((Below.refl wc.heap.size wc).drew))
        obtain ⟨_, _, va2, vt2, hdr⟩ := hd2
        obtain ⟨_, _, _, k3, _, _, _⟩ := hdr.cells
        have hdc := (dc HS2.out.1.w).2.2.2.2.1
        have k3 : wc.cell? ⟨gx, 3, none⟩ = some (.int .i64 (dcode M2.wd M2.st)) := k3
        clear hm2 hst2 hdr
        have hle1 : i + 1 ≤ l.length := by have := HC1.out; omega
        have HLE1 := Aside0.mk hle1
        clear hle1 z0 z1 z2 z3 z4 y0 y1 y2 y3 y4 HD5 HB5 H5F
        by_cases h5 : M2.wd = 5
        · have o5 : (M2.wd != 5) = false := by rw [h5]; rfl
          have o7 : (dcode M2.wd M2.st != 7) = false := by rw [hdc.2 h5]; rfl
          have HH5 := Aside0.mk h5
          have HDC := Aside0.mk hdc
          clear h5 hdc
          go_wp2_with fail
          go_region_held3 (fun w' => w'.cell? ⟨gx, 3, none⟩ = some (.int .i64 (dcode M2.wd M2.st))) (first | exact k3 | go_keep) ((refine (open_calls S2 w1.heap.size g2 M2 wc.drew HM2.out).mono ?_; rintro _ _ ⟨rfl, rfl⟩; rw [o5]))
          all_goals go_wp2_with fail
          all_goals go_roundg (l.length - (i + 1))
          case measure => have := HC1.out; omega
          case rel => exact ⟨i + 1, M2, tx2, g2, HLE1.out, rfl, rfl, by go_num, HS2, HLN2, ⟨HD2.out.below ((Below.refl _ _).drew)⟩, ⟨HB2.out.trans ((Below.refl _ wc).drew)⟩⟩
        · have o5 : (M2.wd != 5) = true := bne_iff_ne.2 h5
          have o7 : (dcode M2.wd M2.st != 7) = true := bne_iff_ne.2 (fun h => h5 (hdc.1 h))
          have HH5 := Aside0.mk h5
          have HDC := Aside0.mk hdc
          clear h5 hdc
          go_wp2_with fail
          go_region_held3 (fun w' => w'.cell? ⟨gx, 3, none⟩ = some (.int .i64 (dcode M2.wd M2.st))) (first | exact k3 | go_keep) ((refine (open_calls S2 w1.heap.size g2 M2 wc.drew HM2.out).mono ?_; rintro _ _ ⟨rfl, rfl⟩; rw [o5]))
          all_goals go_wp2_with fail
          all_goals go_roundg (l.length - (i + 1))
          case measure => have := HC1.out; omega
          case rel => exact ⟨i + 1, M2, tx2, g2, HLE1.out, rfl, rfl, by go_num, HS2, HLN2, ⟨HD2.out.below ((Below.refl _ _).drew)⟩, ⟨HB2.out.trans ((Below.refl _ wc).drew)⟩⟩
    · have hi1 : ¬ (i : Int) < (l.length : Int) := by omega
      have HILE := Aside0.mk hile
      clear c1 hile
      obtain ⟨S5, hm5, hgo5⟩ := HD.out.prog
      have HM5 := Aside0.mk hm5
      have HB5 := HB
      clear hm5 hgo5
      obtain ⟨S6, T6, hm6, hd6, hst6, _⟩ := HD.out
      have HM6 := Aside0.mk hm6
      have HD6 := Aside0.mk hd6
      have HST6 := Aside0.mk hst6
      clear hm6 hd6 hst6
      go_wp2_with fail
      refine (replies_calls S6 w1.heap.size g M wr HM6.out).mono ?_
      rintro _ w7 ⟨v7, S7, rfl, s1, s2, s3, s4, s5⟩
      obtain ⟨A7, n7, rfl⟩ := Kd.R_slice s3
      have hd7 := HD6.out.far s4.1 (fun k hk hl => s4.2 k hl (fun h => HST6.out k h hk))
      have HD7 := Aside0.mk hd7
      have HR7 := Aside0.mk (Kd.R_reads' s3)
      have HB7 : Aside0 (Below w.heap.size w w7) := ⟨HB.out.trans (s5.mono HB1.out.size)⟩
      have HR7s : Aside0 (∀ w', Kept w7 w' T6 → Kd.C k42 w' A7 M.told.length M.told) := ⟨fun w' hk => (Kd.R_reads' (Kd.R_step s3 (fun k hk2 hl => hk.2 k hl (fun ht => HST6.out k hk2.1 ht)))).2.2⟩
      clear s1 s2 s3 s4 s5 hd7
      go_wp2_with fail
      refine (dreplies_calls T6 w1.heap.size gx (dOf M tx) w7 HD7.out).mono ?_
      rintro _ w8 ⟨v8, T8, rfl, s1, s2, s3, s4, s5⟩
      have s3 : Kd.R k42 42 w8 w1.heap.size (fun k => T6 k ∧ ¬ T8 k) v8 M.told := s3
      obtain ⟨A8, n8, rfl⟩ := Kd.R_slice s3
      have HR8 := Aside0.mk (Kd.R_reads' s3)
      have HC7 := Aside0.mk (HR7s.out w8 s4)
      have HB8 : Aside0 (Below w.heap.size w w8) := ⟨HB7.out.trans (s5.mono HB1.out.size)⟩
      clear s1 s2 s3 s4 s5
      go_wp2_with fail
      have hlm : M.told.length ≤ 1000000000 := by have := HLN.out; have := HN.out; have := HILE.out; omega
      refine (stopcockref19_Same.calls (M.told.length + 1) A7 n7 M.told A8 n8 M.told true w8 HC7.out HR7.out.2.1 HR8.out.2.2 HR8.out.2.1 (same_refl M.told hlm)).mono ?_
      rintro _ w9 ⟨rfl, hd⟩
      have HB9 : Aside0 (Below w.heap.size w w9) := ⟨by obtain ⟨n9, h9⟩ := hd.out; rw [h9]; exact pw_below_drewN HB8.out n9⟩
      clear hd hlm
      go_wp2_with fail
      go_ret
      exact ⟨rfl, HB9.out⟩

end Go.Proofs.Ythjjblnkaikmlaa.Mx
