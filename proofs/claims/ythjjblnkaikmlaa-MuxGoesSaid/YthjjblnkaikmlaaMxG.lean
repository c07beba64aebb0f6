/- MuxOnce: one reply a frame, in order: the plain law; Turn and serve walked. -/
import Derived.Test.YthjjblnkaikmlaaMxE
import Derived.Deep.RegionWith
import Derived.Handy
import Derived.Lib.SliceRun
import Derived.StillTailTactics
namespace Go.Proofs.Ythjjblnkaikmlaa.Mx
open Go.RowKit Go.Proofs.Ythjjblnkaikmlaa.St Go.Proofs.Ythjjblnkaikmlaa.PMuxOnce Go.Proofs.YthjjblnkaikmlaaW.PrintWords Go.Proofs.YthjjblnkaikmlaaW.PrintLast Go.Proofs.YthjjblnkaikmlaaW.PrintMore
set_option linter.unusedVariables false
set_option linter.unusedSimpArgs false
attribute [local go_sem] max2_int min2_int max_two min_two
attribute [local go_sem high] eqA42
/-! One reply a frame, in order: in plain Lean. -/
def Fit (f : S44) (k : Int) : Prop :=
  if f.f0 = 66 then k = 4 ∨ k = 6 ∨ k = 7 ∨ k = 1 else if f.f0 = 81 then k = 4 ∨ k = 6 ∨ k = 2 else if f.f0 = 69 then k = 6 ∨ k = 7 ∨ k = 3 else k = 8
def Fits : List S44 → List S42 → Prop
  | [], [] => True
  | f :: a, r :: t => Fit f r.f0 ∧ Fits a t
  | _, _ => False
theorem Fits.snoc : ∀ {a : List S44} {t : List S42} {f : S44} {r : S42}, Fits a t → Fit f r.f0 → Fits (a ++ [f]) (t ++ [r]) := by
  intro a
  induction a with
  | nil =>
    intro t f r h hf
    cases t with
    | nil => exact ⟨hf, trivial⟩
    | cons x t => exact h.elim
  | cons y a ih =>
    intro t f r h hf
    cases t with
    | nil => exact h.elim
    | cons x t => exact ⟨h.1, ih h.2 hf⟩
theorem Fits.len : ∀ {a : List S44} {t : List S42}, Fits a t → a.length = t.length := by
  intro a
  induction a with
  | nil =>
    intro t h
    cases t with
    | nil => rfl
    | cons x t => exact h.elim
  | cons y a ih =>
    intro t h
    cases t with
    | nil => exact h.elim
    | cons x t => rw [List.length_cons, List.length_cons, ih h.2]
theorem Fits.get : ∀ {a : List S44} {t : List S42} {i : Nat} {f : S44} {r : S42}, Fits a t → a[i]? = some f → t[i]? = some r → Fit f r.f0 := by
  intro a
  induction a with
  | nil => intro t i f r _ h; simp at h
  | cons y a ih =>
    intro t i f r h h1 h2
    cases t with
    | nil => exact h.elim
    | cons x t =>
      cases i with
      | zero =>
        rw [List.getElem?_cons_zero] at h1 h2
        injection h1 with h1
        injection h2 with h2
        rw [← h1, ← h2]
        exact h.1
      | succ i => exact ih h.2 (by simpa using h1) (by simpa using h2)
/-- No frame but the last is a bad end. -/
def LastBad : List S44 → Prop
  | [] => True
  | f :: r => okF f ∧ LastBad r ∨ r = []
def Open1 (F : List S44) (M : MSt) : Prop :=
  (M.wd = 0 ∨ M.wd = 2 ∨ M.wd = 4) ∧ (M.st = 66 ∨ M.st = 76) ∧ LastBad M.ahead ∧ ∃ done pnd, F = done ++ pnd ++ M.ahead ∧ (∀ f ∈ done ++ pnd, okF f) ∧ Fits done M.told ∧ (if M.wd = 2 then ∃ f, pnd = [f] ∧ f.f0 = 81 else pnd = [])
def Shut1 (F : List S44) (M : MSt) : Prop := M.wd = 5 ∧ M.ahead = [] ∧ (M.st = 66 ∨ M.st = 76) ∧ Fits F M.told
def In1 (F : List S44) (M : MSt) : Prop := Open1 F M ∨ Shut1 F M
def busy : S42 := ⟨4, 0, ⟨#[]⟩⟩
def NB (F : List S44) (k n : Nat) (p : (Int × ByteArray) × MSt) : Prop :=
  p.2.told.length + p.2.ahead.length ≤ n ∧ okT p.2 ∧
  ((p.1.1 = 0 ∧ Fits F p.2.told ∧ ((p.2.wd = 0 ∧ ∀ f ∈ F, okF f) ∨ p.2.wd = 5)) ∨
   (p.1.1 = 1 ∧ ((gotM p.2).1 = 0 ∧ In1 F (gotM p.2).2 ∧ rk (gotM p.2).2 < k) ∧ ((turnM p.2 busy).1 = 0 ∧ In1 F (turnM p.2 busy).2 ∧ rk (turnM p.2 busy).2 < k)) ∨
   (p.1.1 = 2 ∧ ((lostM p.2).1 = 0 ∧ In1 F (lostM p.2).2 ∧ rk (lostM p.2).2 < k) ∧ ∀ t, (answerM p.2 t).1 = 0 ∧ In1 F (answerM p.2 t).2 ∧ rk (answerM p.2 t).2 < k) ∨
   (p.1.1 = 3 ∧ In1 F p.2 ∧ rk p.2 < k))
theorem NB.weak {F : List S44} {k k' n n' : Nat} {p : (Int × ByteArray) × MSt} (h : NB F k n p) (hk : k ≤ k') (hn : n ≤ n') : NB F k' n' p := by
  obtain ⟨h0, ho, h⟩ := h
  refine ⟨Nat.le_trans h0 hn, ho, ?_⟩
  rcases h with h | ⟨h1, ⟨a1, a2, a3⟩, b1, b2, b3⟩ | ⟨h1, ⟨a1, a2, a3⟩, h3⟩ | ⟨h1, h2, h3⟩
  · exact .inl h
  · exact .inr (.inl ⟨h1, ⟨a1, a2, Nat.lt_of_lt_of_le a3 hk⟩, b1, b2, Nat.lt_of_lt_of_le b3 hk⟩)
  · exact .inr (.inr (.inl ⟨h1, ⟨a1, a2, Nat.lt_of_lt_of_le a3 hk⟩, fun t => ⟨(h3 t).1, (h3 t).2.1, Nat.lt_of_lt_of_le (h3 t).2.2 hk⟩⟩))
  · exact .inr (.inr (.inr ⟨h1, h2, Nat.lt_of_lt_of_le h3 hk⟩))
theorem okF_app {done : List S44} {f : S44} (h : ∀ x ∈ done, okF x) (hf : okF f) : ∀ x ∈ done ++ [f], okF x := fun x hx => (List.mem_append.1 hx).elim (h x) (fun hx => by rw [List.mem_singleton] at hx; exact hx ▸ hf)
theorem goL_NB (F : List S44) : ∀ (r : List S44) (M : MSt) (done : List S44), M.ahead = r → M.wd = 0 → (M.st = 66 ∨ M.st = 76) → LastBad r → F = done ++ r → (∀ f ∈ done, okF f) → Fits done M.told → NB F (3 * r.length) (M.told.length + r.length) (goL M r) := by
  intro r
  induction r with
  | nil =>
    intro M done ha hw hs hlb hF hd ht
    refine ⟨?_, hs.elim .inl (fun h => .inr (.inl h)), .inl ⟨rfl, ?_, .inl ⟨hw, ?_⟩⟩⟩
    · show M.told.length + M.ahead.length ≤ _
      rw [ha]
      exact Nat.le_refl _
    · rw [hF, List.append_nil]; exact ht
    · rw [hF, List.append_nil]; exact hd
  | cons f r ih =>
    intro M done ha hw hs hlb hF hd ht
    have hF1 : F = (done ++ [f]) ++ r := by rw [hF, List.append_assoc]; rfl
    have step : ∀ k : Int, okF f → LastBad r → Fit f k → takeM { M with ahead := r } f = (0, tellM { M with ahead := r } k) → NB F (3 * (f :: r).length) (M.told.length + (f :: r).length) (goL M (f :: r)) := fun k hok hl hk he => by
      rw [goL_one hw he, if_pos rfl]
      have := ih (tellM { M with ahead := r } k) (done ++ [f]) rfl hw hs hl hF1 (okF_app hd hok) (ht.snoc hk)
      exact this.weak (by simp only [List.length_cons]; omega) (by simp only [tellM, List.length_append, List.length_cons, List.length_nil]; omega)
    by_cases hok : okF f
    · have hl : LastBad r := by
        rcases hlb with h | h
        · exact h.2
        · rw [h]; trivial
      rcases hok with h | h | h
      · rcases hs with hs | hs
        · have he : takeM { M with ahead := r } f = (1, waitM { M with ahead := r } false ⟨#[]⟩) := by unfold takeM; rw [if_pos h, if_pos hs]
          rw [goL_one hw he, if_neg (by decide), if_neg (by decide)]
          refine ⟨by simp only [waitM, List.length_cons]; omega, .inl hs, .inr (.inl ⟨rfl, ⟨rfl, ?_⟩, rfl, ?_⟩)⟩
          · refine ⟨.inl ⟨.inl rfl, .inr rfl, hl, done ++ [f], [], by rw [hF1, List.append_nil]; rfl, by rw [List.append_nil]; exact okF_app hd (.inl h), ht.snoc (by show Fit f 1; unfold Fit; rw [if_pos h]; simp), rfl⟩, ?_⟩
            show 3 * r.length + 0 < 3 * (r.length + 1)
            omega
          · refine ⟨.inl ⟨.inl rfl, .inl rfl, hl, done ++ [f], [], by rw [hF1, List.append_nil]; rfl, by rw [List.append_nil]; exact okF_app hd (.inl h), ht.snoc (by show Fit f 4; unfold Fit; rw [if_pos h]; simp), rfl⟩, ?_⟩
            show 3 * r.length + 0 < 3 * (r.length + 1)
            omega
        · exact step 7 (.inl h) hl (by unfold Fit; rw [if_pos h]; simp) (by unfold takeM; rw [if_pos h, if_neg (by simp [hs]), if_pos hs])
      · rcases hs with hs | hs
        · have he : takeM { M with ahead := r } f = (1, waitM { M with ahead := r } true f.f1) := by unfold takeM; rw [if_neg (by omega), if_pos h, if_pos hs]
          rw [goL_one hw he, if_neg (by decide), if_neg (by decide)]
          refine ⟨by simp only [waitM, List.length_cons]; omega, .inl hs, .inr (.inl ⟨rfl, ⟨rfl, ?_⟩, rfl, ?_⟩)⟩
          · refine ⟨.inl ⟨.inr (.inl rfl), .inl hs, hl, done, [f], hF1, okF_app hd (.inr (.inl h)), ht, f, rfl, h⟩, ?_⟩
            show 3 * r.length + 2 < 3 * (r.length + 1)
            omega
          · refine ⟨.inl ⟨.inl rfl, .inl rfl, hl, done ++ [f], [], by rw [hF1, List.append_nil]; rfl, by rw [List.append_nil]; exact okF_app hd (.inr (.inl h)), ht.snoc (by show Fit f 4; unfold Fit; rw [if_neg (by omega), if_pos h]; simp), rfl⟩, ?_⟩
            show 3 * r.length + 0 < 3 * (r.length + 1)
            omega
        · have he : takeM { M with ahead := r } f = (2, sentM { M with ahead := r } f.f1) := by unfold takeM; rw [if_neg (by omega), if_pos h, if_neg (by simp [hs]), if_pos hs]
          rw [goL_one hw he, if_neg (by decide), if_pos rfl]
          refine ⟨by simp only [sentM, List.length_cons]; omega, .inr (.inl hs), .inr (.inr (.inl ⟨rfl, ⟨rfl, ?_⟩, fun t => ⟨rfl, ?_⟩⟩))⟩
          · refine ⟨.inl ⟨.inl rfl, .inl rfl, hl, done ++ [f], [], by rw [hF1, List.append_nil]; rfl, by rw [List.append_nil]; exact okF_app hd (.inr (.inl h)), ht.snoc (by show Fit f 6; unfold Fit; rw [if_neg (by omega), if_pos h]; simp), rfl⟩, ?_⟩
            show 3 * r.length + 0 < 3 * (r.length + 1)
            omega
          · refine ⟨.inl ⟨.inl rfl, .inr rfl, hl, done ++ [f], [], by rw [hF1, List.append_nil]; rfl, by rw [List.append_nil]; exact okF_app hd (.inr (.inl h)), ht.snoc (by show Fit f 2; unfold Fit; rw [if_neg (by omega), if_pos h]; simp), rfl⟩, ?_⟩
            show 3 * r.length + 0 < 3 * (r.length + 1)
            omega
      · rcases hs with hs | hs
        · exact step 7 (.inr (.inr h)) hl (by unfold Fit; rw [if_neg (by omega), if_neg (by omega), if_pos h]; simp) (by unfold takeM; rw [if_neg (by omega), if_neg (by omega), if_pos h, if_pos hs])
        · have he : takeM { M with ahead := r } f = (3, setSt (tellM { M with ahead := r } 3) 66) := by unfold takeM; rw [if_neg (by omega), if_neg (by omega), if_pos h, if_neg (by simp [hs]), if_pos hs]
          rw [goL_one hw he, if_neg (by decide), if_neg (by decide)]
          refine ⟨by simp only [setSt, tellM, List.length_append, List.length_cons, List.length_nil]; omega, .inl rfl, .inr (.inr (.inr ⟨rfl, .inl ⟨.inl hw, .inl rfl, hl, done ++ [f], [], by rw [hF1, List.append_nil]; rfl, by rw [List.append_nil]; exact okF_app hd (.inr (.inr h)), ht.snoc (by show Fit f 3; unfold Fit; rw [if_neg (by omega), if_neg (by omega), if_pos h]; simp), ?_⟩, ?_⟩))⟩
          · show (if M.wd = 2 then _ else _)
            rw [if_neg (by omega)]
          · show 3 * r.length + (if M.wd = 2 then _ else if M.wd = 4 then _ else _) < _
            rw [if_neg (by omega), if_neg (by omega), List.length_cons]; omega
    · have hr : r = [] := by
        rcases hlb with h | h
        · exact absurd h.1 hok
        · exact h
      subst hr
      have n1 : f.f0 ≠ 66 := fun h => hok (.inl h)
      have n2 : f.f0 ≠ 81 := fun h => hok (.inr (.inl h))
      have n3 : f.f0 ≠ 69 := fun h => hok (.inr (.inr h))
      have hfit : Fits F (M.told ++ [⟨8, 0, ⟨#[]⟩⟩]) := by
        rw [hF]
        exact ht.snoc (by show Fit f 8; unfold Fit; rw [if_neg n1, if_neg n2, if_neg n3])
      rcases hs with hs | hs
      · have he : takeM { M with ahead := [] } f = (0, hangM (tellM { M with ahead := [] } 8)) := by unfold takeM; rw [if_neg n1, if_neg n2, if_neg n3, if_neg (by show ¬ M.st = 76; omega)]
        rw [goL_one hw he, if_pos rfl]
        refine ⟨by simp only [goL, hangM, tellM, List.length_append, List.length_cons, List.length_nil]; omega, .inl hs, .inl ⟨rfl, hfit, .inr rfl⟩⟩
      · have he : takeM { M with ahead := [] } f = (3, hangM (tellM { M with ahead := [] } 8)) := by unfold takeM; rw [if_neg n1, if_neg n2, if_neg n3, if_pos hs]
        rw [goL_one hw he, if_neg (by decide), if_neg (by decide)]
        refine ⟨by simp only [hangM, tellM, List.length_append, List.length_cons, List.length_nil]; omega, .inr (.inl hs), .inr (.inr (.inr ⟨rfl, .inr ⟨rfl, rfl, .inr hs, hfit⟩, ?_⟩))⟩
        show 3 * 0 + 0 < 3 * 1
        omega
theorem next_NB (F : List S44) (M : MSt) (h : In1 F M) : NB F (rk M) (M.told.length + M.ahead.length) (nextM M) := by
  rcases h with ⟨hw, hs, hlb, done, pnd, hF, hd, ht, hp⟩ | ⟨hw, ha, hs, ht⟩
  · have hoT : okT M := hs.elim .inl (fun h => .inr (.inl h))
    unfold nextM
    rcases hw with hw | hw | hw
    · rw [if_neg (by omega), if_neg (by omega)]
      rw [if_neg (by omega)] at hp
      subst hp
      rw [List.append_nil] at hF hd
      have e2 : rk M = 3 * M.ahead.length := by unfold rk; rw [if_neg (by omega), if_neg (by omega)]; rfl
      rw [e2]
      exact goL_NB F M.ahead M done rfl hw hs hlb hF hd ht
    · rw [if_pos hw] at hp ⊢
      obtain ⟨f, rfl, hf⟩ := hp
      have hk : rk M = 3 * M.ahead.length + 2 := by unfold rk; rw [if_pos hw]
      refine ⟨Nat.le_refl _, hoT, .inr (.inr (.inl ⟨rfl, ⟨rfl, ?_⟩, fun t => ⟨rfl, ?_⟩⟩))⟩
      · refine ⟨.inl ⟨.inl rfl, .inl rfl, hlb, done ++ [f], [], by rw [List.append_nil]; exact hF, by rw [List.append_nil]; exact hd, ht.snoc (by show Fit f 6; unfold Fit; rw [if_neg (by omega), if_pos hf]; simp), rfl⟩, ?_⟩
        rw [hk]
        show 3 * M.ahead.length + 0 < _
        omega
      · refine ⟨.inl ⟨?_, .inr rfl, hlb, done ++ [f], [], by rw [List.append_nil]; exact hF, by rw [List.append_nil]; exact hd, ht.snoc (by show Fit f 2; unfold Fit; rw [if_neg (by omega), if_pos hf]; simp), ?_⟩, ?_⟩
        · show (if M.alone = true then (4 : Int) else 0) = 0 ∨ _ ∨ (if M.alone = true then (4 : Int) else 0) = 4
          split <;> simp
        · show (if (if M.alone = true then (4 : Int) else 0) = 2 then _ else _)
          rw [if_neg (by split <;> decide)]
        · rw [hk]
          show 3 * M.ahead.length + (if (if M.alone = true then (4 : Int) else 0) = 2 then 2 else if (if M.alone = true then (4 : Int) else 0) = 4 then 1 else 0) < _
          rw [if_neg (by split <;> decide)]
          split <;> simp
    · rw [if_neg (by omega), if_pos hw]
      rw [if_neg (by omega)] at hp
      subst hp
      refine ⟨Nat.le_refl _, .inl rfl, .inr (.inr (.inr ⟨rfl, .inl ⟨.inl rfl, .inl rfl, hlb, done, [], hF, hd, ht, rfl⟩, ?_⟩))⟩
      have hk : rk M = 3 * M.ahead.length + 1 := by unfold rk; rw [if_neg (by omega), if_pos hw]
      rw [hk]
      show 3 * M.ahead.length + 0 < _
      omega
  · unfold nextM
    rw [if_neg (by omega), if_neg (by omega), ha]
    exact ⟨by show M.told.length + M.ahead.length ≤ _; rw [ha]; exact Nat.le_refl _, hs.elim .inl (fun h => .inr (.inl h)), .inl ⟨rfl, ht, .inr hw⟩⟩
set_option maxHeartbeats 4000000 in
set_option maxRecDepth 100000 in
theorem turn_no (S : Nat → Prop) (b g : Nat) (M : MSt) (r : S42) (w : World) (h : MX S b w g M) (hn : ¬ turnOk r) :
    Calls Try.prog 20 #[.pointer (some ⟨g, 0, none⟩), .agg #[.int .i64 r.f0, .int .i64 r.f1, .string r.f2]] w fun e w' => e = .returned (.int .i64 1) ∧ Goes S b w g w' M := by
  obtain ⟨k, n, y⟩ := r
  have HG : Aside0 (Goes S b w g (w.alloc (.cells #[.int .i64 k, .int .i64 n, .string y] 42)) M) := ⟨Goes.below h (below_alloc (Below.refl _ _) _)⟩
  have h1f : (w.alloc (.cells #[.int .i64 k, .int .i64 n, .string y] 42)).heap[w.heap.size]? = some (.cells #[.int .i64 k, .int .i64 n, .string y] 42 (0, 0)) := heap_alloc_new w _
  obtain ⟨w1, hw1⟩ : ∃ w1, w.alloc (.cells #[.int .i64 k, .int .i64 n, .string y] 42) = w1 := ⟨_, rfl⟩
  obtain ⟨z, hz⟩ : ∃ z, z = w.heap.size := ⟨_, rfl⟩
  rw [hw1] at HG h1f
  rw [← hz] at h1f
  have hz' := hz.symm
  have z0 : w1.cell? ⟨z, 0, none⟩ = some (.int .i64 k) := (blk_cell h1f 0).trans rfl
  have z1 : w1.cell? ⟨z, 1, none⟩ = some (.int .i64 n) := (blk_cell h1f 1).trans rfl
  have z2 : w1.cell? ⟨z, 2, none⟩ = some (.string y) := (blk_cell h1f 2).trans rfl
  have hy : (y.toList == ([] : List UInt8)) = decide (y.size = 0) := nil_iff y
  have hn1 : ¬ (k = 4 ∧ n = 0 ∧ y.size = 0) := fun h => hn (.inl h)
  have hn2 : ¬ (k = 5 ∧ y.size = 0 ∧ 1 ≤ n ∧ n ≤ 7) := fun h => hn (.inr h)
  have HN := Aside0.mk (And.intro hn1 hn2)
  clear h1f hz h hn hn1 hn2
  by_cases k4 : k = 4 <;> by_cases k5 : k = 5 <;> by_cases y0 : y.size = 0 <;> by_cases n0 : n = 0 <;> by_cases n1 : 1 ≤ n <;> by_cases n7 : n ≤ 7
  all_goals first
    | (exfalso; have := HN.out.1; have := HN.out.2; omega)
    | (have e4 : (k == 4) = decide (k = 4) := rfl
       have e5 : (k == 5) = decide (k = 5) := rfl
       have e0 : (n == 0) = decide (n = 0) := rfl
       first | rw [decide_eq_true k4] at e4 | rw [decide_eq_false k4] at e4
       first | rw [decide_eq_true k5] at e5 | rw [decide_eq_false k5] at e5
       first | rw [decide_eq_true n0] at e0 | rw [decide_eq_false n0] at e0
       first | rw [decide_eq_true y0] at hy | rw [decide_eq_false y0] at hy
       clear k4 k5 y0 n0
       go_enter Try.func20, Try.ntmps20
       go_wp2_with fail
       all_goals go_ret
       all_goals exact ⟨rfl, HG.out⟩)
set_option maxHeartbeats 4000000 in
set_option maxRecDepth 100000 in
theorem turn_calls (S : Nat → Prop) (b g : Nat) (M : MSt) (r : S42) (w : World) (h : MX S b w g M) (hl : M.told.length ≤ 1000000000) :
    Calls Try.prog 20 #[.pointer (some ⟨g, 0, none⟩), .agg #[.int .i64 r.f0, .int .i64 r.f1, .string r.f2]] w fun e w' => e = .returned (.int .i64 (turnM M r).1) ∧ Goes S b w g w' (turnM M r).2 := by
  by_cases hok : turnOk r
  rotate_left 1
  · rw [show turnM M r = (1, M) from by unfold turnM; rw [if_neg hok]]
    exact turn_no S b g M r w h hok
  obtain ⟨k, n, y⟩ := r
  have HOK := Aside0.mk hok
  have h0 := h.step (below_alloc (Below.refl w.heap.size w) (.cells #[.int .i64 k, .int .i64 n, .string y] 42))
  have h1f : (w.alloc (.cells #[.int .i64 k, .int .i64 n, .string y] 42)).heap[w.heap.size]? = some (.cells #[.int .i64 k, .int .i64 n, .string y] 42 (0, 0)) := heap_alloc_new w _
  have h1b : Below w.heap.size w (w.alloc (.cells #[.int .i64 k, .int .i64 n, .string y] 42)) := below_alloc (Below.refl _ _) _
  obtain ⟨w1, hw1⟩ : ∃ w1, w.alloc (.cells #[.int .i64 k, .int .i64 n, .string y] 42) = w1 := ⟨_, rfl⟩
  obtain ⟨z, hz⟩ : ∃ z, z = w.heap.size := ⟨_, rfl⟩
  rw [hw1] at h0 h1f h1b
  rw [← hz] at h1f
  have hzS : ¬ S z := fun hs => Nat.lt_irrefl _ (hz ▸ h.1 z hs)
  have HBW := Aside0.mk h.2.1
  have HB1 := Aside0.mk h1b
  have hz' := hz.symm
  have z0 : w1.cell? ⟨z, 0, none⟩ = some (.int .i64 k) := (blk_cell h1f 0).trans rfl
  have z1 : w1.cell? ⟨z, 1, none⟩ = some (.int .i64 n) := (blk_cell h1f 1).trans rfl
  have z2 : w1.cell? ⟨z, 2, none⟩ = some (.string y) := (blk_cell h1f 2).trans rfl
  have HG0 : Aside0 (Goes S b w g w1 M) := ⟨S, fun k hk => .inl hk, h0, Kept.of_below h1b S, h1b.mono h.2.1⟩
  obtain ⟨i1, i2, Sr, gr, vt, va, vb, hm⟩ := h0
  obtain ⟨c0, c1, c2, c3, c4, c5, c6, c7⟩ := hm.cells
  have f3 := hm.frozen 3
  have f4 := hm.frozen 4
  have HM := Aside0.mk hm
  have HI := Aside0.mk i2
  have HI1 := Aside0.mk i1
  have HL := Aside0.mk hl
  have hzg : z ≠ g := fun e => hzS (e ▸ hm.1)
  have hy0 : y.size = 0 := hok.elim (fun h => h.2.2) (fun h => h.2.1)
  have hy : (y.toList == ([] : List UInt8)) = true := by rw [nil_iff, decide_eq_true hy0]
  have q3 : ((w1.setCell ⟨g, 4, none⟩ (.int .i64 0)).setCell ⟨g, 3, none⟩ (.iface 66 (.agg #[]))).heap[z]? = some (.cells #[.int .i64 k, .int .i64 n, .string y] 42 (0, 0)) := (Go.Deep.blk_setCell_other _ ⟨g, 3, none⟩ _ z hzg).trans ((Go.Deep.blk_setCell_other w1 ⟨g, 4, none⟩ _ z hzg).trans h1f)
  have hm3 := (hm.fld 4 (.int .i64 0) { M with wd := 0 } rfl rfl rfl rfl).fld 3 (.iface 66 (.agg #[])) { M with wd := 0, st := 66 } rfl rfl rfl rfl
  have hk3 := ((Kept.refl w1 S).setCell (p := ⟨g, 4, none⟩) (.inl hm.1) (.int .i64 0)).setCell (p := ⟨g, 3, none⟩) (.inl hm.1) (.iface 66 (.agg #[]))
  have hb3 := Below.setCell (p := ⟨g, 3, none⟩) (Below.setCell (p := ⟨g, 4, none⟩) (Below.refl b w1) hm.2.1 (.int .i64 0)) hm.2.1 (.iface 66 (.agg #[]))
  obtain ⟨w3, hw3⟩ : ∃ w3, (w1.setCell ⟨g, 4, none⟩ (.int .i64 0)).setCell ⟨g, 3, none⟩ (.iface 66 (.agg #[])) = w3 := ⟨_, rfl⟩
  rw [hw3] at q3 hm3 hk3 hb3
  have hs3 : w3.heap.size = w1.heap.size := by rw [← hw3]; simp [World.setCell]
  have y0 : w3.cell? ⟨z, 0, none⟩ = some (.int .i64 k) := (blk_cell q3 0).trans rfl
  have y1 : w3.cell? ⟨z, 1, none⟩ = some (.int .i64 n) := (blk_cell q3 1).trans rfl
  have y2 : w3.cell? ⟨z, 2, none⟩ = some (.string y) := (blk_cell q3 2).trans rfl
  have d7 := hm3.cells.2.2.2.2.2.2.2
  have hca : ∀ o, (w3.alloc o).cell? ⟨g, 7, none⟩ = some vb := fun o => Lib.cell?_alloc_some o d7
  have HM3 := Aside0.mk hm3
  have HK3 := Aside0.mk hk3
  have HB3 := Aside0.mk hb3
  have HW3 : Aside0 (b ≤ w3.heap.size) := ⟨by rw [hs3]; exact i2⟩
  have HS3 : Aside0 (∀ k, S k → k < w3.heap.size) := ⟨fun k hk => by rw [hs3]; exact i1 k hk⟩
  clear hm i1 i2 hl hzS h1f h1b hz q3 hm3 hk3 hb3 hs3 hy0 hok h
  by_cases hw : M.wd = 1
  rotate_left 1
  · have e1 : (M.wd != 1) = true := bne_iff_ne.2 hw
    have e : turnM M ⟨k, n, y⟩ = (3, M) := by unfold turnM; rw [if_pos HOK.out, if_neg hw]
    rw [e]
    have HWD := Aside0.mk hw
    clear e hw
    rcases HOK.out with ⟨hk, hn, _⟩ | ⟨hk, _, hn1, hn7⟩
    · have hk : k = 4 := hk
      have hn : n = 0 := hn
      subst hk hn
      go_enter Try.func20, Try.ntmps20
      go_wp2_with fail
      all_goals go_ret
      all_goals exact ⟨rfl, HG0.out⟩
    · have hk : k = 5 := hk
      have hn1 : 1 ≤ n := hn1
      have hn7 : n ≤ 7 := hn7
      subst hk
      go_enter Try.func20, Try.ntmps20
      go_wp2_with fail
      all_goals go_ret
      all_goals exact ⟨rfl, HG0.out⟩
  · have e1 : (M.wd != 1) = false := by rw [hw]; rfl
    have e : turnM M ⟨k, n, y⟩ = (0, { M with wd := 0, st := 66, told := M.told ++ [⟨k, n, y⟩] }) := by unfold turnM; rw [if_pos HOK.out, if_pos hw]
    rw [e]
    have HWD := Aside0.mk hw
    clear e hw
    rcases HOK.out with ⟨hk, hn, _⟩ | ⟨hk, _, hn1, hn7⟩
    · have hk : k = 4 := hk
      have hn : n = 0 := hn
      subst hk hn
      go_enter Try.func20, Try.ntmps20
      go_wp2_with fail
      go_region_law (refine Kd.R_append_step k42 (w0 := w3.drew) (W := w3.drew) b rfl (.tmp 50) (.tmp 52) 39 42 (.agg #[(.int .i64 0), (.int .i64 0), (.string ⟨#[]⟩)]) 32 rfl Try.underlying39 info42 rfl (by decide) (by omega) vb M.told (⟨4, 0, y⟩ : S42) [.int .i64 4, .int .i64 0, .string y] (fun k => (S k ∨ w3.heap.size ≤ k) ∧ ¬ Sr k) (fun _ => False) (by simp [Act.eval, Act.put]) (by simp [Act.eval, Act.put]) (k42_mkM _ _ _ (⟨4, 0, y⟩ : S42)) (fun _ hk => hk.elim) (fun _ hk => ⟨.inr hk, fun hs => Nat.not_lt.2 hk (HS3.out _ (HM3.out.2.2.2.1 _ hs))⟩) (Kd.R_mono (HM3.out.step (w1 := w3.drew) (fun _ _ _ => rfl)).2.2.2.2.2.2.2.1 (fun _ hk => ⟨.inl hk.1, hk.2⟩)) (Below.refl _ _) HW3.out (by have := HL.out; omega) ?_; intro v4 w4 ho hb hg hat; obtain ⟨m4, A4, n4, e4⟩ : ∃ m1 A1 n1, v4 = Value.slice A1 m1 n1 := (by obtain ⟨A, c, e⟩ := Kd.R_slice ho; exact ⟨_, A, c, e⟩); subst e4; have HQ := Aside0.mk (MR.tell ((HM3.out.step (w1 := w3.drew) (fun _ _ _ => rfl)).mono (S' := fun k => S k ∨ w3.heap.size ≤ k) (fun _ hk => .inl hk)) hg ho); have hbk := blk_grown (HM3.out.step (w1 := w3.drew) (fun _ _ _ => rfl)).blk hg (Kd.R_ne (HM3.out.step (w1 := w3.drew) (fun _ _ _ => rfl)).2.2.2.2.2.2.2.1 (HM3.out.step (w1 := w3.drew) (fun _ _ _ => rfl)).blk (by decide)); have hf1 : w4.frozen? ⟨g, 7, none⟩ = false := blk_frozen hbk 7; have hd1 : w4.cell? ⟨g, 7, none⟩ = some vb := (blk_cell hbk 7).trans rfl; have HG := Aside0.mk hg; have HB := Aside0.mk hb; clear ho hb hg hat hbk)
      all_goals go_wp2
      all_goals go_ret
      all_goals exact ⟨rfl, Goes.from_ HB1.out HBW.out (Goes.then_ (fun _ h => .inl h) HK3.out HB3.out (Goes.of HQ.out HW3.out ((Kept.of_grown HG.out (Kept.drew (Kept.refl w3 S)) (fun k hk => .inl (HM3.out.2.2.2.2.2.2.2.1.1 k hk).1)).setCell (.inl HM3.out.1) _) (Below.setCell (((Below.refl b w3).drew).trans HB.out) HM3.out.2.1 _)))⟩
    · have hk : k = 5 := hk
      have hn1 : 1 ≤ n := hn1
      have hn7 : n ≤ 7 := hn7
      subst hk
      go_enter Try.func20, Try.ntmps20
      go_wp2_with fail
      go_region_law (refine Kd.R_append_step k42 (w0 := w3.drew) (W := w3.drew) b rfl (.tmp 50) (.tmp 52) 39 42 (.agg #[(.int .i64 0), (.int .i64 0), (.string ⟨#[]⟩)]) 32 rfl Try.underlying39 info42 rfl (by decide) (by omega) vb M.told (⟨5, n, y⟩ : S42) [.int .i64 5, .int .i64 n, .string y] (fun k => (S k ∨ w3.heap.size ≤ k) ∧ ¬ Sr k) (fun _ => False) (by simp [Act.eval, Act.put]) (by simp [Act.eval, Act.put]) (k42_mkM _ _ _ (⟨5, n, y⟩ : S42)) (fun _ hk => hk.elim) (fun _ hk => ⟨.inr hk, fun hs => Nat.not_lt.2 hk (HS3.out _ (HM3.out.2.2.2.1 _ hs))⟩) (Kd.R_mono (HM3.out.step (w1 := w3.drew) (fun _ _ _ => rfl)).2.2.2.2.2.2.2.1 (fun _ hk => ⟨.inl hk.1, hk.2⟩)) (Below.refl _ _) HW3.out (by have := HL.out; omega) ?_; intro v4 w4 ho hb hg hat; obtain ⟨m4, A4, n4, e4⟩ : ∃ m1 A1 n1, v4 = Value.slice A1 m1 n1 := (by obtain ⟨A, c, e⟩ := Kd.R_slice ho; exact ⟨_, A, c, e⟩); subst e4; have HQ := Aside0.mk (MR.tell ((HM3.out.step (w1 := w3.drew) (fun _ _ _ => rfl)).mono (S' := fun k => S k ∨ w3.heap.size ≤ k) (fun _ hk => .inl hk)) hg ho); have hbk := blk_grown (HM3.out.step (w1 := w3.drew) (fun _ _ _ => rfl)).blk hg (Kd.R_ne (HM3.out.step (w1 := w3.drew) (fun _ _ _ => rfl)).2.2.2.2.2.2.2.1 (HM3.out.step (w1 := w3.drew) (fun _ _ _ => rfl)).blk (by decide)); have hf1 : w4.frozen? ⟨g, 7, none⟩ = false := blk_frozen hbk 7; have hd1 : w4.cell? ⟨g, 7, none⟩ = some vb := (blk_cell hbk 7).trans rfl; have HG := Aside0.mk hg; have HB := Aside0.mk hb; clear ho hb hg hat hbk)
      all_goals go_wp2
      all_goals go_ret
      all_goals exact ⟨rfl, Goes.from_ HB1.out HBW.out (Goes.then_ (fun _ h => .inl h) HK3.out HB3.out (Goes.of HQ.out HW3.out ((Kept.of_grown HG.out (Kept.drew (Kept.refl w3 S)) (fun k hk => .inl (HM3.out.2.2.2.2.2.2.2.1.1 k hk).1)).setCell (.inl HM3.out.1) _) (Below.setCell (((Below.refl b w3).drew).trans HB.out) HM3.out.2.1 _)))⟩
/-- A session beside a counter, since the world w0. -/
def SV (S0 : Nat → Prop) (b : Nat) (w0 : World) (gn g : Nat) (w : World) (M : MSt) (n : Int) : Prop :=
  (¬ S0 gn ∧ gn < w0.heap.size ∧ b ≤ gn) ∧ ∃ S1 : Nat → Prop, (∀ k, S1 k → S0 k ∨ w0.heap.size ≤ k) ∧ MX S1 b w g M ∧ w.heap[gn]? = some (.cells #[.int .i64 n] 3 (0, 0)) ∧ Kept w0 w (fun k => S0 k ∨ k = gn) ∧ Below b w0 w
section
variable {S0 : Nat → Prop} {b gn g : Nat} {w0 w w1 : World} {M : MSt} {n : Int}
theorem SV.call (h : SV S0 b w0 gn g w M n) : ∃ S1, MX S1 b w g M ∧ ∀ w' M', Goes S1 b w g w' M' → SV S0 b w0 gn g w' M' n := by
  obtain ⟨⟨h1, h2, h3⟩, S1, hs, hm, hc, hk, hb⟩ := h
  refine ⟨S1, hm, fun w' M' ⟨S2, a1, a2, a3, a4⟩ => ⟨⟨h1, h2, h3⟩, S2, fun k hk2 => (a1 k hk2).elim (hs k) (fun h => .inr (Nat.le_trans hk.1 h)), a2, (a3.2 gn (blk_lt hc) (fun h => (hs gn h).elim h1 (fun h => Nat.not_lt.2 h h2))).trans hc, hk.then_ a3 (fun k h => (hs k h).elim (fun h => .inl (.inl h)) .inr), hb.trans a4⟩⟩
theorem SV.far (h : SV S0 b w0 gn g w M n) (hb : Below w.heap.size w w1) : SV S0 b w0 gn g w1 M n := by
  obtain ⟨S1, hm, f⟩ := h.call
  exact f w1 M (Goes.below hm hb)
theorem SV.inc (h : SV S0 b w0 gn g w M n) (m : Int) : SV S0 b w0 gn g (w.setCell ⟨gn, 0, none⟩ (.int .i64 m)) M m := by
  obtain ⟨⟨h1, h2, h3⟩, S1, hs, hm, hc, hk, hb⟩ := h
  refine ⟨⟨h1, h2, h3⟩, S1, hs, hm.far (by simp [World.setCell]) (fun k hk hl => Go.Deep.blk_setCell_other w ⟨gn, 0, none⟩ _ k (fun (e : k = gn) => (hs k hk).elim (fun h => h1 (e ▸ h)) (fun h => Nat.not_lt.2 (e ▸ h) h2))), by simpa using blk_set hc 0 (.int .i64 m), hk.setCell (.inl (.inr rfl)) _, Below.setCell hb h3 _⟩
theorem SV.cell (h : SV S0 b w0 gn g w M n) : w.cell? ⟨gn, 0, none⟩ = some (.int .i64 n) ∧ w.frozen? ⟨gn, 0, none⟩ = false ∧ gn < w.heap.size := by
  obtain ⟨_, S1, hs, hm, hc, hk, hb⟩ := h
  exact ⟨(blk_cell hc 0).trans rfl, blk_frozen hc 0, blk_lt hc⟩
theorem SV.below (h : SV S0 b w0 gn g w M n) : Below b w0 w := by
  obtain ⟨_, S1, hs, hm, hc, hk, hb⟩ := h
  exact hb
end
theorem in_okT {F : List S44} {M : MSt} (h : In1 F M) : okT M := by
  rcases h with h | h
  · exact h.2.1.elim .inl (fun h => .inr (.inl h))
  · exact h.2.2.1.elim .inl (fun h => .inr (.inl h))
theorem turn_len (M : MSt) (r : S42) : (turnM M r).2.told.length + (turnM M r).2.ahead.length ≤ M.told.length + M.ahead.length + 1 := by
  unfold turnM
  repeat' split
  all_goals simp <;> omega
theorem lost_len (M : MSt) : (lostM M).2.told.length + (lostM M).2.ahead.length ≤ M.told.length + M.ahead.length + 1 := by
  unfold lostM
  repeat' split
  all_goals simp [tellM] <;> omega
set_option maxHeartbeats 8000000 in
set_option maxRecDepth 100000 in
theorem serve_calls (S0 : Nat → Prop) (b g gn : Nat) (F : List S44) (M0 : MSt) (n0 : Int) (A1 : Option Addr) (c1 : Nat) (ws : List S37) (w0 : World) (hsv : SV S0 b w0 gn g w0 M0 n0) (hin : In1 F M0) (hrk : rk M0 ≤ 1900) (hlen : M0.told.length + M0.ahead.length ≤ 1000) (hn0 : 0 ≤ n0 ∧ n0 ≤ 1000) (hW : ∀ W', Below b w0 W' → Kd.C k37 W' A1 ws.length ws) (hc1 : ws.length ≤ c1) (hlw : ws.length ≤ 140737488351232) :
    Calls Try.prog 15 #[.pointer (some ⟨g, 0, none⟩), .slice A1 ws.length c1, .pointer (some ⟨gn, 0, none⟩)] w0 fun e w' => ∃ (v : Value) (M' : MSt) (n' : Int), e = .returned (.tuple #[v, .bool true]) ∧ SV S0 b w0 gn g w' { M' with told := [] } n' ∧ Kd.R k42 42 w' b (fun _ => True) v M'.told ∧ Fits F M'.told ∧ ((M'.wd = 0 ∧ ∀ f ∈ F, okF f) ∨ M'.wd = 5) := by
  have HSV0 := Aside0.mk hsv
  have HIN0 := Aside0.mk hin
  have HRK0 := Aside0.mk hrk
  have HLN0 := Aside0.mk hlen
  have HN0 := Aside0.mk hn0
  have HW := Aside0.mk hW
  have HC1 := Aside0.mk hc1
  have HLW := Aside0.mk hlw
  clear hsv hin hrk hlen hn0 hW hc1 hlw
  go_enter Try.func15, Try.ntmps15
  go_wp2_with fail
  go_loopg [8, 12] 2000 (fun kq v8 v12 w' => ∃ (i : Nat) (M : MSt) (n : Int) (hb : Bool), kq = 2000 - i ∧ v8 = .bool hb ∧ v12 = .int .i64 (i : Int) ∧ Aside0 (i + rk M ≤ 1900) ∧ Aside0 (In1 F M) ∧ Aside0 (M.told.length + M.ahead.length ≤ 1000 + i) ∧ Aside0 (0 ≤ n ∧ n ≤ 1000 + (i : Int)) ∧ Aside0 (SV S0 b w0 gn g w' M n))
  case atStart => exact ⟨0, M0, n0, false, rfl, rfl, rfl, ⟨by have := HRK0.out; omega⟩, HIN0, ⟨by have := HLN0.out; omega⟩, ⟨by have := HN0.out; omega⟩, HSV0⟩
  case round =>
    obtain ⟨i, M, n, hb, rfl, rfl, rfl, HI, HIN, HLN, HNN, HSV⟩ := hrel
    have hi : (i : Int) < 2000 := by have := HI.out; omega
    have hw1 : IntKind.i64.wrap ((i : Int) + 1) = (i : Int) + 1 := by rw [IntKind.wrap_i64]; omega
    have hw2 : IntKind.i64.wrap (n + 1) = n + 1 := by rw [IntKind.wrap_i64]; have := HNN.out; omega
    obtain ⟨S1, hm1, hgo1⟩ := HSV.out.call
    have HM1 := Aside0.mk hm1
    have HGO1 := Aside0.mk hgo1
    clear hm1 hgo1
    have hnb := next_NB F M HIN.out
    obtain ⟨d, t, M2, hp⟩ : ∃ d t M2, nextM M = ((d, t), M2) := ⟨_, _, _, rfl⟩
    rw [hp] at hnb
    have HNB := Aside0.mk hnb
    have HP := Aside0.mk hp
    clear hnb hp
    go_wp2_with fail
    refine (next_calls' S1 b g M wr HM1.out (in_okT HIN.out) (by have := HLN.out; have := HI.out; omega)).mono ?_
    rw [HP.out]
    rintro _ w5 ⟨rfl, hg5⟩
    have hsv5 := HGO1.out w5 M2 hg5
    have HSV5 := Aside0.mk hsv5
    clear hg5
    obtain ⟨cn5, fn5, lt5⟩ := hsv5.cell
    have haf : (w5.alloc (.cells #[.bool false, .bool false, .string ⟨#[]⟩] 37)).heap[w5.heap.size]? = some (.cells #[.bool false, .bool false, .string ⟨#[]⟩] 37 (0, 0)) := heap_alloc_new w5 _
    have hab : Below w5.heap.size w5 (w5.alloc (.cells #[.bool false, .bool false, .string ⟨#[]⟩] 37)) := below_alloc (Below.refl _ _) _
    obtain ⟨wa, hwa⟩ : ∃ wa, w5.alloc (.cells #[.bool false, .bool false, .string ⟨#[]⟩] 37) = wa := ⟨_, rfl⟩
    obtain ⟨z, hz⟩ : ∃ z, z = w5.heap.size := ⟨_, rfl⟩
    rw [hwa] at haf hab
    rw [← hz] at haf
    have hz' := hz.symm
    have za0 : wa.cell? ⟨z, 0, none⟩ = some (.bool false) := (blk_cell haf 0).trans rfl
    have za1 : wa.cell? ⟨z, 1, none⟩ = some (.bool false) := (blk_cell haf 1).trans rfl
    have za2 : wa.cell? ⟨z, 2, none⟩ = some (.string ⟨#[]⟩) := (blk_cell haf 2).trans rfl
    have zaf0 : wa.frozen? ⟨z, 0, none⟩ = false := blk_frozen haf 0
    have zaf1 : wa.frozen? ⟨z, 1, none⟩ = false := blk_frozen haf 1
    have zaf2 : wa.frozen? ⟨z, 2, none⟩ = false := blk_frozen haf 2
    have h6f : (((wa.setCell ⟨z, 0, none⟩ (.bool false)).setCell ⟨z, 1, none⟩ (.bool false)).setCell ⟨z, 2, none⟩ (.string ⟨#[]⟩)).heap[z]? = some (.cells #[.bool false, .bool false, .string ⟨#[]⟩] 37 (0, 0)) := by simpa using blk_set (blk_set (blk_set haf 0 (.bool false)) 1 (.bool false)) 2 (.string ⟨#[]⟩)
    have h6b : Below w5.heap.size w5 (((wa.setCell ⟨z, 0, none⟩ (.bool false)).setCell ⟨z, 1, none⟩ (.bool false)).setCell ⟨z, 2, none⟩ (.string ⟨#[]⟩)) := Below.setCell (Below.setCell (Below.setCell hab (by rw [hz]; exact Nat.le_refl _) _) (by rw [hz]; exact Nat.le_refl _) _) (by rw [hz]; exact Nat.le_refl _) _
    obtain ⟨w6, hw6⟩ : ∃ w6, ((wa.setCell ⟨z, 0, none⟩ (.bool false)).setCell ⟨z, 1, none⟩ (.bool false)).setCell ⟨z, 2, none⟩ (.string ⟨#[]⟩) = w6 := ⟨_, rfl⟩
    rw [hw6] at h6f h6b
    have hzn : z ≠ gn := by omega
    have hsv6 := hsv5.far h6b
    have HSV6 := Aside0.mk hsv6
    obtain ⟨cn6, fn6, _⟩ := hsv6.cell
    have z0 : w6.cell? ⟨z, 0, none⟩ = some (.bool false) := (blk_cell h6f 0).trans rfl
    have z1 : w6.cell? ⟨z, 1, none⟩ = some (.bool false) := (blk_cell h6f 1).trans rfl
    have z2 : w6.cell? ⟨z, 2, none⟩ = some (.string ⟨#[]⟩) := (blk_cell h6f 2).trans rfl
    have zf0 : w6.frozen? ⟨z, 0, none⟩ = false := blk_frozen h6f 0
    have zf1 : w6.frozen? ⟨z, 1, none⟩ = false := blk_frozen h6f 1
    have zf2 : w6.frozen? ⟨z, 2, none⟩ = false := blk_frozen h6f 2
    have H6F := Aside0.mk h6f
    have H6B := Aside0.mk h6b
    have HZ := Aside0.mk hz
    clear hsv5 hsv6 h6f h6b hz haf hab
    obtain ⟨hnl, hoT, hcase⟩ := HNB.out
    have HNL : Aside0 (M2.told.length + M2.ahead.length ≤ M.told.length + M.ahead.length) := ⟨hnl⟩
    have HOT : Aside0 (okT M2) := ⟨hoT⟩
    clear hnl hoT
    by_cases hws : ws.length = 0
    · have Z0 : ¬ (0 : Int) < (ws.length : Int) := by omega
      clear hws
      obtain ⟨w7, h67⟩ : ∃ w7, w6 = w7 := ⟨_, rfl⟩
      subst h67
      obtain ⟨x, hx⟩ : ∃ x : S37, x = z37 := ⟨_, rfl⟩
      rw [show (false : Bool) = x.f0 from by rw [hx]; rfl] at z0
      rw [show (false : Bool) = x.f1 from by rw [hx]; rfl] at z1
      rw [show (⟨#[]⟩ : ByteArray) = x.f2 from by rw [hx]; rfl] at z2
      have H6X : Aside0 ((#[.bool x.f0, .bool x.f1, .string x.f2] : Array Value) = #[.bool false, .bool false, .string ⟨#[]⟩]) := ⟨by rw [hx]; rfl⟩
      clear hx zf0 zf1 zf2
      rcases hcase with ⟨hd, hft, hwd⟩ | ⟨hd, ⟨a1, a2, a3⟩, b1, b2, b3⟩ | ⟨hd, ⟨a1, a2, a3⟩, hans⟩ | ⟨hd, hin2, hrk2⟩
      · have hd : d = 0 := hd
        subst hd
        have HFT := Aside0.mk hft
        have HWD := Aside0.mk hwd
        clear hft hwd
        go_wp2_with fail
        obtain ⟨⟨e1, e2, e3⟩, S7, t1, t2, t3, t4, t5⟩ := HSV6.out
        refine (replies_calls S7 b g M2 w6 t2).mono ?_
        rintro _ w8 ⟨v8, S8, rfl, s1, s2, s3, s4, s5⟩
        have HR8 : Aside0 (Kd.R k42 42 w8 b (fun _ => True) v8 M2.told) := ⟨Kd.R_mono s3 (fun _ _ => trivial)⟩
        have HSV8 : Aside0 (SV S0 b w0 gn g w8 { M2 with told := [] } n) := ⟨⟨e1, e2, e3⟩, S8, fun k hk => t1 k (s1 k hk), s2, (s4.2 gn (blk_lt t3) (fun h => (t1 gn h).elim e1 (fun h => Nat.not_lt.2 h e2))).trans t3, t4.then_ s4 (fun k h => (t1 k h).elim (fun h => .inl (.inl h)) .inr), t5.trans s5⟩
        clear s1 s2 s3 s4 s5 t1 t2 t3 t4 t5 e1 e2 e3
        go_wp2_with fail
        go_returns
        exact ⟨_, M2, n, rfl, HSV8.out, HR8.out, HFT.out, HWD.out⟩
      · have hd : d = 1 := hd
        subst hd
        have A1' := Aside0.mk (And.intro a1 (And.intro a2 a3))
        have B1' := Aside0.mk (And.intro b1 (And.intro b2 b3))
        clear a1 a2 a3 b1 b2 b3
        have hsv8 := HSV6.out.inc (n + 1)
        have q8 : (w6.setCell ⟨gn, 0, none⟩ (.int .i64 (n + 1))).heap[z]? = some (.cells #[.bool x.f0, .bool x.f1, .string x.f2] 37 (0, 0)) := (Go.Deep.blk_setCell_other w6 ⟨gn, 0, none⟩ _ z hzn).trans (by rw [H6X.out]; exact H6F.out)
        obtain ⟨w8, hw8⟩ : ∃ w8, w6.setCell ⟨gn, 0, none⟩ (.int .i64 (n + 1)) = w8 := ⟨_, rfl⟩
        rw [hw8] at hsv8 q8
        have v1 : w8.cell? ⟨z, 1, none⟩ = some (.bool x.f1) := (blk_cell q8 1).trans rfl
        have v2 : w8.cell? ⟨z, 2, none⟩ = some (.string x.f2) := (blk_cell q8 2).trans rfl
        have v0 : w8.cell? ⟨z, 0, none⟩ = some (.bool x.f0) := (blk_cell q8 0).trans rfl
        obtain ⟨S8, hm8, hgo8⟩ := hsv8.call
        have HM8 := Aside0.mk hm8
        have HGO8 := Aside0.mk hgo8
        clear hsv8 q8 hm8 hgo8
        rcases hx0 : x.f0 with _ | _
        · rw [hx0] at z0 v0
          clear hx0
          go_wp2_with fail
          refine (got_calls S8 b g M2 w8 HM8.out (by have := HNL.out; have := HLN.out; have := HI.out; omega)).mono ?_
          rw [show (gotM M2).1 = 0 from A1'.out.1]
          rintro _ w9 ⟨rfl, hg9⟩
          have HSV9 := Aside0.mk (HGO8.out w9 _ hg9)
          clear hg9
          go_wp2_with fail
          go_roundg (2000 - (i + 1))
          case measure => omega
          case rel => exact ⟨i + 1, (gotM M2).2, n + 1, true, rfl, rfl, by go_num, ⟨by have h1 : rk (gotM M2).2 < rk M := A1'.out.2.2; have := HI.out; omega⟩, ⟨A1'.out.2.1⟩, ⟨by have := got_len M2; have := HNL.out; have := HLN.out; omega⟩, ⟨by have := HNN.out; omega⟩, HSV9⟩
        · rw [hx0] at z0 v0
          clear hx0
          go_wp2_with fail
          refine Calls.mono (show Calls Try.prog 20 #[.pointer (some ⟨g, 0, none⟩), .agg #[.int .i64 4, .int .i64 0, .string ⟨#[]⟩]] w8 _ from turn_calls S8 b g M2 busy w8 HM8.out (by have := HNL.out; have := HLN.out; have := HI.out; omega)) ?_
          rw [show (turnM M2 busy).1 = 0 from B1'.out.1]
          rintro _ w9 ⟨rfl, hg9⟩
          have HSV9 := Aside0.mk (HGO8.out w9 _ hg9)
          clear hg9
          go_wp2_with fail
          go_roundg (2000 - (i + 1))
          case measure => omega
          case rel => exact ⟨i + 1, (turnM M2 busy).2, n + 1, hb, rfl, rfl, by go_num, ⟨by have h1 : rk (turnM M2 busy).2 < rk M := B1'.out.2.2; have := HI.out; omega⟩, ⟨B1'.out.2.1⟩, ⟨by have := turn_len M2 busy; have := HNL.out; have := HLN.out; omega⟩, ⟨by have := HNN.out; omega⟩, HSV9⟩
      · have hd : d = 2 := hd
        subst hd
        have A1' := Aside0.mk (And.intro a1 (And.intro a2 a3))
        have HANS := Aside0.mk hans
        clear a1 a2 a3 hans
        have hsv8 := HSV6.out.inc (n + 1)
        have q8 : (w6.setCell ⟨gn, 0, none⟩ (.int .i64 (n + 1))).heap[z]? = some (.cells #[.bool x.f0, .bool x.f1, .string x.f2] 37 (0, 0)) := (Go.Deep.blk_setCell_other w6 ⟨gn, 0, none⟩ _ z hzn).trans (by rw [H6X.out]; exact H6F.out)
        obtain ⟨w8, hw8⟩ : ∃ w8, w6.setCell ⟨gn, 0, none⟩ (.int .i64 (n + 1)) = w8 := ⟨_, rfl⟩
        rw [hw8] at hsv8 q8
        have v1 : w8.cell? ⟨z, 1, none⟩ = some (.bool x.f1) := (blk_cell q8 1).trans rfl
        have v2 : w8.cell? ⟨z, 2, none⟩ = some (.string x.f2) := (blk_cell q8 2).trans rfl
        have v0 : w8.cell? ⟨z, 0, none⟩ = some (.bool x.f0) := (blk_cell q8 0).trans rfl
        obtain ⟨S8, hm8, hgo8⟩ := hsv8.call
        have HM8 := Aside0.mk hm8
        have HGO8 := Aside0.mk hgo8
        clear hsv8 q8 hm8 hgo8
        rcases hx1 : x.f1 with _ | _
        · rw [hx1] at z1 v1
          clear hx1
          go_wp2_with fail
          refine (answer_calls S8 b g M2 x.f2 w8 HM8.out (by have := HNL.out; have := HLN.out; have := HI.out; omega)).mono ?_
          rw [show (answerM M2 x.f2).1 = 0 from (HANS.out x.f2).1]
          rintro _ w9 ⟨rfl, hg9⟩
          have HSV9 := Aside0.mk (HGO8.out w9 _ hg9)
          clear hg9
          go_wp2_with fail
          go_roundg (2000 - (i + 1))
          case measure => omega
          case rel => exact ⟨i + 1, (answerM M2 x.f2).2, n + 1, hb, rfl, rfl, by go_num, ⟨by have h1 : rk (answerM M2 x.f2).2 < rk M := (HANS.out x.f2).2.2; have := HI.out; omega⟩, ⟨(HANS.out x.f2).2.1⟩, ⟨by have := answer_len M2 x.f2; have := HNL.out; have := HLN.out; omega⟩, ⟨by have := HNN.out; omega⟩, HSV9⟩
        · rw [hx1] at z1 v1
          clear hx1
          go_wp2_with fail
          refine (lost_calls S8 b g M2 w8 HM8.out (by have := HNL.out; have := HLN.out; have := HI.out; omega) HOT.out).mono ?_
          rw [show (lostM M2).1 = 0 from A1'.out.1]
          rintro _ w9 ⟨rfl, hg9⟩
          have HSV9 := Aside0.mk (HGO8.out w9 _ hg9)
          clear hg9
          go_wp2_with fail
          go_roundg (2000 - (i + 1))
          case measure => omega
          case rel => exact ⟨i + 1, (lostM M2).2, n + 1, false, rfl, rfl, by go_num, ⟨by have h1 : rk (lostM M2).2 < rk M := A1'.out.2.2; have := HI.out; omega⟩, ⟨A1'.out.2.1⟩, ⟨by have := lost_len M2; have := HNL.out; have := HLN.out; omega⟩, ⟨by have := HNN.out; omega⟩, HSV9⟩
      · have hd : d = 3 := hd
        subst hd
        have HIN2 := Aside0.mk hin2
        have HRK2 := Aside0.mk hrk2
        clear hin2 hrk2
        go_wp2_with fail
        go_roundg (2000 - (i + 1))
        case measure => omega
        case rel => exact ⟨i + 1, M2, n, false, rfl, rfl, by go_num, ⟨by have h1 : rk M2 < rk M := HRK2.out; have := HI.out; omega⟩, ⟨HIN2.out⟩, ⟨by skip; have := HNL.out; have := HLN.out; omega⟩, ⟨by have := HNN.out; omega⟩, HSV6⟩
    · have Z0 : (0 : Int) < (ws.length : Int) := by omega
      obtain ⟨nn, hnn⟩ : ∃ nn : Nat, n = (nn : Int) := ⟨n.toNat, by have := HNN.out; omega⟩
      obtain ⟨j, hj⟩ : ∃ j, j = nn % ws.length := ⟨_, rfl⟩
      have hjl : j < ws.length := by rw [hj]; exact Nat.mod_lt _ (by omega)
      have hrem : n % (ws.length : Int) = (j : Int) := by rw [hj, hnn]; rfl
      have hrem2 : Int.tmod n (ws.length : Int) = (j : Int) := by rw [hj, hnn]; exact (Int.ofNat_tmod _ _).symm
      have hj0 : (0 : Int) ≤ (j : Int) := by omega
      have hj1 : (j : Int) < (ws.length : Int) := by omega
      have hc6 := HW.out w6 HSV6.out.below
      obtain ⟨ad, eA, x0, x1, x2⟩ := at37 hc6 j hjl
      obtain ⟨x, hx⟩ : ∃ x, x = rd37 ws j := ⟨_, rfl⟩
      rw [← hx] at x0 x1 x2
      have HEA := Aside0.mk eA
      subst eA
      have h7f : (((w6.setCell ⟨z, 0, none⟩ (.bool x.f0)).setCell ⟨z, 1, none⟩ (.bool x.f1)).setCell ⟨z, 2, none⟩ (.string x.f2)).heap[z]? = some (.cells #[.bool x.f0, .bool x.f1, .string x.f2] 37 (0, 0)) := by simpa using blk_set (blk_set (blk_set H6F.out 0 (.bool x.f0)) 1 (.bool x.f1)) 2 (.string x.f2)
      have h7b : Below w5.heap.size w5 (((w6.setCell ⟨z, 0, none⟩ (.bool x.f0)).setCell ⟨z, 1, none⟩ (.bool x.f1)).setCell ⟨z, 2, none⟩ (.string x.f2)) := Below.setCell (Below.setCell (Below.setCell H6B.out (by rw [HZ.out]; exact Nat.le_refl _) _) (by rw [HZ.out]; exact Nat.le_refl _) _) (by rw [HZ.out]; exact Nat.le_refl _) _
      obtain ⟨w7, hw7⟩ : ∃ w7, ((w6.setCell ⟨z, 0, none⟩ (.bool x.f0)).setCell ⟨z, 1, none⟩ (.bool x.f1)).setCell ⟨z, 2, none⟩ (.string x.f2) = w7 := ⟨_, rfl⟩
      rw [hw7] at h7f h7b
      have hsv7 := HSV5.out.far h7b
      obtain ⟨cn7, fn7, _⟩ := hsv7.cell
      have u0 : w7.cell? ⟨z, 0, none⟩ = some (.bool x.f0) := (blk_cell h7f 0).trans rfl
      have u1 : w7.cell? ⟨z, 1, none⟩ = some (.bool x.f1) := (blk_cell h7f 1).trans rfl
      have u2 : w7.cell? ⟨z, 2, none⟩ = some (.string x.f2) := (blk_cell h7f 2).trans rfl
      have HSV7 := Aside0.mk hsv7
      have H7F := Aside0.mk h7f
      clear hws hj hnn hjl hx hc6 hsv7 h7f h7b
      rcases hcase with ⟨hd, hft, hwd⟩ | ⟨hd, ⟨a1, a2, a3⟩, b1, b2, b3⟩ | ⟨hd, ⟨a1, a2, a3⟩, hans⟩ | ⟨hd, hin2, hrk2⟩
      · have hd : d = 0 := hd
        subst hd
        have HFT := Aside0.mk hft
        have HWD := Aside0.mk hwd
        clear hft hwd
        go_wp2_with fail
        obtain ⟨⟨e1, e2, e3⟩, S7, t1, t2, t3, t4, t5⟩ := HSV7.out
        refine (replies_calls S7 b g M2 w7 t2).mono ?_
        rintro _ w8 ⟨v8, S8, rfl, s1, s2, s3, s4, s5⟩
        have HR8 : Aside0 (Kd.R k42 42 w8 b (fun _ => True) v8 M2.told) := ⟨Kd.R_mono s3 (fun _ _ => trivial)⟩
        have HSV8 : Aside0 (SV S0 b w0 gn g w8 { M2 with told := [] } n) := ⟨⟨e1, e2, e3⟩, S8, fun k hk => t1 k (s1 k hk), s2, (s4.2 gn (blk_lt t3) (fun h => (t1 gn h).elim e1 (fun h => Nat.not_lt.2 h e2))).trans t3, t4.then_ s4 (fun k h => (t1 k h).elim (fun h => .inl (.inl h)) .inr), t5.trans s5⟩
        clear s1 s2 s3 s4 s5 t1 t2 t3 t4 t5 e1 e2 e3
        go_wp2_with fail
        go_returns
        exact ⟨_, M2, n, rfl, HSV8.out, HR8.out, HFT.out, HWD.out⟩
      · have hd : d = 1 := hd
        subst hd
        have A1' := Aside0.mk (And.intro a1 (And.intro a2 a3))
        have B1' := Aside0.mk (And.intro b1 (And.intro b2 b3))
        clear a1 a2 a3 b1 b2 b3
        have hsv8 := HSV7.out.inc (n + 1)
        have q8 : (w7.setCell ⟨gn, 0, none⟩ (.int .i64 (n + 1))).heap[z]? = some (.cells #[.bool x.f0, .bool x.f1, .string x.f2] 37 (0, 0)) := (Go.Deep.blk_setCell_other w7 ⟨gn, 0, none⟩ _ z hzn).trans H7F.out
        obtain ⟨w8, hw8⟩ : ∃ w8, w7.setCell ⟨gn, 0, none⟩ (.int .i64 (n + 1)) = w8 := ⟨_, rfl⟩
        rw [hw8] at hsv8 q8
        have v1 : w8.cell? ⟨z, 1, none⟩ = some (.bool x.f1) := (blk_cell q8 1).trans rfl
        have v2 : w8.cell? ⟨z, 2, none⟩ = some (.string x.f2) := (blk_cell q8 2).trans rfl
        have v0 : w8.cell? ⟨z, 0, none⟩ = some (.bool x.f0) := (blk_cell q8 0).trans rfl
        obtain ⟨S8, hm8, hgo8⟩ := hsv8.call
        have HM8 := Aside0.mk hm8
        have HGO8 := Aside0.mk hgo8
        clear hsv8 q8 hm8 hgo8
        rcases hx0 : x.f0 with _ | _
        · rw [hx0] at u0 v0
          clear hx0
          go_wp2_with fail
          refine (got_calls S8 b g M2 w8 HM8.out (by have := HNL.out; have := HLN.out; have := HI.out; omega)).mono ?_
          rw [show (gotM M2).1 = 0 from A1'.out.1]
          rintro _ w9 ⟨rfl, hg9⟩
          have HSV9 := Aside0.mk (HGO8.out w9 _ hg9)
          clear hg9
          go_wp2_with fail
          go_roundg (2000 - (i + 1))
          case measure => omega
          case rel => exact ⟨i + 1, (gotM M2).2, n + 1, true, rfl, rfl, by go_num, ⟨by have h1 : rk (gotM M2).2 < rk M := A1'.out.2.2; have := HI.out; omega⟩, ⟨A1'.out.2.1⟩, ⟨by have := got_len M2; have := HNL.out; have := HLN.out; omega⟩, ⟨by have := HNN.out; omega⟩, HSV9⟩
        · rw [hx0] at u0 v0
          clear hx0
          go_wp2_with fail
          refine Calls.mono (show Calls Try.prog 20 #[.pointer (some ⟨g, 0, none⟩), .agg #[.int .i64 4, .int .i64 0, .string ⟨#[]⟩]] w8 _ from turn_calls S8 b g M2 busy w8 HM8.out (by have := HNL.out; have := HLN.out; have := HI.out; omega)) ?_
          rw [show (turnM M2 busy).1 = 0 from B1'.out.1]
          rintro _ w9 ⟨rfl, hg9⟩
          have HSV9 := Aside0.mk (HGO8.out w9 _ hg9)
          clear hg9
          go_wp2_with fail
          go_roundg (2000 - (i + 1))
          case measure => omega
          case rel => exact ⟨i + 1, (turnM M2 busy).2, n + 1, hb, rfl, rfl, by go_num, ⟨by have h1 : rk (turnM M2 busy).2 < rk M := B1'.out.2.2; have := HI.out; omega⟩, ⟨B1'.out.2.1⟩, ⟨by have := turn_len M2 busy; have := HNL.out; have := HLN.out; omega⟩, ⟨by have := HNN.out; omega⟩, HSV9⟩
      · have hd : d = 2 := hd
        subst hd
        have A1' := Aside0.mk (And.intro a1 (And.intro a2 a3))
        have HANS := Aside0.mk hans
        clear a1 a2 a3 hans
        have hsv8 := HSV7.out.inc (n + 1)
        have q8 : (w7.setCell ⟨gn, 0, none⟩ (.int .i64 (n + 1))).heap[z]? = some (.cells #[.bool x.f0, .bool x.f1, .string x.f2] 37 (0, 0)) := (Go.Deep.blk_setCell_other w7 ⟨gn, 0, none⟩ _ z hzn).trans H7F.out
        obtain ⟨w8, hw8⟩ : ∃ w8, w7.setCell ⟨gn, 0, none⟩ (.int .i64 (n + 1)) = w8 := ⟨_, rfl⟩
        rw [hw8] at hsv8 q8
        have v1 : w8.cell? ⟨z, 1, none⟩ = some (.bool x.f1) := (blk_cell q8 1).trans rfl
        have v2 : w8.cell? ⟨z, 2, none⟩ = some (.string x.f2) := (blk_cell q8 2).trans rfl
        have v0 : w8.cell? ⟨z, 0, none⟩ = some (.bool x.f0) := (blk_cell q8 0).trans rfl
        obtain ⟨S8, hm8, hgo8⟩ := hsv8.call
        have HM8 := Aside0.mk hm8
        have HGO8 := Aside0.mk hgo8
        clear hsv8 q8 hm8 hgo8
        rcases hx1 : x.f1 with _ | _
        · rw [hx1] at u1 v1
          clear hx1
          go_wp2_with fail
          refine (answer_calls S8 b g M2 x.f2 w8 HM8.out (by have := HNL.out; have := HLN.out; have := HI.out; omega)).mono ?_
          rw [show (answerM M2 x.f2).1 = 0 from (HANS.out x.f2).1]
          rintro _ w9 ⟨rfl, hg9⟩
          have HSV9 := Aside0.mk (HGO8.out w9 _ hg9)
          clear hg9
          go_wp2_with fail
          go_roundg (2000 - (i + 1))
          case measure => omega
          case rel => exact ⟨i + 1, (answerM M2 x.f2).2, n + 1, hb, rfl, rfl, by go_num, ⟨by have h1 : rk (answerM M2 x.f2).2 < rk M := (HANS.out x.f2).2.2; have := HI.out; omega⟩, ⟨(HANS.out x.f2).2.1⟩, ⟨by have := answer_len M2 x.f2; have := HNL.out; have := HLN.out; omega⟩, ⟨by have := HNN.out; omega⟩, HSV9⟩
        · rw [hx1] at u1 v1
          clear hx1
          go_wp2_with fail
          refine (lost_calls S8 b g M2 w8 HM8.out (by have := HNL.out; have := HLN.out; have := HI.out; omega) HOT.out).mono ?_
          rw [show (lostM M2).1 = 0 from A1'.out.1]
          rintro _ w9 ⟨rfl, hg9⟩
          have HSV9 := Aside0.mk (HGO8.out w9 _ hg9)
          clear hg9
          go_wp2_with fail
          go_roundg (2000 - (i + 1))
          case measure => omega
          case rel => exact ⟨i + 1, (lostM M2).2, n + 1, false, rfl, rfl, by go_num, ⟨by have h1 : rk (lostM M2).2 < rk M := A1'.out.2.2; have := HI.out; omega⟩, ⟨A1'.out.2.1⟩, ⟨by have := lost_len M2; have := HNL.out; have := HLN.out; omega⟩, ⟨by have := HNN.out; omega⟩, HSV9⟩
      · have hd : d = 3 := hd
        subst hd
        have HIN2 := Aside0.mk hin2
        have HRK2 := Aside0.mk hrk2
        clear hin2 hrk2
        go_wp2_with fail
        go_roundg (2000 - (i + 1))
        case measure => omega
        case rel => exact ⟨i + 1, M2, n, false, rfl, rfl, by go_num, ⟨by have h1 : rk M2 < rk M := HRK2.out; have := HI.out; omega⟩, ⟨HIN2.out⟩, ⟨by skip; have := HNL.out; have := HLN.out; omega⟩, ⟨by have := HNN.out; omega⟩, HSV7⟩
end Go.Proofs.Ythjjblnkaikmlaa.Mx
