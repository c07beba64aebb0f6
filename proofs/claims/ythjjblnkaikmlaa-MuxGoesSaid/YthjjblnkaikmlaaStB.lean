/- The reader in use; what the bytes of frames are, what a stream's Feed tells: the document's side; Clone walked. -/
import Derived.Test.YthjjblnkaikmlaaStA
import Derived.StillTailTactics
import Derived.Lib.SliceRun
namespace Go.Proofs.Ythjjblnkaikmlaa.St
open Go.RowKit Go.Proofs.Ythjjblnkaikmlaa.PMuxOnce Go.Proofs.YthjjblnkaikmlaaW.PrintWords Go.Proofs.YthjjblnkaikmlaaW.PrintLast Go.Proofs.YthjjblnkaikmlaaW.PrintMore
set_option linter.unusedVariables false
set_option linter.unusedSimpArgs false
attribute [local go_sem] max2_int min2_int max_two min_two
def nums (s : ByteArray) : List Int := s.data.toList.map fun c => (c.toNat : Int)
theorem nums_len (s : ByteArray) : (nums s).length = s.size := by unfold nums; rw [List.length_map, Array.length_toList]; rfl
theorem nums_by (s : ByteArray) : ∀ x ∈ nums s, 0 ≤ x ∧ x < 256 := by
  intro x hx
  obtain ⟨c, _, rfl⟩ := List.mem_map.1 hx
  have := c.toNat_lt
  omega
theorem conv_str (W : World) (s : ByteArray) : (convert 9 31 (.string s)).run Try.prog W = .ok (.slice (some ⟨W.heap.size, 0, none⟩) s.size (grownCap W s.size 0 5)) (Lib.bytesWorld W 5 s) :=
  Lib.run_convert_string_bytes W 9 31 5 s Try.underlying9 Try.underlying31 Try.underlying5
theorem bw_below (W : World) (s : ByteArray) : Below W.heap.size W (Lib.bytesWorld W 5 s) :=
  ⟨rfl, rfl, rfl, by rw [Lib.bytesWorld_size]; omega, fun k hk => Lib.bytesWorld_at_old W 5 s k hk⟩
theorem bw_row (W : World) (s : ByteArray) : ∃ rest fr, (Lib.bytesWorld W 5 s).heap[W.heap.size]? = some (.cells ((nums s).map (Value.int .u8) ++ rest).toArray 5 fr) := by
  refine ⟨(List.replicate (grownCap W s.size 0 5 - s.size) (.int .u8 0)), ((Lib.bytesCells W 5 s).size, (Lib.bytesCells W 5 s).size + 1), ?_⟩
  rw [Lib.bytesWorld_at_new]
  congr 2
  apply Array.ext'
  simp only [Lib.bytesCells, nums, Array.toList_append, Array.toList_map, Array.toList_replicate, List.map_map, List.toList_toArray]
  rfl
/-- A reader in use: what it was given, and the row that gathers its frames; all but its block is as in W0. -/
def Ph (W0 : World) (S : Nat → Prop) (b g : Nat) (w : World) (s : RS) (vp : Value) (ps : List S44) : Prop :=
  ∃ vt, s.out = [] ∧ okS s ∧ b ≤ W0.heap.size ∧ (∀ k, S k → k = g ∨ W0.heap.size ≤ k) ∧ (∀ k, S k → k < w.heap.size) ∧ RdrS S b w.heap.size w g s vt (.slice none 0 0) ∧ Kd.R k44 44 w W0.heap.size (fun k => ¬ S k) vp ps ∧ Kept W0 w (fun k => k = g)
def emptied (s : RS) : RS := { s with out := [] }
theorem feed_ph (W0 : World) (S : Nat → Prop) (b g : Nat) (s : RS) (vp : Value) (ps : List S44) (k c0 n : Nat) (l : List Int) (rest : List Value) (fr : Nat × Nat) (w W : World) (h : Ph W0 S b g w s vp ps) (hB : Below w.heap.size w W) (hk : w.heap.size ≤ k) (hrow : W.heap[k]? = some (.cells (l.map (Value.int .u8) ++ rest).toArray 5 fr)) (hn : n = l.length) (hc0 : n ≤ c0) (hby : ∀ x ∈ l, 0 ≤ x ∧ x < 256) (hl : l.length ≤ 900000000) :
    Calls Try.prog 31 #[.pointer (some ⟨g, 0, none⟩), .slice (some ⟨k, 0, none⟩) n c0] W fun e w' => ∃ v S', e = .returned v ∧ Ph W0 S' b g w' (emptied (runS s l)) vp ps ∧ Kd.R k44 44 w' w.heap.size (fun k => ¬ S' k) v (runS s l).out ∧ Below b w w' := by
  obtain ⟨vt, hso, hok, hb0, hS, hSz, hr, hp, hK⟩ := h
  subst hn
  refine (feed_at S b w.heap.size g s vt k c0 l rest fr w W hr hSz hso hok (Nat.le_trans hb0 hK.1) hB hk hrow hc0 hby hl).mono ?_
  rintro e w' ⟨v, vt', S', he, h1, h2, h3, h4, h5, h6⟩
  refine ⟨v, S', he, ⟨vt', rfl, ⟨(run_okS hok l hby).1, (run_okS hok l hby).2⟩, hb0, fun j hj => ?_, h2, ⟨h3.1, h3.2.1, h3.2.2.1, h3.2.2.2.1, Kd.R_nil _ _ _ _ _⟩, ?_, hK.then_ h5 (fun j hj => ?_)⟩, h4, h6⟩
  · rcases h1 j hj with hj | hj
    · exact hS j hj
    · exact .inr (Nat.le_trans hK.1 hj)
  · refine Kd.R_mono (Kd.R_kept (Kd.R_bound hp) h5 (fun j hj => hj.1)) (fun j hj hn => ?_)
    rcases h1 j hn with hn | hn
    · exact hj.1 hn
    · have := hj.2.2.1
      omega
  · exact hS j hj
/-- The gathered row has grown. -/
theorem Ph.app {W0 : World} {S : Nat → Prop} {b g : Nat} {w w1 : World} {s : RS} {vp v1 : Value} {ps qs : List S44} (h : Ph W0 S b g w s vp ps) (ho : Kd.R k44 44 w1 W0.heap.size (fun k => ¬ S k) v1 qs) (hg : w.grownBy w1 vp.ownBlock) : Ph W0 S b g w1 s v1 qs := by
  obtain ⟨vt, hso, hok, hb0, hS, hSz, hr, hp, hK⟩ := h
  have hne : ∀ k, S k → some k ≠ vp.ownBlock := fun k hk he => hp.1 k he.symm hk
  have hr1 := Rdr.step (w1 := w1) hr fun k hk hlt => hg.block k hlt (hne k hk)
  refine ⟨vt, hso, hok, hb0, hS, fun k hk => Nat.lt_of_lt_of_le (hSz k hk) hg.size, ⟨hr1.1, hr1.2.1, hr1.2.2.1, hr1.2.2.2.1, by rw [hso]; exact Kd.R_nil _ _ _ _ _⟩, ho, Kept.of_grown hg hK (fun k hk => .inr ?_)⟩
  obtain ⟨inner, hown⟩ := Kd.R_own hp
  exact own_base hown k hk
theorem Ph.fresh {W0 : World} {S : Nat → Prop} {b g : Nat} {w : World} {s : RS} {vp : Value} {ps : List S44} (h : Ph W0 S b g w s vp ps) : ∀ k, w.heap.size ≤ k → ¬ S k := fun k hk hn => by
  obtain ⟨vt, hso, hok, hb0, hS, hSz, _⟩ := h
  have := hSz k hn
  omega
theorem step_split (s : RS) (c : Int) : stepS s c = ⟨(stepS (emptied s) c).at_, (stepS (emptied s) c).lacks, (stepS (emptied s) c).text, s.out ++ (stepS (emptied s) c).out⟩ := by
  unfold stepS emptied
  simp only []
  split
  · split <;> simp
  · split
    · split <;> simp
    · split
      · split <;> simp
      · simp
theorem run_split (l : List Int) : ∀ s : RS, runS s l = ⟨(runS (emptied s) l).at_, (runS (emptied s) l).lacks, (runS (emptied s) l).text, s.out ++ (runS (emptied s) l).out⟩ := by
  induction l with
  | nil => intro s; simp [runS, emptied]
  | cons c r ih =>
    intro s
    show runS (stepS s c) r = ⟨(runS (stepS (emptied s) c) r).at_, (runS (stepS (emptied s) c) r).lacks, (runS (stepS (emptied s) c) r).text, s.out ++ (runS (stepS (emptied s) c) r).out⟩
    have e : emptied (stepS s c) = emptied (stepS (emptied s) c) := by rw [step_split s c]; rfl
    rw [ih (stepS s c), ih (stepS (emptied s) c), e]
    have eo : (stepS s c).out = s.out ++ (stepS (emptied s) c).out := by rw [step_split s c]
    simp [eo]
theorem run_app (s : RS) (l m : List Int) : runS s (l ++ m) = runS (runS s l) m := List.foldl_append ..
theorem emp_app (s : RS) (l m : List Int) : emptied (runS s (l ++ m)) = emptied (runS (emptied (runS s l)) m) ∧ (runS s (l ++ m)).out = (runS s l).out ++ (runS (emptied (runS s l)) m).out := by
  rw [run_app, run_split m (runS s l)]
  exact ⟨rfl, rfl⟩
theorem nums_extract (s : ByteArray) (i j : Nat) : nums (s.extract i j) = ((nums s).take j).drop i := by
  unfold nums
  rw [← List.map_take, ← List.map_drop]
  congr 1
  rw [ByteArray.data_extract, Array.toList_extract, List.extract_eq_drop_take']

theorem run_out_len (l : List Int) : ∀ s : RS, (runS s l).out.length ≤ s.out.length + l.length := by
  induction l with
  | nil => intro s; exact Nat.le_refl _
  | cons c r ih =>
    intro s
    have h1 := ih (stepS s c)
    have h2 := step_out s c
    show (runS (stepS s c) r).out.length ≤ _
    rw [List.length_cons]
    omega
theorem k44_KM {w w' : World} {base : Nat} {ok : Nat → Prop} {x : S44} {cs : List Value} (h : k44.K w x cs) : k44.M w' base ok x cs := by
  obtain rfl := k44_open h
  exact k44_mkM _ _ _ x
def encF (f : S44) : Option (List Int) :=
  if f.f0 = 81 then (if f.f1.size ≤ 48 then some (([81] ++ [(f.f1.size : Int)]) ++ bytesOf f.f1) else none)
  else if f.f0 = 66 ∨ f.f0 = 69 then (if f.f1.size = 0 then some [f.f0] else none) else none
def runE : List Int → List S44 → Option (List Int)
  | acc, [] => some acc
  | acc, f :: r => match encF f with | none => none | some a => runE (acc ++ a) r
theorem runE_drop (acc : List Int) (l : List S44) (i : Nat) (h : i < l.length) : runE acc (l.drop i) = match encF (rd_T44 l (i : Int)) with | none => none | some a => runE (acc ++ a) (l.drop (i + 1)) := by
  rw [List.drop_eq_getElem_cons h]
  have : rd_T44 l (i : Int) = l[i] := by simp [rd_T44, List.getD_eq_getElem?_getD, List.getElem?_eq_getElem h]
  rw [this]
  rfl
theorem encF_len {f : S44} {a : List Int} (h : encF f = some a) : a.length ≤ 63 := by
  unfold encF at h
  split at h
  · split at h
    · injection h with h
      rw [← h, List.length_append, List.length_append, bytesOf_length]
      simp only [List.length_cons, List.length_nil]
      omega
    · cases h
  · split at h
    · split at h
      · injection h with h
        rw [← h]
        simp
      · cases h
    · cases h
theorem son_app (a b : List Int) : strOfNums (a ++ b) = strOfNums a ++ strOfNums b := by
  apply ByteArray.ext
  rw [ByteArray.data_append]
  simp [strOfNums]
theorem son_bytes (y : ByteArray) : strOfNums (bytesOf y) = y := by
  apply ByteArray.ext
  apply Array.ext'
  simp only [strOfNums, bytesOf, List.map_map]
  conv => rhs; rw [← List.map_id y.data.toList]
  refine List.map_congr_left fun x _ => ?_
  simp
def cvB (f : S44) : PMuxOnce.S44 := ⟨f.f0, f.f1⟩
theorem cvB_C {w : World} {A : Option Addr} {n : Nat} {l : List S44} (h : Kd.C k44 w A n l) : Kd.C PMuxOnce.k44 w A n (l.map cvB) := by
  obtain ⟨h1, h2, h3⟩ := h
  refine ⟨by rw [List.length_map]; exact h1, h2, fun hn => ?_⟩
  obtain ⟨ad, e, h4⟩ := h3 hn
  refine ⟨ad, e, fun j p hp => ?_⟩
  rw [List.getElem?_map] at hp
  obtain ⟨f, hf, rfl⟩ := Option.map_eq_some_iff.1 hp
  exact h4 j f hf
theorem cvB_rd (l : List S44) (i : Nat) : PMuxOnce.rd_T44 (l.map cvB) (i : Int) = cvB (rd_T44 l (i : Int)) := by
  simp only [PMuxOnce.rd_T44, rd_T44, Int.toNat_natCast, List.getD_eq_getElem?_getD, List.getElem?_map]
  cases l[i]? <;> rfl
def ansB (o : Option (List Int)) : ByteArray × Int := match o with | some a => (strOfNums a, 0) | none => (⟨#[]⟩, 90)
theorem nil_iff (y : ByteArray) : (y.toList == ([] : List UInt8)) = decide (y.size = 0) := by
  rw [ByteArray.toList_eq]
  obtain ⟨⟨d⟩⟩ := y
  cases d with
  | nil => rfl
  | cons a b => rfl
theorem ref_b (l : List S44) (hl : l.length ≤ 140737488351232) : ∀ (j i : Nat) (acc : List Int) (k : Nat), i + j = l.length → 2 * j + 1 ≤ k → acc.length ≤ 63 * i →
    PMuxOnce.stopcockref09_Bytes.l0 k (strOfNums acc) (l.map cvB) (l.length : Int) (i : Int) = some (ansB (runE acc (l.drop i))) := by
  intro j
  induction j with
  | zero =>
    intro i acc k hi hk ha
    obtain ⟨k, rfl⟩ : ∃ k', k = k' + 1 := ⟨k - 1, by omega⟩
    unfold PMuxOnce.stopcockref09_Bytes.l0
    rw [if_neg (by omega), List.drop_of_length_le (by omega)]
    rfl
  | succ j ih =>
    intro i acc k hi hk ha
    obtain ⟨k, rfl⟩ : ∃ k', k = k' + 1 + 1 := ⟨k - 2, by omega⟩
    have hc : i < l.length := by omega
    have hd := runE_drop acc l i hc
    have hw : wrap64 ((i : Int) + 1) = ((i + 1 : Nat) : Int) := by unfold wrap64; omega
    unfold PMuxOnce.stopcockref09_Bytes.l0
    rw [if_pos (by omega), if_pos (by omega), if_pos (by rw [List.length_map]; omega), cvB_rd]
    obtain ⟨⟨c, y⟩, hf⟩ : ∃ f, f = rd_T44 l (i : Int) := ⟨_, rfl⟩
    rw [← hf] at hd ⊢
    rw [hd]
    have hj : (if (cvB ⟨c, y⟩).f0 = 66 then PMuxOnce.stopcockref09_Bytes.j1 (k + 1) (strOfNums acc) (l.map cvB) (l.length : Int) (i : Int) ((cvB ⟨c, y⟩).f1.toList == ([] : List UInt8)) (cvB ⟨c, y⟩).f0 (cvB ⟨c, y⟩).f1
        else if (cvB ⟨c, y⟩).f0 = 69 then PMuxOnce.stopcockref09_Bytes.j1 (k + 1) (strOfNums acc) (l.map cvB) (l.length : Int) (i : Int) ((cvB ⟨c, y⟩).f1.toList == ([] : List UInt8)) (cvB ⟨c, y⟩).f0 (cvB ⟨c, y⟩).f1
        else PMuxOnce.stopcockref09_Bytes.j1 (k + 1) (strOfNums acc) (l.map cvB) (l.length : Int) (i : Int) false (cvB ⟨c, y⟩).f0 (cvB ⟨c, y⟩).f1)
        = PMuxOnce.stopcockref09_Bytes.j1 (k + 1) (strOfNums acc) (l.map cvB) (l.length : Int) (i : Int) (decide ((c = 66 ∨ c = 69) ∧ y.size = 0)) c y := by
      simp only [cvB, nil_iff]
      by_cases h1 : c = 66
      · simp [h1]
      · by_cases h2 : c = 69
        · simp [h2]
        · simp [h1, h2]
    rw [hj]
    unfold PMuxOnce.stopcockref09_Bytes.j1
    by_cases h1 : (c = 66 ∨ c = 69) ∧ y.size = 0
    · have hn : c ≠ 81 := by omega
      rw [if_pos (decide_eq_true h1), Option.bind_some, if_pos (by rw [strOfNums_size, strOfNums_size, List.length_singleton]; omega), hw, ← son_app, ih (i + 1) (acc ++ [c]) k (by omega) (by omega) (by rw [List.length_append, List.length_singleton]; omega)]
      simp only [encF, if_neg hn, if_pos h1.1, if_pos h1.2]
    · rw [if_neg (by rw [decide_eq_true_iff]; exact h1)]
      by_cases h2 : c = 81
      · subst h2
        rw [if_pos rfl]
        by_cases h3 : y.size ≤ 48
        · have hm : ((y.size : Int)) % 256 = (y.size : Int) := by omega
          rw [if_pos (by omega), Option.bind_some, hm, if_pos (by rw [strOfNums_size]; simp only [List.length_cons, List.length_nil]; omega), if_pos (by rw [ByteArray.size_append, strOfNums_size, strOfNums_size]; simp only [List.length_cons, List.length_nil]; omega), hw]
          have e : strOfNums acc ++ (strOfNums [81, (y.size : Int)] ++ y) = strOfNums (acc ++ (([81] ++ [(y.size : Int)]) ++ bytesOf y)) := by
            rw [son_app, son_app, son_bytes]
            rfl
          rw [e, ih (i + 1) _ k (by omega) (by omega) (by simp only [List.length_append, List.length_cons, List.length_nil, bytesOf_length]; omega)]
          simp only [encF, if_pos h3, if_true]
        · rw [if_neg (by omega)]
          simp only [encF, if_neg h3, if_true, ansB]
      · rw [if_neg h2]
        have : encF ⟨c, y⟩ = none := by
          unfold encF
          rw [if_neg h2]
          split
          · rename_i h4
            rw [if_neg (fun h5 => h1 ⟨h4, h5⟩)]
          · rfl
        rw [this]
        rfl
theorem refbytes_calls (A0 : Option Addr) (c0 : Nat) (l : List S44) (w : World) (hr0 : Kd.C k44 w A0 l.length l) (hc0 : l.length ≤ c0) (hl : l.length ≤ 140737488351232) :
    Calls Try.prog 7 #[.slice A0 l.length c0] w fun e w' => e = .returned (.tuple #[.string (ansB (runE [] l)).1, .int .i64 (ansB (runE [] l)).2]) ∧ Below w.heap.size w w' := by
  have h := PMuxOnce.stopcockref09_Bytes.calls (2 * l.length + 1) A0 c0 (l.map cvB) (ansB (runE [] l)).1 (ansB (runE [] l)).2 w (by rw [List.length_map]; exact cvB_C hr0) (by rw [List.length_map]; exact hc0) (by
    have h := ref_b l hl l.length 0 [] (2 * l.length + 1) (by omega) (by omega) (by simp)
    rw [List.drop_zero] at h
    unfold PMuxOnce.stopcockref09_Bytes.f
    rw [List.length_map]
    exact h)
  rw [List.length_map] at h
  exact h
theorem text_run : ∀ (xs t : List Int) (o : List S44) (n : Nat), xs.length = n + 1 → runS ⟨2, (n : Int) + 1, t, o⟩ xs = ⟨0, 0, t ++ xs, o ++ [⟨81, strOfNums (t ++ xs)⟩]⟩ := by
  intro xs
  induction xs with
  | nil => intro t o n h; simp at h
  | cons c r ih =>
    intro t o n h
    have h1 : r.length = n := by simpa using h
    show runS (stepS ⟨2, (n : Int) + 1, t, o⟩ c) r = _
    cases n with
    | zero =>
      obtain rfl : r = [] := List.length_eq_zero_iff.1 h1
      rfl
    | succ n =>
      have e : stepS ⟨2, ((n + 1 : Nat) : Int) + 1, t, o⟩ c = ⟨2, (n : Int) + 1, t ++ [c], o⟩ := by
        unfold stepS
        simp only []
        rw [if_neg (by decide), if_neg (by decide), if_pos trivial, if_neg (by omega)]
        congr 1
        omega
      rw [e, ih (t ++ [c]) o n h1, List.append_assoc]
      rfl
theorem enc_run (s : RS) (hs : s.at_ = 0) (f : S44) (a : List Int) (h : encF f = some a) : (runS s a).at_ = 0 ∧ (runS s a).out = s.out ++ [f] ∧ (∀ x ∈ a, 0 ≤ x ∧ x < 256) := by
  obtain ⟨c, y⟩ := f
  unfold encF at h
  split at h
  · rename_i hc
    obtain rfl : c = 81 := hc
    split at h
    · rename_i hy
      have hy : y.size ≤ 48 := hy
      injection h with h
      have hby : ∀ x ∈ bytesOf y, 0 ≤ x ∧ x < 256 := by
        intro x hx
        obtain ⟨b, _, rfl⟩ := List.mem_map.1 hx
        have := b.toNat_lt
        omega
      have hs1 : stepS s 81 = ⟨1, s.lacks, s.text, s.out⟩ := by
        unfold stepS
        rw [if_pos hs, if_neg (by decide), if_pos rfl]
      have hb : ∀ x ∈ a, 0 ≤ x ∧ x < 256 := by
        rw [← h]
        intro x hx
        simp only [List.cons_append, List.nil_append, List.mem_cons] at hx
        rcases hx with rfl | rfl | hx
        · omega
        · show (0 : Int) ≤ (y.size : Int) ∧ (y.size : Int) < 256
          omega
        · exact hby x hx
      have e : runS s a = runS (stepS ⟨1, s.lacks, s.text, s.out⟩ (y.size : Int)) (bytesOf y) := by
        rw [← h, ← hs1]
        rfl
      by_cases h0 : y.size = 0
      · have hn : bytesOf y = [] := List.length_eq_zero_iff.1 (by rw [bytesOf_length]; exact h0)
        have hy0 : strOfNums [] = y := by rw [← hn, son_bytes]
        have e2 : stepS ⟨1, s.lacks, s.text, s.out⟩ (y.size : Int) = ⟨0, 0, [], s.out ++ [⟨81, strOfNums []⟩]⟩ := by
          unfold stepS
          simp only []
          rw [if_neg (by decide), if_pos trivial, if_pos (by omega)]
        rw [e, e2, hn, hy0]
        exact ⟨rfl, rfl, hb⟩
      · obtain ⟨n, hn⟩ : ∃ n, y.size = n + 1 := ⟨y.size - 1, by omega⟩
        have e2 : stepS ⟨1, s.lacks, s.text, s.out⟩ (y.size : Int) = ⟨2, (n : Int) + 1, [], s.out⟩ := by
          unfold stepS
          simp only []
          rw [if_neg (by decide), if_pos trivial, if_neg (by omega), if_neg (by omega)]
          congr 1
          omega
        rw [e, e2, text_run (bytesOf y) [] s.out n (by rw [bytesOf_length]; exact hn)]
        refine ⟨rfl, ?_, hb⟩
        show s.out ++ [⟨81, strOfNums (bytesOf y)⟩] = _
        rw [son_bytes]
    · cases h
  · split at h
    · rename_i hc
      have hc : c = 66 ∨ c = 69 := hc
      split at h
      · rename_i hy
        injection h with h
        have hy : y = ⟨#[]⟩ := by
          obtain ⟨d⟩ := y
          have : d.size = 0 := hy
          rw [Array.size_eq_zero_iff.1 this]
        rw [← h, hy]
        have e : stepS s c = { s with out := s.out ++ [⟨c, ⟨#[]⟩⟩] } := by
          unfold stepS
          rw [if_pos hs, if_pos hc]
        show (stepS s c).at_ = 0 ∧ (stepS s c).out = _ ∧ _
        rw [e]
        refine ⟨hs, rfl, fun x hx => ?_⟩
        have : x = c := by simpa using hx
        omega
      · cases h
    · cases h
theorem enc_runs : ∀ (l : List S44) (s : RS) (a0 acc : List Int), s.at_ = 0 → runE a0 l = some acc → ∃ r, acc = a0 ++ r ∧ (runS s r).at_ = 0 ∧ (runS s r).out = s.out ++ l ∧ (∀ x ∈ r, 0 ≤ x ∧ x < 256) ∧ r.length ≤ 63 * l.length := by
  intro l
  induction l with
  | nil =>
    intro s a0 acc hs h
    injection h with h
    exact ⟨[], by simp [h], hs, by simp [runS], by simp, by simp⟩
  | cons f r ih =>
    intro s a0 acc hs h
    unfold runE at h
    cases he : encF f with
    | none => rw [he] at h; cases h
    | some a =>
      rw [he] at h
      obtain ⟨h1, h2, h3⟩ := enc_run s hs f a he
      obtain ⟨q, e, h4, h5, h6, h7⟩ := ih (runS s a) (a0 ++ a) acc h1 h
      have hr : runS s (a ++ q) = runS (runS s a) q := by unfold runS; rw [List.foldl_append]
      refine ⟨a ++ q, by rw [e, List.append_assoc], by rw [hr]; exact h4, by rw [hr, h5, h2, List.append_assoc]; rfl, ?_, ?_⟩
      · intro x hx
        rcases List.mem_append.1 hx with hx | hx
        · exact h3 x hx
        · exact h6 x hx
      · have := encF_len he
        rw [List.length_append, List.length_cons]
        omega
set_option maxRecDepth 100000 in
theorem clone_nil (c0 : Nat) (w : World) :
    Calls Try.prog 46 #[.slice none 0 c0] w fun e w' => e = .returned (.slice none 0 0) ∧ w = w' := by
  have h1 := fun (w : World) => Lib.run_eql_slice_nil (P := Try.prog) w 31 5 none 0 c0 0 0 Try.underlying31
  go_enter Try.func46, Try.ntmps46
  go_wp2
  go_ret
  exact ⟨rfl, rfl⟩
set_option maxRecDepth 100000 in
theorem clone_some (a : Addr) (c0 : Nat) (l : List Int) (w : World) (hr0 : Kd.C (Kd.int .u8) w (some a) l.length l) (hc0 : l.length ≤ c0) (hl : l.length ≤ 140737488355328) :
    Calls Try.prog 46 #[.slice (some a) l.length c0] w fun e w' => ∃ v, e = .returned v ∧ Kd.R (Kd.int .u8) 5 w' w.heap.size (fun _ => True) v l ∧ Below w.heap.size w w' := by
  have HR := Aside0.mk hr0
  have HC := Aside0.mk hc0
  have HB := Aside0.mk (Below.refl w.heap.size w)
  clear hr0 hc0
  have h1 := fun (w : World) => Lib.run_eql_slice_nil (P := Try.prog) w 31 5 (some a) l.length c0 0 0 Try.underlying31
  go_enter Try.func46, Try.ntmps46
  go_wp2_with (first | ((with_reducible refine gate_dst (N := 5) rfl ?_); refine Kd.R_lit (Kd.int .u8) _ 5 ?hg (N := 5) ?hd (xs := ([] : List Int)) (inner := []) (ok := fun _ => True) (okp := fun _ => True) ?hr (Reps.none _ _) (fun _ hk => hk) trivial (Below.refl _ _) (Nat.le_refl _) (by simp) ?_; (case hd => rfl); (case hg => rfl); (case hr => first | (go_simp; done) | (go_simp; rfl)); intro v1 w1 ho hb hg_ hnew_; clear hg_ hnew_ HB; have HO := Aside0.mk ho; have HB := Aside0.mk hb; clear ho hb) | ((with_reducible refine gate_builtin (b := .append) (xs := #[.tmp 5, .tmp 6]) rfl ?_); at_builtin; refine Kd.R_append_rows (Kd.int .u8) (w0 := w) w.heap.size rfl (.tmp 5) (.tmp 6) 31 5 (.int .u8 0) 1 rfl Try.underlying31 info5 rfl (by decide) (by omega) v1 [] l _ _ _ (fun _ => True) (fun _ => False) rfl rfl HO.out (Kd.C_below HR.out HB.out) (fun _ _ h => h) (fun _ h => h.elim) (fun _ _ => trivial) HB.out HB.out.size ?aL ?_; (case aL => simp; omega); intro v2 w2 ho hb hg hat; rw [List.nil_append] at ho; clear HO HB; have HO := Aside0.mk ho; have HB := Aside0.mk hb; clear ho hb hg hat; obtain ⟨A2, n2, e2⟩ := Kd.R_slice HO.out; subst e2))
  go_ret
  exact ⟨_, rfl, HO.out, HB.out⟩

theorem clone_calls (A : Option Addr) (c0 : Nat) (l : List Int) (w : World) (hr0 : Kd.C (Kd.int .u8) w A l.length l) (hc0 : l.length ≤ c0) (hl : l.length ≤ 140737488355328) :
    Calls Try.prog 46 #[.slice A l.length c0] w fun e w' => ∃ v, e = .returned v ∧ Kd.R (Kd.int .u8) 5 w' w.heap.size (fun _ => True) v l ∧ Below w.heap.size w w' := by
  cases A with
  | some a => exact clone_some a c0 l w hr0 hc0 hl
  | none =>
    have h : l = [] := by
      rcases Nat.eq_zero_or_pos l.length with h | h
      · exact List.eq_nil_of_length_eq_zero h
      · obtain ⟨ad, e, _⟩ := hr0.2.2 h
        cases e
    subst h
    exact (clone_nil c0 w).mono fun e w' ⟨he, hw⟩ => ⟨_, he, by subst hw; exact Kd.R_nil _ _ _ _ _, by subst hw; exact Below.refl _ _⟩
set_option maxRecDepth 100000 in
theorem rclone_calls (S : Nat → Prop) (b bo g : Nat) (at_ lacks : Int) (A : Option Addr) (c : Nat) (vo : Value) (text : List Int) (out : List S44) (w : World) (h : Rdr S b bo w g at_ lacks (.slice A text.length c) vo text out) (hl : text.length ≤ 1000) :
    Calls Try.prog 40 #[.pointer (some ⟨g, 0, none⟩)] w fun e w' => ∃ g2 v2, e = .returned (.pointer (some ⟨g2, 0, none⟩)) ∧ w.heap.size ≤ g2 ∧ (∀ bo, Rdr (fun k => w.heap.size ≤ k ∧ k < w'.heap.size) w.heap.size bo w' g2 at_ lacks v2 (.slice none 0 0) text []) ∧ Below w.heap.size w w' := by
  obtain ⟨hc0, hc1, hc2, hc3⟩ := h.cells
  have HC := Aside0.mk (Kd.R_reads' h.2.2.2.1)
  have HK := Aside0.mk h.2.2.1
  clear h hc3
  go_enter Try.func40, Try.ntmps40
  go_wp2_with fail
  go_region_held3 (fun w' => w'.cell? ⟨g, 0, none⟩ = some (.int .i64 at_) ∧ w'.cell? ⟨g, 1, none⟩ = some (.int .i64 lacks) ∧ w'.cell? ⟨g, 2, none⟩ = some (.slice A text.length c)) (first | exact ⟨q0, q1, q2⟩ | go_keep) ((refine (clone_calls A c text w.drew HC.out.2.2 HC.out.2.1 (by omega)).mono ?_; rintro _ w2 ⟨v, rfl, ho, hb⟩; obtain ⟨A2, c2, e2⟩ := Kd.R_slice ho; subst e2; have HO := Aside0.mk ho; have HB := Aside0.mk hb; clear ho hb; have hb2 := (HB.out.block g (blk_lt HK.out)).trans HK.out; have q0 : w2.cell? ⟨g, 0, none⟩ = some (.int .i64 at_) := (blk_cell hb2 0).trans rfl; have q1 : w2.cell? ⟨g, 1, none⟩ = some (.int .i64 lacks) := (blk_cell hb2 1).trans rfl; have q2 : w2.cell? ⟨g, 2, none⟩ = some (.slice A text.length c) := (blk_cell hb2 2).trans rfl; clear hb2))
  go_wp2_with fail
  go_ret
  have hb : Below w.heap.size w w2 := (Below.refl w.heap.size w).drew.trans HB.out
  have hb2 := below_alloc hb (.cells #[.int .i64 at_, .int .i64 lacks, .slice A2 text.length c2, .slice none 0 0] 86)
  have ho : Kd.R (Kd.int .u8) 5 (w2.alloc (.cells #[.int .i64 at_, .int .i64 lacks, .slice A2 text.length c2, .slice none 0 0] 86)) w.heap.size (fun k => w.heap.size ≤ k ∧ k < (w2.alloc (.cells #[.int .i64 at_, .int .i64 lacks, .slice A2 text.length c2, .slice none 0 0] 86)).heap.size) (.slice A2 text.length c2) text :=
    Kd.R_mono (Kd.R_bound (Kd.R_below HO.out (below_alloc (Below.refl _ _) _))) (fun k hk => ⟨hk.2.1, hk.2.2.1⟩)
  exact ⟨_, _, rfl, hb.size, fun bo => ⟨⟨hb.size, by simp⟩, hb.size, heap_alloc_new w2 _, ho, Kd.R_nil _ _ _ _ _⟩, hb2⟩
def By (l : List Int) : Prop := ∀ x ∈ l, 0 ≤ x ∧ x < 256
def parse : Nat → List S44 → List Int → List S44 × List Int × Bool
  | 0, out, B => (out, B, false)
  | _ + 1, out, [] => (out, [], false)
  | k + 1, out, c :: r =>
    if c = 66 ∨ c = 69 then parse k (out ++ [⟨c, ⟨#[]⟩⟩]) r
    else if c ≠ 81 then (out, [], true)
    else match r with
      | [] => (out, [81], false)
      | n :: t => if 48 < n then (out, [], true) else if (t.length : Int) < n then (out, 81 :: n :: t, false) else parse k (out ++ [⟨81, strOfNums (t.take n.toNat)⟩]) (t.drop n.toNat)
theorem bytes_son (B : List Int) (h : By B) : bytesOf (strOfNums B) = B := by
  unfold bytesOf
  rw [strOfNums_data, List.map_map]
  conv => rhs; rw [← List.map_id B]
  refine List.map_congr_left fun x hx => ?_
  have := h x hx
  simp
  omega
theorem ex_son (B : List Int) (h : By B) (i j : Nat) : (strOfNums B).extract i j = strOfNums ((B.take j).drop i) := by
  rw [← son_bytes ((strOfNums B).extract i j)]
  have e := nums_extract (strOfNums B) i j
  have e1 : nums (strOfNums B) = B := bytes_son B h
  rw [e1] at e
  exact congrArg strOfNums e
theorem bt_son (B : List Int) (h : By B) (i : Nat) (hi : i < B.length) : bt (strOfNums B) (i : Int) = B[i] := by
  rw [← rd_bytesOf, bytes_son B h]
  simp [rd, List.getD_eq_getElem?_getD, List.getElem?_eq_getElem hi]
theorem son_nil (B : List Int) : ((strOfNums B).toList = ([] : List UInt8)) ↔ B = [] := by
  rw [ByteArray.toList_eq, strOfNums_data]
  simp
theorem parse_kept : ∀ (k : Nat) (out : List S44) (B : List Int), By B → By (parse k out B).2.1 ∧ (parse k out B).2.1.length ≤ B.length := by
  intro k
  induction k with
  | zero => intro out B h; exact ⟨h, Nat.le_refl _⟩
  | succ k ih =>
    intro out B h
    cases B with
    | nil => exact ⟨h, Nat.le_refl _⟩
    | cons c r =>
      unfold parse
      split
      · have := ih (out ++ [⟨c, ⟨#[]⟩⟩]) r (fun x hx => h x (List.mem_cons_of_mem _ hx))
        exact ⟨this.1, Nat.le_trans this.2 (by simp)⟩
      · split
        · exact ⟨fun x hx => by simp at hx, by simp⟩
        · rename_i h1 h2
          cases r with
          | nil => exact ⟨fun x hx => by simp at hx; omega, by simp⟩
          | cons n t =>
            simp only []
            split
            · exact ⟨fun x hx => by simp at hx, by simp⟩
            · split
              · refine ⟨fun x hx => ?_, by simp⟩
                rcases List.mem_cons.1 hx with rfl | hx
                · omega
                · exact h x (List.mem_cons_of_mem _ hx)
              · have := ih (out ++ [⟨81, strOfNums (t.take n.toNat)⟩]) (t.drop n.toNat) (fun x hx => h x (List.mem_cons_of_mem _ (List.mem_cons_of_mem _ (List.mem_of_mem_drop hx))))
                exact ⟨this.1, Nat.le_trans this.2 (by simp; omega)⟩
theorem ref_parse : ∀ (k : Nat) (B : List Int) (out : List S44) (K : Nat), B.length ≤ k → 3 * k + 1 ≤ K → By B → B.length + out.length ≤ 2000000 →
    stopcockref09_Reader_Feed.l0 K out (strOfNums B) false = some ((parse k out B).1, strOfNums (parse k out B).2.1, (parse k out B).2.2) := by
  intro k
  induction k with
  | zero =>
    intro B out K hk hK hB hl
    obtain rfl : B = [] := List.length_eq_zero_iff.1 (by omega)
    obtain ⟨K, rfl⟩ : ∃ K', K = K' + 1 := ⟨K - 1, by omega⟩
    unfold stopcockref09_Reader_Feed.l0
    rw [if_pos ((son_nil []).2 rfl)]
    rfl
  | succ k ih =>
    intro B out K hk hK hB hl
    obtain ⟨K, rfl⟩ : ∃ K', K = K' + 1 + 1 + 1 := ⟨K - 3, by omega⟩
    unfold stopcockref09_Reader_Feed.l0
    cases B with
    | nil =>
      rw [if_pos ((son_nil []).2 rfl)]
      rfl
    | cons c r =>
      have hr : By r := fun x hx => hB x (List.mem_cons_of_mem _ hx)
      have hc := hB c (List.mem_cons_self ..)
      have hz : ((strOfNums (c :: r)).size : Int) = (r.length : Int) + 1 := by rw [strOfNums_size]; simp
      have hb0 : bt (strOfNums (c :: r)) 0 = c := bt_son (c :: r) hB 0 (by simp)
      have hex : (strOfNums (c :: r)).extract 1 (strOfNums (c :: r)).size = strOfNums r := by
        rw [ex_son _ hB, strOfNums_size, List.take_length]
        rfl
      simp only [List.length_cons] at hk hl
      rw [if_neg (fun h => by have := (son_nil _).1 h; cases this), if_pos (by omega), hb0]
      have hj : (if c = 66 then stopcockref09_Reader_Feed.j1 (K + 1 + 1) out c true (strOfNums (c :: r)) false else stopcockref09_Reader_Feed.j1 (K + 1 + 1) out c (c == 69) (strOfNums (c :: r)) false) = stopcockref09_Reader_Feed.j1 (K + 1 + 1) out c (decide (c = 66 ∨ c = 69)) (strOfNums (c :: r)) false := by
        by_cases h1 : c = 66
        · simp [h1]
        · by_cases h2 : c = 69
          · simp [h2]
          · have h3 : (c == 69) = false := beq_eq_false_iff_ne.2 h2
            simp [h1, h2, h3]
      rw [hj]
      unfold stopcockref09_Reader_Feed.j1 parse
      by_cases h1 : c = 66 ∨ c = 69
      · rw [if_pos (decide_eq_true h1), if_pos (by omega), if_pos (by omega), hex, if_pos h1]
        exact ih r (out ++ [⟨c, ⟨#[]⟩⟩]) (K + 1) (by omega) (by omega) hr (by simp; omega)
      · rw [if_neg (by rw [decide_eq_true_iff]; exact h1), if_neg h1]
        by_cases h2 : c = 81
        · subst h2
          rw [if_pos rfl, if_neg (show ¬ ((81 : Int) ≠ 81) by simp)]
          cases r with
          | nil =>
            rw [if_neg (by rw [hz]; simp)]
            unfold stopcockref09_Reader_Feed.j2
            rw [if_neg (by decide), if_pos (by rw [hz]; simp)]
          | cons n t =>
            have hn := hr n (List.mem_cons_self ..)
            have hb1 : bt (strOfNums (81 :: n :: t)) 1 = n := bt_son (81 :: n :: t) hB 1 (by simp)
            simp only [List.length_cons] at hz hk hl
            have hw : wrap64 (2 + wrap64 n) = 2 + n := by unfold wrap64; omega
            rw [if_pos (by omega), if_pos (by omega), hb1]
            unfold stopcockref09_Reader_Feed.j2
            simp only []
            by_cases h3 : 48 < n
            · rw [if_pos h3, if_pos (decide_eq_true h3)]
              rfl
            · rw [if_neg (by rw [decide_eq_true_iff]; exact h3), if_neg h3, if_neg (by omega), if_pos (by omega), hb1, hw]
              by_cases h4 : (t.length : Int) < n
              · rw [if_pos (by omega), if_pos h4]
              · have e1 : (strOfNums (81 :: n :: t)).extract 2 (2 + n).toNat = strOfNums (t.take n.toNat) := by
                  rw [ex_son _ hB, show (2 + n).toNat = n.toNat + 1 + 1 by omega]
                  rfl
                have e2 : (strOfNums (81 :: n :: t)).extract (2 + n).toNat (strOfNums (81 :: n :: t)).size = strOfNums (t.drop n.toNat) := by
                  rw [ex_son _ hB, strOfNums_size, List.take_length, show (2 + n).toNat = n.toNat + 1 + 1 by omega]
                  rfl
                rw [if_neg (by omega), if_neg h4, if_pos (by omega), if_pos (by omega), if_pos (by omega), if_pos (by omega), e1, e2]
                exact ih (t.drop n.toNat) _ K (by rw [List.length_drop]; omega) (by omega) (fun x hx => hr x (List.mem_cons_of_mem _ (List.mem_of_mem_drop hx))) (by rw [List.length_drop, List.length_append, List.length_singleton]; omega)
        · rw [if_neg h2, if_pos h2]
          unfold stopcockref09_Reader_Feed.j2
          rw [if_pos rfl]
          rfl
def keptS (s : RS) : List Int := if s.at_ = 1 then [81] else if s.at_ = 2 then 81 :: ((s.text.length : Int) + s.lacks) :: s.text else []
theorem run_stuck (s : RS) (h : s.at_ = 3) : ∀ xs : List Int, runS s xs = s := by
  intro xs
  induction xs with
  | nil => rfl
  | cons c r ih =>
    have e : stepS s c = s := by
      unfold stepS
      rw [if_neg (by omega), if_neg (by omega), if_neg (by omega)]
    show runS (stepS s c) r = s
    rw [e]
    exact ih
theorem text_part : ∀ (xs t : List Int) (o : List S44) (q : Int), (xs.length : Int) < q → runS ⟨2, q, t, o⟩ xs = ⟨2, q - xs.length, t ++ xs, o⟩ := by
  intro xs
  induction xs with
  | nil => intro t o q h; simp [runS]
  | cons c r ih =>
    intro t o q h
    simp only [List.length_cons] at h
    have e : stepS ⟨2, q, t, o⟩ c = ⟨2, q - 1, t ++ [c], o⟩ := by
      unfold stepS
      simp only []
      rw [if_neg (by decide), if_neg (by decide), if_pos trivial, if_neg (by omega)]
    show runS (stepS ⟨2, q, t, o⟩ c) r = _
    rw [e, ih (t ++ [c]) o (q - 1) (by omega), List.append_assoc]
    congr 1
    simp only [List.length_cons]
    omega
def obs (s : RS) : List S44 × List Int × Bool := (s.out, keptS s, decide (s.at_ = 3))
theorem run_parse : ∀ (k : Nat) (B : List Int) (x : Int) (t : List Int) (out : List S44), B.length ≤ k → By B → obs (runS ⟨0, x, t, out⟩ B) = parse k out B := by
  intro k
  induction k with
  | zero =>
    intro B x t out hk hB
    obtain rfl : B = [] := List.length_eq_zero_iff.1 (by omega)
    rfl
  | succ k ih =>
    intro B x t out hk hB
    cases B with
    | nil => rfl
    | cons c r =>
      have hr : By r := fun x hx => hB x (List.mem_cons_of_mem _ hx)
      simp only [List.length_cons] at hk
      unfold parse
      show obs (runS (stepS ⟨0, x, t, out⟩ c) r) = _
      by_cases h1 : c = 66 ∨ c = 69
      · have e : stepS ⟨0, x, t, out⟩ c = ⟨0, x, t, out ++ [⟨c, ⟨#[]⟩⟩]⟩ := by
          unfold stepS
          simp only []
          rw [if_pos trivial, if_pos h1]
        rw [e, if_pos h1]
        exact ih r x t _ (by omega) hr
      · rw [if_neg h1]
        by_cases h2 : c = 81
        · subst h2
          have e : stepS ⟨0, x, t, out⟩ 81 = ⟨1, x, t, out⟩ := by
            unfold stepS
            simp only []
            rw [if_pos trivial, if_neg h1, if_pos trivial]
          rw [e, if_neg (by simp)]
          cases r with
          | nil => rfl
          | cons n u =>
            have hn := hr n (List.mem_cons_self ..)
            have hu : By u := fun x hx => hr x (List.mem_cons_of_mem _ hx)
            simp only [List.length_cons] at hk
            simp only []
            show obs (runS (stepS ⟨1, x, t, out⟩ n) u) = _
            by_cases h3 : 48 < n
            · have e : stepS ⟨1, x, t, out⟩ n = ⟨3, n, [], out⟩ := by
                unfold stepS
                simp only []
                rw [if_neg (by decide), if_pos trivial, if_neg (by omega), if_pos h3]
              rw [e, run_stuck _ rfl, if_pos h3]
              rfl
            · rw [if_neg h3]
              by_cases h0 : n = 0
              · subst h0
                have e : stepS ⟨1, x, t, out⟩ 0 = ⟨0, 0, [], out ++ [⟨81, strOfNums []⟩]⟩ := by
                  unfold stepS
                  simp only []
                  rw [if_neg (by decide), if_pos trivial, if_pos trivial]
                rw [e, if_neg (by omega)]
                exact ih u 0 [] _ (by omega) hu
              · have e : stepS ⟨1, x, t, out⟩ n = ⟨2, n, [], out⟩ := by
                  unfold stepS
                  simp only []
                  rw [if_neg (by decide), if_pos trivial, if_neg h0, if_neg h3]
                rw [e]
                by_cases h4 : (u.length : Int) < n
                · rw [text_part u [] out n h4, if_pos h4]
                  unfold obs keptS
                  simp only [List.nil_append]
                  rw [if_neg (by decide), if_pos trivial]
                  rw [show (u.length : Int) + (n - (u.length : Int)) = n by omega]
                  rfl
                · obtain ⟨m, hm⟩ : ∃ m : Nat, n = (m : Int) + 1 := ⟨n.toNat - 1, by omega⟩
                  have ht : (u.take n.toNat).length = m + 1 := by rw [List.length_take]; omega
                  have es : runS ⟨2, n, [], out⟩ u = runS ⟨0, 0, u.take n.toNat, out ++ [⟨81, strOfNums (u.take n.toNat)⟩]⟩ (u.drop n.toNat) := by
                    conv => lhs; rw [← List.take_append_drop n.toNat u]
                    unfold runS
                    rw [List.foldl_append]
                    have := text_run (u.take n.toNat) [] out m ht
                    unfold runS at this
                    rw [hm] at this ⊢
                    rw [this]
                    rfl
                  rw [es, if_neg h4]
                  exact ih (u.drop n.toNat) 0 _ _ (by rw [List.length_drop]; omega) (fun x hx => hu x (List.mem_of_mem_drop hx))
        · have e : stepS ⟨0, x, t, out⟩ c = ⟨3, x, t, out⟩ := by
            unfold stepS
            simp only []
            rw [if_pos trivial, if_neg h1, if_neg h2]
          rw [e, run_stuck _ rfl, if_pos h2]
          rfl
theorem run_kept (s : RS) (hs : okS s) (h3 : s.at_ ≠ 3) : ∃ x t, runS ⟨0, x, t, s.out⟩ (keptS s) = s := by
  obtain ⟨a, q, t, o⟩ := s
  obtain ⟨ha, h2⟩ := hs
  simp only [] at ha h2 h3 ⊢
  rcases ha with rfl | rfl | rfl | rfl
  · exact ⟨q, t, rfl⟩
  · exact ⟨q, t, rfl⟩
  · obtain ⟨hq, hl⟩ := h2 rfl
    refine ⟨q, t, ?_⟩
    have e : keptS ⟨2, q, t, o⟩ = 81 :: ((t.length : Int) + q) :: t := rfl
    rw [e]
    show runS (stepS ⟨1, q, t, o⟩ ((t.length : Int) + q)) t = _
    have e : stepS ⟨1, q, t, o⟩ ((t.length : Int) + q) = ⟨2, (t.length : Int) + q, [], o⟩ := by
      unfold stepS
      simp only []
      rw [if_neg (by decide), if_pos trivial, if_neg (by omega), if_neg (by omega)]
    rw [e, text_part t [] o _ (by omega)]
    congr 1
    omega
  · exact absurd rfl h3
theorem left_kept (s : RS) (hs : okS s) : leftI s = ((keptS s).length : Int) := by
  unfold leftI keptS
  split
  · rfl
  · split
    · simp only [List.length_cons]; omega
    · rfl
theorem kept_len (s : RS) (hs : okS s) : (keptS s).length ≤ 63 := by
  unfold keptS
  split
  · simp
  · split
    · rename_i h; have := hs.2 h; simp only [List.length_cons]; omega
    · simp
/-- What the reader tells and keeps is what the document's tells and keeps. -/
theorem feed_ref (s : RS) (hs : okS s) (ho : s.out = []) (hk : By (keptS s)) (a : ByteArray) (ha : a.size ≤ 10000) :
    stopcockref09_Reader_Feed.f 40000 (strOfNums (keptS s)) (decide (s.at_ = 3)) a = some ((runS s (nums a)).out, strOfNums (keptS (runS s (nums a))), decide ((runS s (nums a)).at_ = 3)) ∧ By (keptS (runS s (nums a))) := by
  unfold stopcockref09_Reader_Feed.f
  by_cases h3 : s.at_ = 3
  · rw [run_stuck s h3, if_pos (decide_eq_true h3), ho]
    exact ⟨rfl, hk⟩
  · obtain ⟨x, t, hx⟩ := run_kept s hs h3
    have hl := kept_len s hs
    have hn : (nums a).length = a.size := nums_len a
    have hB : By (keptS s ++ nums a) := fun y hy => (List.mem_append.1 hy).elim (hk y) (nums_by a y)
    have hr : runS s (nums a) = runS ⟨0, x, t, []⟩ (keptS s ++ nums a) := by
      rw [← ho]
      unfold runS at hx ⊢
      rw [List.foldl_append, hx]
    have hp := run_parse 10100 (keptS s ++ nums a) x t [] (by rw [List.length_append]; omega) hB
    rw [← hr] at hp
    have hq := ref_parse 10100 (keptS s ++ nums a) [] 40000 (by rw [List.length_append]; omega) (by decide) hB (by rw [List.length_append]; simp; omega)
    rw [← hp] at hq
    rw [if_neg (by rw [decide_eq_true_iff]; exact h3), if_pos (by rw [strOfNums_size]; omega), decide_eq_false h3]
    have e : strOfNums (keptS s) ++ a = strOfNums (keptS s ++ nums a) := by
      rw [son_app]
      congr 1
      exact (son_bytes a).symm
    rw [e]
    refine ⟨hq, ?_⟩
    have := (parse_kept 10100 [] (keptS s ++ nums a) hB).1
    rw [← hp] at this
    exact this

end Go.Proofs.Ythjjblnkaikmlaa.St
