/- The law StreamBytes' function, walked: the program's bytes of frames are the document's. -/
import Derived.Test.YtpnbeifbapcmdaaStD
import Derived.Test.YtpnbeifbapcmdaaPStreamBytesx1
namespace Go.Proofs.Ytpnbeifbapcmdaa.St
open Go.RowKit Go.Proofs.Ytpnbeifbapcmdaa.PStreamFeeds Go.Proofs.YtpnbeifbapcmdaaW.PrintWords Go.Proofs.YtpnbeifbapcmdaaW.PrintLast Go.Proofs.YtpnbeifbapcmdaaW.PrintMore
set_option linter.unusedVariables false
set_option linter.unusedSimpArgs false
attribute [local go_sem] max2_int min2_int max_two min_two
theorem son_app (a b : List Int) : strOfNums (a ++ b) = strOfNums a ++ strOfNums b := by
  apply ByteArray.ext
  rw [ByteArray.data_append]
  simp [strOfNums]
theorem son_bytes (y : ByteArray) : strOfNums (bytesOf y) = y := by
  apply ByteArray.ext
  apply Array.ext'
  simp only [strOfNums, bytesOf, List.map_map]
  conv => rhs; rw [← List.map_id y.data.toList]
  refine List.map_congr_left fun x _ => ?_
  simp
def cvB (f : S64) : PStreamBytes.S64 := ⟨f.f0, f.f1⟩
theorem cvB_C {w : World} {A : Option Addr} {n : Nat} {l : List S64} (h : Kd.C k64 w A n l) : Kd.C PStreamBytes.k64 w A n (l.map cvB) := by
  obtain ⟨h1, h2, h3⟩ := h
  refine ⟨by rw [List.length_map]; exact h1, h2, fun hn => ?_⟩
  obtain ⟨ad, e, h4⟩ := h3 hn
  refine ⟨ad, e, fun j p hp => ?_⟩
  rw [List.getElem?_map] at hp
  obtain ⟨f, hf, rfl⟩ := Option.map_eq_some_iff.1 hp
  exact h4 j f hf
theorem cvB_rd (l : List S64) (i : Nat) : PStreamBytes.rd_T64 (l.map cvB) (i : Int) = cvB (rd_T64 l (i : Int)) := by
  simp only [PStreamBytes.rd_T64, rd_T64, Int.toNat_natCast, List.getD_eq_getElem?_getD, List.getElem?_map]
  cases l[i]? <;> rfl
def ansB (o : Option (List Int)) : ByteArray × Int := match o with | some a => (strOfNums a, 0) | none => (⟨#[]⟩, 90)
theorem nil_iff (y : ByteArray) : (y.toList == ([] : List UInt8)) = decide (y.size = 0) := by
  rw [ByteArray.toList_eq]
  obtain ⟨⟨d⟩⟩ := y
  cases d with
  | nil => rfl
  | cons a b => rfl
theorem ref_b (l : List S64) (hl : l.length ≤ 2000000) : ∀ (j i : Nat) (acc : List Int) (k : Nat), i + j = l.length → 2 * j + 1 ≤ k → acc.length ≤ 50 * i →
    PStreamBytes.stopcockref09_Bytes.l0 k (strOfNums acc) (l.map cvB) (l.length : Int) (i : Int) = some (ansB (runE acc (l.drop i))) := by
  intro j
  induction j with
  | zero =>
    intro i acc k hi hk ha
    obtain ⟨k, rfl⟩ : ∃ k', k = k' + 1 := ⟨k - 1, by omega⟩
    unfold PStreamBytes.stopcockref09_Bytes.l0
    rw [if_neg (by omega), List.drop_of_length_le (by omega)]
    rfl
  | succ j ih =>
    intro i acc k hi hk ha
    obtain ⟨k, rfl⟩ : ∃ k', k = k' + 1 + 1 := ⟨k - 2, by omega⟩
    have hc : i < l.length := by omega
    have hd := runE_drop acc l i hc
    have hw : wrap64 ((i : Int) + 1) = ((i + 1 : Nat) : Int) := by unfold wrap64; omega
    unfold PStreamBytes.stopcockref09_Bytes.l0
    rw [if_pos (by omega), if_pos (by omega), if_pos (by rw [List.length_map]; omega), cvB_rd]
    obtain ⟨⟨c, y⟩, hf⟩ : ∃ f, f = rd_T64 l (i : Int) := ⟨_, rfl⟩
    rw [← hf] at hd ⊢
    rw [hd]
    have hj : (if (cvB ⟨c, y⟩).f0 = 66 then PStreamBytes.stopcockref09_Bytes.j1 (k + 1) (strOfNums acc) (l.map cvB) (l.length : Int) (i : Int) ((cvB ⟨c, y⟩).f1.toList == ([] : List UInt8)) (cvB ⟨c, y⟩).f0 (cvB ⟨c, y⟩).f1
        else if (cvB ⟨c, y⟩).f0 = 69 then PStreamBytes.stopcockref09_Bytes.j1 (k + 1) (strOfNums acc) (l.map cvB) (l.length : Int) (i : Int) ((cvB ⟨c, y⟩).f1.toList == ([] : List UInt8)) (cvB ⟨c, y⟩).f0 (cvB ⟨c, y⟩).f1
        else PStreamBytes.stopcockref09_Bytes.j1 (k + 1) (strOfNums acc) (l.map cvB) (l.length : Int) (i : Int) false (cvB ⟨c, y⟩).f0 (cvB ⟨c, y⟩).f1)
        = PStreamBytes.stopcockref09_Bytes.j1 (k + 1) (strOfNums acc) (l.map cvB) (l.length : Int) (i : Int) (decide ((c = 66 ∨ c = 69) ∧ y.size = 0)) c y := by
      simp only [cvB, nil_iff]
      by_cases h1 : c = 66
      · simp [h1]
      · by_cases h2 : c = 69
        · simp [h2]
        · simp [h1, h2]
    rw [hj]
    unfold PStreamBytes.stopcockref09_Bytes.j1
    by_cases h1 : (c = 66 ∨ c = 69) ∧ y.size = 0
    · have hn : c ≠ 81 := by omega
      rw [if_pos (decide_eq_true h1), Option.bind_some, if_pos (by rw [strOfNums_size, strOfNums_size, List.length_singleton]; omega), hw, ← son_app, ih (i + 1) (acc ++ [c]) k (by omega) (by omega) (by rw [List.length_append, List.length_singleton]; omega)]
      simp only [encF, if_neg hn, if_pos h1.1, if_pos h1.2]
    · rw [if_neg (by rw [decide_eq_true_iff]; exact h1)]
      by_cases h2 : c = 81
      · subst h2
        rw [if_pos rfl]
        by_cases h3 : y.size ≤ 48
        · have hm : ((y.size : Int)) % 256 = (y.size : Int) := by omega
          rw [if_pos (by omega), Option.bind_some, hm, if_pos (by rw [strOfNums_size]; simp only [List.length_cons, List.length_nil]; omega), if_pos (by rw [ByteArray.size_append, strOfNums_size, strOfNums_size]; simp only [List.length_cons, List.length_nil]; omega), hw]
          have e : strOfNums acc ++ (strOfNums [81, (y.size : Int)] ++ y) = strOfNums (acc ++ (([81] ++ [(y.size : Int)]) ++ bytesOf y)) := by
            rw [son_app, son_app, son_bytes]
            rfl
          rw [e, ih (i + 1) _ k (by omega) (by omega) (by simp only [List.length_append, List.length_cons, List.length_nil, bytesOf_length]; omega)]
          simp only [encF, if_pos h3, if_true]
        · rw [if_neg (by omega)]
          simp only [encF, if_neg h3, if_true, ansB]
      · rw [if_neg h2]
        have : encF ⟨c, y⟩ = none := by
          unfold encF
          rw [if_neg h2]
          split
          · rename_i h4
            rw [if_neg (fun h5 => h1 ⟨h4, h5⟩)]
          · rfl
        rw [this]
        rfl
theorem refbytes_calls (A0 : Option Addr) (c0 : Nat) (l : List S64) (w : World) (hr0 : Kd.C k64 w A0 l.length l) (hc0 : l.length ≤ c0) (hl : l.length ≤ 2000000) :
    Calls Try.prog 31 #[.slice A0 l.length c0] w fun e w' => e = .returned (.tuple #[.string (ansB (runE [] l)).1, .int .i64 (ansB (runE [] l)).2]) ∧ Below w.heap.size w w' := by
  have h := PStreamBytes.stopcockref09_Bytes.calls (2 * l.length + 1) A0 c0 (l.map cvB) (ansB (runE [] l)).1 (ansB (runE [] l)).2 w (by rw [List.length_map]; exact cvB_C hr0) (by rw [List.length_map]; exact hc0) (by
    have h := ref_b l hl l.length 0 [] (2 * l.length + 1) (by omega) (by omega) (by simp)
    rw [List.drop_zero] at h
    unfold PStreamBytes.stopcockref09_Bytes.f
    rw [List.length_map]
    exact h)
  rw [List.length_map] at h
  exact h
theorem bytes_calls' (A0 : Option Addr) (c0 : Nat) (l : List S64) (w : World) (hr0 : Kd.C k64 w A0 l.length l) (hc0 : l.length ≤ c0) (hl : l.length ≤ 2000000) :
    Calls Try.prog 30 #[.slice A0 l.length c0] w fun e w' => (∃ (A : Option Addr) (acc : List Int) (c : Nat), e = .returned (.tuple #[.slice A acc.length c, .int .i64 (ansB (runE [] l)).2]) ∧ Kd.R (Kd.int .u8) 5 w' w.heap.size (fun _ => True) (.slice A acc.length c) acc ∧ strOfNums acc = (ansB (runE [] l)).1 ∧ acc = ((runE [] l).getD [])) ∧ Below w.heap.size w w' := by
  refine (bytes_calls A0 c0 l w hr0 hc0 hl).mono ?_
  rintro e w' ⟨h | h, hb⟩
  · obtain ⟨acc, v, h1, rfl, h3⟩ := h
    obtain ⟨A, c, rfl⟩ := Kd.R_slice h3
    exact ⟨⟨A, acc, c, by rw [h1]; rfl, h3, by rw [h1]; rfl, by rw [h1]; rfl⟩, hb⟩
  · obtain ⟨h1, rfl⟩ := h
    exact ⟨⟨none, [], 0, by rw [h1]; rfl, Kd.R_nil _ _ _ _ _, by rw [h1]; rfl, by rw [h1]; rfl⟩, hb⟩
theorem lit_C (w : World) : Kd.C k64 (w.alloc (.cells #[.int .u8 81, .string ⟨#[104, 105]⟩] 64)) (some ⟨w.heap.size, 0, none⟩) 1 [⟨81, ⟨#[104, 105]⟩⟩] := by
  refine ⟨rfl, by decide, fun _ => ⟨_, rfl, fun j p hp => ?_⟩⟩
  cases j with
  | zero =>
    obtain rfl : (⟨81, ⟨#[104, 105]⟩⟩ : S64) = p := by simpa using hp
    refine ⟨_, rfl, k64_mk _ _, fun i u hu => ?_⟩
    have hb := heap_alloc_new w (.cells #[.int .u8 81, .string ⟨#[104, 105]⟩] 64)
    have ha : (⟨w.heap.size, 0, none⟩ : Addr).add (0 * k64.sz + i) = ⟨w.heap.size, i, none⟩ := by simp [Go.Addr.add]; exact fun h => h.symm
    rw [ha, blk_cell hb]
    simpa using hu
  | succ j => simp at hp
set_option maxHeartbeats 8000000 in
set_option maxRecDepth 100000 in
theorem sb_long (A0 : Option Addr) (c0 n : Nat) (w : World) (hs : 2000 < n) :
    Calls Try.prog 7 #[.slice A0 n c0] w fun e w' => e = .returned (.bool true) ∧ Below w.heap.size w w' := by
  go_enter Try.func7, Try.ntmps7
  go_wp2_with fail
  refine (live_calls w).mono ?_
  rintro _ w1 ⟨rfl, hb1⟩
  have HB1 := Aside0.mk hb1
  clear hb1
  go_wp2_with fail
  go_ret
  exact ⟨rfl, HB1.out⟩
set_option maxHeartbeats 8000000 in
set_option maxRecDepth 100000 in
theorem sb_walk (A0 : Option Addr) (c0 : Nat) (l : List S64) (w : World) (hr0 : Kd.C k64 w A0 l.length l) (hc0 : l.length ≤ c0) (hl : l.length ≤ 2000) :
    Calls Try.prog 7 #[.slice A0 l.length c0] w fun e w' => e = .returned (.bool true) ∧ Below w.heap.size w w' := by
  have HR := Aside0.mk hr0
  have HC := Aside0.mk hc0
  have k1 : ¬ ((2000 : Int) < (l.length : Int)) := by omega
  have HL := Aside0.mk hl
  clear hr0 hc0 hl
  go_enter Try.func7, Try.ntmps7
  go_wp2_with fail
  refine (bytes_calls' A0 c0 l w HR.out HC.out (by have := HL.out; omega)).mono ?_
  rintro _ w1 ⟨⟨A1, acc, c1, rfl, ho1, hs1, h9⟩, hb1⟩
  clear h9
  have HO1 := Aside0.mk ho1
  have HB1 := Aside0.mk hb1
  have HS1 := Aside0.mk hs1
  clear ho1 hb1 hs1
  go_wp2_with fail
  refine (refbytes_calls A0 c0 l w1 (Kd.C_below HR.out HB1.out) HC.out (by have := HL.out; omega)).mono ?_
  rintro _ w2 ⟨rfl, hb2⟩
  obtain ⟨⟨s2, e2⟩, ha⟩ : ∃ p, p = ansB (runE [] l) := ⟨_, rfl⟩
  have HS1 : Aside0 (strOfNums acc = s2) := ⟨by rw [HS1.out, ← ha]⟩
  rw [← ha]
  have HO2 := Aside0.mk (Kd.R_below HO1.out (hb2.mono (Nat.le_refl _)))
  have HB2 := Aside0.mk (HB1.out.trans (hb2.mono HB1.out.size))
  clear hb2 ha
  go_wp2_with fail
  refine (bytes_calls' (some ⟨w2.heap.size, 0, none⟩) 1 [⟨81, ⟨#[104, 105]⟩⟩] _ (lit_C w2) (Nat.le_refl _) (by decide)).mono ?_
  rintro _ w3 ⟨⟨A3, acc3, c3, rfl, ho3, hs3, h9⟩, hb3⟩
  have hr : runE [] [(⟨81, ⟨#[104, 105]⟩⟩ : S64)] = some [81, 2, 104, 105] := rfl
  rw [hr] at h9 hs3 ⊢
  obtain rfl : acc3 = [81, 2, 104, 105] := h9
  clear hs3 hr
  have hal := below_alloc (Below.refl w2.heap.size w2) (.cells #[.int .u8 81, .string ⟨#[104, 105]⟩] 64)
  have hb3' : Below w2.heap.size w2 w3 := hal.trans (hb3.mono hal.size)
  have HO4 := Aside0.mk (Kd.R_below HO2.out (hb3'.mono (Nat.le_refl _)))
  have HB3 := Aside0.mk (HB2.out.trans (hb3'.mono HB2.out.size))
  have hcv0 := Kd.C_string (P := Try.prog) (c := c1) Try.underlying54 Try.underlying5 Try.underlying9 (Kd.R_reads' HO4.out).2.2
  have hcv1 : (convert 54 9 (.slice A3 4 c3)).run Try.prog w3 = .ok (.string (strOfNums [81, 2, 104, 105])) w3 := Kd.C_string (P := Try.prog) (c := c3) Try.underlying54 Try.underlying5 Try.underlying9 (Kd.R_reads' ho3).2.2
  rw [show (ansB (some [81, 2, 104, 105])).2 = 0 from rfl]
  rw [HS1.out] at hcv0
  rw [show strOfNums [81, 2, 104, 105] = ⟨#[81, 2, 104, 105]⟩ from by decide +kernel] at hcv1
  clear ho3 hb3 hb3' hal
  go_wp2_with fail
  go_ret
  exact ⟨by simp, HB3.out⟩
theorem sb_calls (A0 : Option Addr) (c0 : Nat) (l : List S64) (w : World) (hr0 : Kd.C k64 w A0 l.length l) (hc0 : l.length ≤ c0) :
    Calls Try.prog 7 #[.slice A0 l.length c0] w fun e w' => e = .returned (.bool true) ∧ Below w.heap.size w w' := by
  by_cases hl : l.length ≤ 2000
  · exact sb_walk A0 c0 l w hr0 hc0 hl
  · exact sb_long A0 c0 l.length w (by omega)
end Go.Proofs.Ytpnbeifbapcmdaa.St
