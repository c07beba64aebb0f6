/- What the functions of package frame, and octet.Sum, and slices.Clone at bytes compute: each in terms of the plain side's words (FrMath); the sum's table stands where the program has it. -/
import Derived.Test.YtmoblggflijkdaaDoorPFrameOpensx1
import Derived.Test.YtmoblggflijkdaaDoorFrMath
import Derived.WalkSpells
import Derived.IntWalk
import Derived.Deep.QuietTactic
import Derived.BigQuiet
import Derived.OpenShut
namespace Go.Proofs.YtmoblggflijkdaaDoor.Fr
open Go.RowKit Go.Proofs.YtmoblggflijkdaaDoor.PFrameOpens Go.Proofs.YtmoblggflijkdaaDoorW.PrintWords Go.Proofs.YtmoblggflijkdaaDoorW.PrintLast Go.Proofs.YtmoblggflijkdaaDoorW.PrintMore
set_option linter.unusedVariables false
set_option linter.unusedSimpArgs false
/-- The sum's table, where the program has it. -/
def Tab (w : World) : Prop := ∀ i : Int, 0 ≤ i → i < 16 → w.cell? ⟨0, i.toNat, none⟩ = some (.int .u32 (tabI i))

theorem bits_range (o : BinOp) (a b : Int) : 0 ≤ bits o .u32 a b ∧ bits o .u32 a b < 4294967296 := by
  have h := wf_bits o .u32 a b
  simp [Lit.wf, IntKind.min, IntKind.max, IntKind.signed, IntKind.bits] at h
  omega
theorem take_snoc (l : List Int) (k : Nat) (h : k < l.length) : l.take (k + 1) = l.take k ++ [rd l (k : Int)] := by
  rw [List.take_succ_eq_append_getElem h]; congr 2; simp [rd, List.getD_eq_getElem?_getD, List.getElem?_eq_getElem h]
set_option maxRecDepth 100000 in
theorem sum_calls (A0 : Option Addr) (c0 : Nat) (l : List Int) (w : World) (hr0 : Kd.C (Kd.int .u8) w A0 l.length l) (hc0 : l.length ≤ c0) (hm : l.length ≤ 140737488355328) (hT : Tab w) :
    Calls Tryd.prog 16 #[.slice A0 l.length c0] w fun e w' => e = .returned (.int .u32 (sumI l)) ∧ w = w' := by
  have HR := Aside0.mk hr0
  have HC := Aside0.mk hc0
  have HT := Aside0.mk hT
  clear hr0 hc0 hT
  go_enter Tryd.func16, Tryd.ntmps16
  go_wp2
  go_loop [3, 8] (fun v i => ∃ k : Nat, k ≤ l.length ∧ i = .int .i64 k ∧ v = .int .u32 ((l.take k).foldl byteI 4294967295)) (fun _ i => l.length - (intOf i).toNat)
  case atStart => exact ⟨0, Nat.zero_le _, rfl, rfl⟩
  case round =>
    obtain ⟨k, hk, rfl, rfl⟩ := hrel
    by_cases hlt : k < l.length
    · have hs := take_snoc l k hlt
      have HF : Aside0 ((l.take (k+1)).foldl byteI 4294967295 = byteI ((l.take k).foldl byteI 4294967295) (rd l (k : Int))) := ⟨by rw [hs, List.foldl_append]; rfl⟩
      clear hs
      obtain ⟨ad, e, hx⟩ := Kd.at_int HR.out k (by omega) (by omega)
      rw [Int.toNat_natCast] at hx
      cases e
      generalize hr : (l.take k).foldl byteI 4294967295 = r at *
      have Hr := Aside0.mk hr
      clear hr
      have p1 := bits_range .xor r (rd l (k : Int) % 4294967296 * 16777216 % 4294967296)
      have i1 : 0 ≤ bits .xor .u32 r (rd l (k : Int) % 4294967296 * 16777216 % 4294967296) / 268435456 := by omega
      have j1 : bits .xor .u32 r (rd l (k : Int) % 4294967296 * 16777216 % 4294967296) / 268435456 < 16 := by omega
      have hx1 := HT.out _ i1 j1
      have p2 := bits_range .xor (bits .xor .u32 r (rd l (k : Int) % 4294967296 * 16777216 % 4294967296) * 16 % 4294967296) (tabI (bits .xor .u32 r (rd l (k : Int) % 4294967296 * 16777216 % 4294967296) / 268435456))
      have i2 : 0 ≤ bits .xor .u32 (bits .xor .u32 r (rd l (k : Int) % 4294967296 * 16777216 % 4294967296) * 16 % 4294967296) (tabI (bits .xor .u32 r (rd l (k : Int) % 4294967296 * 16777216 % 4294967296) / 268435456)) / 268435456 := by omega
      have j2 : bits .xor .u32 (bits .xor .u32 r (rd l (k : Int) % 4294967296 * 16777216 % 4294967296) * 16 % 4294967296) (tabI (bits .xor .u32 r (rd l (k : Int) % 4294967296 * 16777216 % 4294967296) / 268435456)) / 268435456 < 16 := by omega
      have hx2 := HT.out _ i2 j2
      clear p1 p2
      go_wp2
      go_round
      case rel => exact ⟨k + 1, by omega, by go_num, by rw [HF.out]; rfl⟩
      case measure => simp [intOf]; omega
    · have e : l.take k = l := List.take_of_length_le (by omega)
      rw [e]
      go_wp2
      go_ret
      exact ⟨rfl, rfl⟩

theorem Tab.below {w w' : World} {B : Nat} (h : Tab w) (hb : Below B w w') (h0 : 0 < B) : Tab w' := fun i i0 i1 => (hb.cell (p := ⟨0, i.toNat, none⟩) h0).trans (h i i0 i1)
theorem Tab.pos {w : World} (h : Tab w) : 0 < w.heap.size := by have := h 0 (by decide) (by decide); exact World.block_lt_of_cell? _ _ this
set_option maxRecDepth 100000 in
theorem head_calls (n : Int) (w : World) (h0 : 0 ≤ n) (h1 : n ≤ 65535) :
    Calls Tryd.prog 15 #[.int .i64 n] w fun e w' => e = .returned (.int .u32 (headI n)) ∧ w = w' := by
  go_enter Tryd.func15, Tryd.ntmps15
  go_wp2
  go_ret
  exact ⟨rfl, rfl⟩
theorem lay_some (l : List Int) (n : Int) (h : l.length ≤ 100000000) : frame_lay.f l n = some (l ++ word4 n) := by
  unfold frame_lay.f word4
  simp only [Option.bind_some, List.length_cons, List.length_nil]
  rw [if_pos (by omega)]
set_option maxRecDepth 100000 in
theorem seal_long (A0 : Option Addr) (c0 : Nat) (l : List Int) (w : World) (hl : 8192 < l.length) (hm : l.length ≤ 140737488355328) :
    Calls Tryd.prog 9 #[.slice A0 l.length c0] w fun e w' => e = .returned (.tuple #[.slice none 0 0, .int .i64 2]) ∧ w = w' := by
  go_enter Tryd.func9, Tryd.ntmps9
  go_wp2
  go_ret2
  exact ⟨rfl, rfl⟩
set_option maxRecDepth 100000 in
theorem seal_short (A0 : Option Addr) (c0 : Nat) (l : List Int) (w : World) (hr0 : Kd.C (Kd.int .u8) w A0 l.length l) (hc0 : l.length ≤ c0) (hl : l.length ≤ 8192) (hT : Tab w) :
    Calls Tryd.prog 9 #[.slice A0 l.length c0] w fun e w' => ∃ v, e = .returned (.tuple #[v, .int .i64 0]) ∧ Kd.R (Kd.int .u8) 5 w' w.heap.size (fun _ => True) v (sealI l) ∧ Below w.heap.size w w' := by
  have HR := Aside0.mk hr0
  have HC := Aside0.mk hc0
  have HT := Aside0.mk hT
  clear hr0 hc0 hT
  obtain ⟨y, hy⟩ : ∃ y, y = word4 (headI l.length) ++ l := ⟨_, rfl⟩
  have hyl : y.length ≤ 8196 := by rw [hy]; simp [word4]; omega
  have Hyl := Aside0.mk hyl
  have Hs : Aside0 (sealI l = y ++ word4 (sumI y)) := ⟨by rw [hy]; rfl⟩
  have Hy := Aside0.mk hy
  clear hy hyl
  have c0' : decide (8192 < (l.length : Int)) = false := decide_eq_false (by omega)
  have c1' : decide (8192 < l.length) = false := decide_eq_false (by omega)
  go_enter Tryd.func9, Tryd.ntmps9
  go_wp2_with fail
  refine (head_calls _ _ (by omega) (by omega)).mono ?_
  rintro e w' ⟨rfl, rfl⟩
  go_wp2_with fail
  refine (frame_lay.calls (fun _ => False) (.slice none 0 0) [] (headI l.length) _ w w (Below.refl _ _) (Kd.R_nil _ _ _ _ _) (lay_some _ _ (by simp))).mono ?_
  rintro e w1 ⟨v1, rfl, ho1, hb1, hk1⟩
  have HO := Aside0.mk (Kd.R_mono ho1 (ok' := fun _ => True) (fun _ _ => trivial))
  have HB := Aside0.mk hb1
  clear ho1 hb1 hk1
  go_wp2_with (((with_reducible refine gate_builtin (b := .append) (xs := #[.tmp 12, .tmp 13]) rfl ?_); at_builtin; refine Kd.R_append_rows (Kd.int .u8) (w0 := w) w.heap.size rfl (.tmp 12) (.tmp 13) 22 5 (.int .u8 0) 1 rfl Tryd.underlying22 info5 rfl (by decide) (by omega) v1 (word4 (headI l.length)) l _ _ _ (fun _ => True) (fun _ => False) rfl rfl HO.out (Kd.C_below HR.out HB.out) (fun _ _ h => h) (fun _ h => h.elim) (fun _ _ => trivial) HB.out HB.out.size ?aL ?_; (case aL => simp [word4]; omega); intro v2 w2 ho hb hg hat; rw [← Hy.out] at ho; clear HO HB; have HO := Aside0.mk ho; have HB := Aside0.mk hb; clear ho hb hg hat; obtain ⟨A2, n2, e2⟩ := Kd.R_slice HO.out; subst e2))
  refine (sum_calls A2 n2 y _ (Kd.R_reads' HO.out).2.2 (Kd.R_reads' HO.out).2.1 (by have := Hyl.out; omega) (HT.out.below HB.out HT.out.pos)).mono ?_
  rintro e w' ⟨rfl, rfl⟩
  go_wp2_with fail
  refine (frame_lay.calls (fun _ => True) _ y (sumI y) _ w _ HB.out HO.out (lay_some _ _ (by have := Hyl.out; omega))).mono ?_
  rintro e w1 ⟨v1, rfl, ho1, hb1, hk1⟩
  have HO := Aside0.mk (Kd.R_mono ho1 (ok' := fun _ => True) (fun _ _ => trivial))
  have HB := Aside0.mk hb1
  clear ho1 hb1 hk1
  go_wp2_with fail
  go_ret2
  exact ⟨_, rfl, by rw [Hs.out]; exact HO.out, HB.out⟩

set_option maxRecDepth 100000 in
theorem clone_nil (c0 : Nat) (w : World) :
    Calls Tryd.prog 19 #[.slice none 0 c0] w fun e w' => e = .returned (.slice none 0 0) ∧ w = w' := by
  have h1 := fun (w : World) => Lib.run_eql_slice_nil (P := Tryd.prog) w 22 5 none 0 c0 0 0 Tryd.underlying22
  go_enter Tryd.func19, Tryd.ntmps19
  go_wp2
  go_ret
  exact ⟨rfl, rfl⟩
set_option maxRecDepth 100000 in
theorem clone_some (a : Addr) (c0 : Nat) (l : List Int) (w : World) (hr0 : Kd.C (Kd.int .u8) w (some a) l.length l) (hc0 : l.length ≤ c0) (hl : l.length ≤ 140737488355328) :
    Calls Tryd.prog 19 #[.slice (some a) l.length c0] w fun e w' => ∃ v, e = .returned v ∧ Kd.R (Kd.int .u8) 5 w' w.heap.size (fun _ => True) v l ∧ Below w.heap.size w w' := by
  have HR := Aside0.mk hr0
  have HC := Aside0.mk hc0
  have HB := Aside0.mk (Below.refl w.heap.size w)
  clear hr0 hc0
  have h1 := fun (w : World) => Lib.run_eql_slice_nil (P := Tryd.prog) w 22 5 (some a) l.length c0 0 0 Tryd.underlying22
  go_enter Tryd.func19, Tryd.ntmps19
  go_wp2_with (first | ((with_reducible refine gate_dst (N := 5) rfl ?_); refine Kd.R_lit (Kd.int .u8) _ 5 ?hg (N := 5) ?hd (xs := ([] : List Int)) (inner := []) (ok := fun _ => True) (okp := fun _ => True) ?hr (Reps.none _ _) (fun _ hk => hk) trivial (Below.refl _ _) (Nat.le_refl _) (by simp) ?_; (case hd => rfl); (case hg => rfl); (case hr => first | (go_simp; done) | (go_simp; rfl)); intro v1 w1 ho hb hg_ hnew_; clear hg_ hnew_ HB; have HO := Aside0.mk ho; have HB := Aside0.mk hb; clear ho hb) | ((with_reducible refine gate_builtin (b := .append) (xs := #[.tmp 5, .tmp 6]) rfl ?_); at_builtin; refine Kd.R_append_rows (Kd.int .u8) (w0 := w) w.heap.size rfl (.tmp 5) (.tmp 6) 22 5 (.int .u8 0) 1 rfl Tryd.underlying22 info5 rfl (by decide) (by omega) v1 [] l _ _ _ (fun _ => True) (fun _ => False) rfl rfl HO.out (Kd.C_below HR.out HB.out) (fun _ _ h => h) (fun _ h => h.elim) (fun _ _ => trivial) HB.out HB.out.size ?aL ?_; (case aL => simp; omega); intro v2 w2 ho hb hg hat; rw [List.nil_append] at ho; clear HO HB; have HO := Aside0.mk ho; have HB := Aside0.mk hb; clear ho hb hg hat; obtain ⟨A2, n2, e2⟩ := Kd.R_slice HO.out; subst e2))
  go_ret
  exact ⟨_, rfl, HO.out, HB.out⟩

theorem clone_calls (A : Option Addr) (c0 : Nat) (l : List Int) (w : World) (hr0 : Kd.C (Kd.int .u8) w A l.length l) (hc0 : l.length ≤ c0) (hl : l.length ≤ 140737488355328) :
    Calls Tryd.prog 19 #[.slice A l.length c0] w fun e w' => ∃ v, e = .returned v ∧ Kd.R (Kd.int .u8) 5 w' w.heap.size (fun _ => True) v l ∧ Below w.heap.size w w' := by
  cases A with
  | some a => exact clone_some a c0 l w hr0 hc0 hl
  | none =>
    have h : l = [] := by
      rcases Nat.eq_zero_or_pos l.length with h | h
      · exact List.eq_nil_of_length_eq_zero h
      · obtain ⟨ad, e, _⟩ := hr0.2.2 h
        cases e
    subst h
    exact (clone_nil c0 w).mono fun e w' ⟨he, hw⟩ => ⟨_, he, by subst hw; exact Kd.R_nil _ _ _ _ _, by subst hw; exact Below.refl _ _⟩
theorem word_some (l : List Int) (h : 4 ≤ l.length) : frame_word.f l = some (wordI l) := by
  unfold frame_word.f wordI
  rw [if_pos (by omega), if_pos (by omega), if_pos (by omega), if_pos (by omega)]
  rfl
set_option maxRecDepth 100000 in
theorem open_short (A0 : Option Addr) (c0 : Nat) (l : List Int) (w : World) (hl : l.length < 4) :
    Calls Tryd.prog 12 #[.slice A0 l.length c0] w fun e w' => e = .returned (.tuple #[.slice none 0 0, .int .i64 0, .int .i64 10]) ∧ w = w' := by
  go_enter Tryd.func12, Tryd.ntmps12
  go_wp2
  go_ret3
  exact ⟨rfl, rfl⟩
set_option maxRecDepth 100000 in
theorem open_form (A0 : Option Addr) (c0 : Nat) (l : List Int) (w : World) (hr0 : Kd.C (Kd.int .u8) w A0 l.length l) (hc0 : l.length ≤ c0) (hl : 4 ≤ l.length) (hm : l.length ≤ 140737488370000)
    (hf : wordI l ≠ headI (wordI l % 65536)) :
    Calls Tryd.prog 12 #[.slice A0 l.length c0] w fun e w' => e = .returned (.tuple #[.slice none 0 0, .int .i64 0, .int .i64 11]) ∧ ∃ n, w' = w.drewN n := by
  have HR := Aside0.mk hr0
  have HC := Aside0.mk hc0
  clear hr0 hc0
  have t1 : decide ((l.length : Int) < 4) = false := decide_eq_false (by omega)
  have t2 : decide (l.length < 4) = false := decide_eq_false (by omega)
  have b1 : 0 ≤ wordI l ∧ wordI l < 4294967296 := bits_range .or _ _
  obtain ⟨x, hx⟩ : ∃ x, x = wordI l := ⟨_, rfl⟩
  have HX := Aside0.mk (word_some l hl)
  rw [← hx] at HX hf b1
  have Hx := Aside0.mk hx
  clear hx
  obtain ⟨b1, b2⟩ := b1
  obtain ⟨n, hn⟩ : ∃ n, n = x % 65536 := ⟨_, rfl⟩
  have e1 : IntKind.u16.wrap x = n := by rw [IntKind.wrap_u16, hn]
  rw [← hn] at hf
  have n0 : 0 ≤ n := by omega
  have n1 : n < 65536 := by omega
  have Hn := Aside0.mk hn
  clear hn
  have hf1 : (x != headI n) = true := bne_iff_ne.2 hf
  clear hf
  go_enter Tryd.func12, Tryd.ntmps12
  go_wp2_with fail
  refine (frame_word.calls A0 c0 l x _ HR.out HC.out HX.out).mono ?_
  rintro e w' ⟨rfl, ⟨nd, rfl⟩⟩
  go_wp2_with fail
  refine (head_calls _ _ (by omega) (by omega)).mono ?_
  rintro e w' ⟨rfl, rfl⟩
  go_wp2_with fail
  go_ret3
  exact ⟨rfl, nd, rfl⟩
set_option maxRecDepth 100000 in
theorem open_many (A0 : Option Addr) (c0 : Nat) (l : List Int) (w : World) (hr0 : Kd.C (Kd.int .u8) w A0 l.length l) (hc0 : l.length ≤ c0) (hl : 4 ≤ l.length) (hm : l.length ≤ 140737488370000)
    (hf : wordI l = headI (wordI l % 65536)) (hl2 : 8192 < wordI l % 65536) :
    Calls Tryd.prog 12 #[.slice A0 l.length c0] w fun e w' => e = .returned (.tuple #[.slice none 0 0, .int .i64 0, .int .i64 11]) ∧ ∃ n, w' = w.drewN n := by
  have HR := Aside0.mk hr0
  have HC := Aside0.mk hc0
  clear hr0 hc0
  have t1 : decide ((l.length : Int) < 4) = false := decide_eq_false (by omega)
  have t2 : decide (l.length < 4) = false := decide_eq_false (by omega)
  have b1 : 0 ≤ wordI l ∧ wordI l < 4294967296 := bits_range .or _ _
  obtain ⟨x, hx⟩ : ∃ x, x = wordI l := ⟨_, rfl⟩
  have HX := Aside0.mk (word_some l hl)
  rw [← hx] at HX hf b1
  have Hx := Aside0.mk hx
  clear hx
  obtain ⟨b1, b2⟩ := b1
  obtain ⟨n, hn⟩ : ∃ n, n = x % 65536 := ⟨_, rfl⟩
  have e1 : IntKind.u16.wrap x = n := by rw [IntKind.wrap_u16, hn]
  rw [← hn] at hf
  have n0 : 0 ≤ n := by omega
  have n1 : n < 65536 := by omega
  have Hn := Aside0.mk hn
  clear hn
  have hf1 : (x != headI n) = false := bne_eq_false_iff_eq.2 hf
  clear hf
  rw [← Hx.out, ← Hn.out] at hl2
  go_enter Tryd.func12, Tryd.ntmps12
  go_wp2_with fail
  refine (frame_word.calls A0 c0 l x _ HR.out HC.out HX.out).mono ?_
  rintro e w' ⟨rfl, ⟨nd, rfl⟩⟩
  go_wp2_with fail
  refine (head_calls _ _ (by omega) (by omega)).mono ?_
  rintro e w' ⟨rfl, rfl⟩
  go_wp2_with fail
  go_ret3
  exact ⟨rfl, nd, rfl⟩
set_option maxRecDepth 100000 in
theorem open_cut (A0 : Option Addr) (c0 : Nat) (l : List Int) (w : World) (hr0 : Kd.C (Kd.int .u8) w A0 l.length l) (hc0 : l.length ≤ c0) (hl : 4 ≤ l.length) (hm : l.length ≤ 140737488370000)
    (hf : wordI l = headI (wordI l % 65536)) (hl2 : wordI l % 65536 ≤ 8192) (hl3 : (l.length : Int) - 8 < wordI l % 65536) :
    Calls Tryd.prog 12 #[.slice A0 l.length c0] w fun e w' => e = .returned (.tuple #[.slice none 0 0, .int .i64 0, .int .i64 10]) ∧ ∃ n, w' = w.drewN n := by
  have HR := Aside0.mk hr0
  have HC := Aside0.mk hc0
  clear hr0 hc0
  have t1 : decide ((l.length : Int) < 4) = false := decide_eq_false (by omega)
  have t2 : decide (l.length < 4) = false := decide_eq_false (by omega)
  have b1 : 0 ≤ wordI l ∧ wordI l < 4294967296 := bits_range .or _ _
  obtain ⟨x, hx⟩ : ∃ x, x = wordI l := ⟨_, rfl⟩
  have HX := Aside0.mk (word_some l hl)
  rw [← hx] at HX hf b1
  have Hx := Aside0.mk hx
  clear hx
  obtain ⟨b1, b2⟩ := b1
  obtain ⟨n, hn⟩ : ∃ n, n = x % 65536 := ⟨_, rfl⟩
  have e1 : IntKind.u16.wrap x = n := by rw [IntKind.wrap_u16, hn]
  rw [← hn] at hf
  have n0 : 0 ≤ n := by omega
  have n1 : n < 65536 := by omega
  have Hn := Aside0.mk hn
  clear hn
  have hf1 : (x != headI n) = false := bne_eq_false_iff_eq.2 hf
  clear hf
  rw [← Hx.out, ← Hn.out] at hl2 hl3
  go_enter Tryd.func12, Tryd.ntmps12
  go_wp2_with fail
  refine (frame_word.calls A0 c0 l x _ HR.out HC.out HX.out).mono ?_
  rintro e w' ⟨rfl, ⟨nd, rfl⟩⟩
  go_wp2_with fail
  refine (head_calls _ _ (by omega) (by omega)).mono ?_
  rintro e w' ⟨rfl, rfl⟩
  go_wp2_with fail
  go_ret3
  exact ⟨rfl, nd, rfl⟩
set_option maxRecDepth 100000 in
theorem open_sum (A0 : Option Addr) (c0 : Nat) (l : List Int) (w : World) (hr0 : Kd.C (Kd.int .u8) w A0 l.length l) (hc0 : l.length ≤ c0) (hl : 4 ≤ l.length) (hm : l.length ≤ 140737488370000)
    (hT : Tab w) (hf : wordI l = headI (wordI l % 65536)) (hl2 : wordI l % 65536 ≤ 8192) (hl3 : wordI l % 65536 ≤ (l.length : Int) - 8) (hs : wordI (l.drop (4 + wordI l % 65536).toNat) ≠ sumI (l.take (4 + wordI l % 65536).toNat)) :
    Calls Tryd.prog 12 #[.slice A0 l.length c0] w fun e w' => e = .returned (.tuple #[.slice none 0 0, .int .i64 0, .int .i64 70]) ∧ ∃ n, w' = w.drewN n := by
  have HR := Aside0.mk hr0
  have HC := Aside0.mk hc0
  clear hr0 hc0
  have t1 : decide ((l.length : Int) < 4) = false := decide_eq_false (by omega)
  have t2 : decide (l.length < 4) = false := decide_eq_false (by omega)
  have b1 : 0 ≤ wordI l ∧ wordI l < 4294967296 := bits_range .or _ _
  obtain ⟨x, hx⟩ : ∃ x, x = wordI l := ⟨_, rfl⟩
  have HX := Aside0.mk (word_some l hl)
  rw [← hx] at HX hf b1
  have Hx := Aside0.mk hx
  clear hx
  obtain ⟨b1, b2⟩ := b1
  obtain ⟨n, hn⟩ : ∃ n, n = x % 65536 := ⟨_, rfl⟩
  have e1 : IntKind.u16.wrap x = n := by rw [IntKind.wrap_u16, hn]
  rw [← hn] at hf
  have n0 : 0 ≤ n := by omega
  have n1 : n < 65536 := by omega
  have Hn := Aside0.mk hn
  clear hn
  have hf1 : (x != headI n) = false := bne_eq_false_iff_eq.2 hf
  clear hf
  rw [← Hx.out, ← Hn.out] at hl2 hl3 hs
  have HT := Aside0.mk hT
  clear hT
  obtain ⟨i0, hi0, _, hsz, _⟩ := info_parts info5
  obtain ⟨d, hd⟩ : ∃ d, d = l.drop (4 + n).toNat := ⟨_, rfl⟩
  obtain ⟨p, hp⟩ : ∃ p, p = l.take (4 + n).toNat := ⟨_, rfl⟩
  obtain ⟨Ad, hcutd, hrd, hcd⟩ := print_drop_of (P := Tryd.prog) (Value.int .u8) 0 22 5 .i64 Tryd.underlying22 hi0 hsz A0 c0 l (4 + n) (by omega) (by omega) HC.out
  obtain ⟨hcutp, hrp, hcp⟩ := print_take_of (P := Tryd.prog) (Value.int .u8) 0 22 5 .i64 Tryd.underlying22 hi0 hsz A0 c0 l (4 + n) (by omega) (by omega) HC.out
  have hrd := Kd.C_of_reads (h1 := fun _ => rfl) (hrd _ (Kd.reads_of_C HR.out))
  have hrp := Kd.C_of_reads (h1 := fun _ => rfl) (hrp _ (Kd.reads_of_C HR.out))
  rw [← hd] at hcutd hrd hcd hs
  rw [← hp] at hcutp hrp hcp hs
  have hdl : 4 ≤ d.length := by rw [hd, List.length_drop]; omega
  have hpl : p.length ≤ 8196 := by rw [hp, List.length_take]; omega
  have Hpl := Aside0.mk hpl
  have HX2 := Aside0.mk (word_some d hdl)
  have HRd := Aside0.mk hrd
  have HRp := Aside0.mk hrp
  have HCd := Aside0.mk hcd
  have HCp := Aside0.mk hcp
  have Hd := Aside0.mk hd
  have Hp := Aside0.mk hp
  clear hrd hrp hcd hcp hd hp hdl hpl hi0 hsz
  have ew : IntKind.i64.wrap (4 + n) = 4 + n := by rw [IntKind.wrap_i64]; omega
  have hs1 : (wordI d != sumI p) = true := bne_iff_ne.2 hs
  clear hs
  go_enter Tryd.func12, Tryd.ntmps12
  go_wp2_with fail
  refine (frame_word.calls A0 c0 l x _ HR.out HC.out HX.out).mono ?_
  rintro e w' ⟨rfl, ⟨nd, rfl⟩⟩
  go_wp2_with fail
  refine (head_calls _ _ (by omega) (by omega)).mono ?_
  rintro e w' ⟨rfl, rfl⟩
  go_wp2_with fail
  have HR1 := Aside0.mk (Kd.C_drewN HRd.out nd)
  have HR2 := Aside0.mk (Kd.C_drewN HRp.out nd)
  have HT1 : Aside0 (Tab (w.drewN nd)) := ⟨HT.out⟩
  have HW : Aside0 (∃ n, w.drewN nd = w.drewN n) := ⟨nd, rfl⟩
  generalize w.drewN nd = W1 at *
  go_quiet ((first | (go_at_call 18; (refine Calls.quiet_of ((frame_word.calls Ad _ d _ _ ?_ HCd.out HX2.out).mono fun e w' h => ⟨h.1, h.2.out⟩)); exact Kd.C_drewN HR1.out _) | (go_at_call 16; (refine Calls.quiet_of ((sum_calls A0 c0 p _ ?qr HCp.out ?ql ?qt).mono fun e w' h => ⟨h.1, 0, h.2.symm⟩)); (case qr => exact Kd.C_drewN HR2.out _); (case ql => have := Hpl.out; omega); (case qt => exact HT1.out))))
  go_wp2
  go_ret3
  obtain ⟨m, hm⟩ := HW.out
  exact ⟨rfl, m + nq, by rw [hm, World.drewN_drewN]⟩
set_option maxRecDepth 100000 in
theorem open_ok (A0 : Option Addr) (c0 : Nat) (l : List Int) (w : World) (hr0 : Kd.C (Kd.int .u8) w A0 l.length l) (hc0 : l.length ≤ c0) (hl : 4 ≤ l.length) (hm : l.length ≤ 140737488370000)
    (hT : Tab w) (hf : wordI l = headI (wordI l % 65536)) (hl2 : wordI l % 65536 ≤ 8192) (hl3 : wordI l % 65536 ≤ (l.length : Int) - 8) (hs : wordI (l.drop (4 + wordI l % 65536).toNat) = sumI (l.take (4 + wordI l % 65536).toNat)) :
    Calls Tryd.prog 12 #[.slice A0 l.length c0] w fun e w' => ∃ v, e = .returned (.tuple #[v, .int .i64 (8 + wordI l % 65536), .int .i64 0]) ∧ Kd.R (Kd.int .u8) 5 w' w.heap.size (fun _ => True) v ((l.take (4 + wordI l % 65536).toNat).drop 4) ∧ Below w.heap.size w w' := by
  have HR := Aside0.mk hr0
  have HC := Aside0.mk hc0
  clear hr0 hc0
  have t1 : decide ((l.length : Int) < 4) = false := decide_eq_false (by omega)
  have t2 : decide (l.length < 4) = false := decide_eq_false (by omega)
  have b1 : 0 ≤ wordI l ∧ wordI l < 4294967296 := bits_range .or _ _
  obtain ⟨x, hx⟩ : ∃ x, x = wordI l := ⟨_, rfl⟩
  have HX := Aside0.mk (word_some l hl)
  rw [← hx] at HX hf b1
  have Hx := Aside0.mk hx
  clear hx
  obtain ⟨b1, b2⟩ := b1
  obtain ⟨n, hn⟩ : ∃ n, n = x % 65536 := ⟨_, rfl⟩
  have e1 : IntKind.u16.wrap x = n := by rw [IntKind.wrap_u16, hn]
  rw [← hn] at hf
  have n0 : 0 ≤ n := by omega
  have n1 : n < 65536 := by omega
  have Hn := Aside0.mk hn
  clear hn
  have hf1 : (x != headI n) = false := bne_eq_false_iff_eq.2 hf
  clear hf
  rw [← Hx.out, ← Hn.out] at hl2 hl3 hs ⊢
  have HT := Aside0.mk hT
  clear hT
  obtain ⟨i0, hi0, _, hsz, _⟩ := info_parts info5
  have hi0m := hi0
  have hszm := hsz
  obtain ⟨d, hd⟩ : ∃ d, d = l.drop (4 + n).toNat := ⟨_, rfl⟩
  obtain ⟨p, hp⟩ : ∃ p, p = l.take (4 + n).toNat := ⟨_, rfl⟩
  obtain ⟨Ad, hcutd, hrd, hcd⟩ := print_drop_of (P := Tryd.prog) (Value.int .u8) 0 22 5 .i64 Tryd.underlying22 hi0 hsz A0 c0 l (4 + n) (by omega) (by omega) HC.out
  obtain ⟨hcutp, hrp, hcp⟩ := print_take_of (P := Tryd.prog) (Value.int .u8) 0 22 5 .i64 Tryd.underlying22 hi0 hsz A0 c0 l (4 + n) (by omega) (by omega) HC.out
  have hrd := Kd.C_of_reads (h1 := fun _ => rfl) (hrd _ (Kd.reads_of_C HR.out))
  have hrp := Kd.C_of_reads (h1 := fun _ => rfl) (hrp _ (Kd.reads_of_C HR.out))
  rw [← hd] at hcutd hrd hcd hs
  rw [← hp] at hcutp hrp hcp hs
  have hdl : 4 ≤ d.length := by rw [hd, List.length_drop]; omega
  have hpl : p.length ≤ 8196 := by rw [hp, List.length_take]; omega
  have Hpl := Aside0.mk hpl
  have HX2 := Aside0.mk (word_some d hdl)
  have HRd := Aside0.mk hrd
  have HRp := Aside0.mk hrp
  have HCd := Aside0.mk hcd
  have HCp := Aside0.mk hcp
  have Hd := Aside0.mk hd
  have Hp := Aside0.mk hp
  clear hrd hrp hcd hcp hd hp hdl hpl hi0 hsz
  obtain ⟨m, hm_⟩ : ∃ m, m = (l.take (4 + n).toNat).drop (4 : Int).toNat := ⟨_, rfl⟩
  obtain ⟨Am, hcutm, hrm, hcm⟩ := print_mid_of (P := Tryd.prog) (Value.int .u8) 0 22 5 .i64 .i64 Tryd.underlying22 hi0m hszm A0 c0 l 4 (4 + n) (by omega) (by omega) (by omega) HC.out
  have hrm := Kd.C_of_reads (h1 := fun _ => rfl) (hrm _ (Kd.reads_of_C HR.out))
  rw [← hm_] at hcutm hrm hcm
  have Hml := Aside0.mk (show m.length ≤ 8196 by rw [hm_, List.length_drop, List.length_take]; omega)
  rw [show (l.take (4 + n).toNat).drop 4 = m from hm_.symm]
  have HRm := Aside0.mk hrm
  have HCm := Aside0.mk hcm
  have Hm := Aside0.mk hm_
  clear hrm hcm hm_ hi0m hszm
  have ew : IntKind.i64.wrap (4 + n) = 4 + n := by rw [IntKind.wrap_i64]; omega
  have hs1 : (wordI d != sumI p) = false := bne_eq_false_iff_eq.2 hs
  clear hs
  go_enter Tryd.func12, Tryd.ntmps12
  go_wp2_with fail
  refine (frame_word.calls A0 c0 l x _ HR.out HC.out HX.out).mono ?_
  rintro e w' ⟨rfl, ⟨nd, rfl⟩⟩
  go_wp2_with fail
  refine (head_calls _ _ (by omega) (by omega)).mono ?_
  rintro e w' ⟨rfl, rfl⟩
  go_wp2_with fail
  have HR1 := Aside0.mk (Kd.C_drewN HRd.out nd)
  have HR2 := Aside0.mk (Kd.C_drewN HRp.out nd)
  have HT1 : Aside0 (Tab (w.drewN nd)) := ⟨HT.out⟩
  have HB1 : Aside0 (Below w.heap.size w (w.drewN nd)) := ⟨pw_below_drewN (Below.refl _ _) nd⟩
  have HS : Aside0 ((w.drewN nd).heap.size = w.heap.size) := ⟨rfl⟩
  generalize w.drewN nd = W1 at *
  go_quiet ((first | (go_at_call 18; (refine Calls.quiet_of ((frame_word.calls Ad _ d _ _ ?_ HCd.out HX2.out).mono fun e w' h => ⟨h.1, h.2.out⟩)); exact Kd.C_drewN HR1.out _) | (go_at_call 16; (refine Calls.quiet_of ((sum_calls A0 c0 p _ ?qr HCp.out ?ql ?qt).mono fun e w' h => ⟨h.1, 0, h.2.symm⟩)); (case qr => exact Kd.C_drewN HR2.out _); (case ql => have := Hpl.out; omega); (case qt => exact HT1.out))))
  go_wp2_with fail
  have HRm1 := Aside0.mk (Kd.C_drewN (Kd.C_below HRm.out HB1.out) nq)
  have HB2 : Aside0 (Below w.heap.size w (W1.drewN nq)) := ⟨pw_below_drewN HB1.out nq⟩
  have HS2 : Aside0 ((W1.drewN nq).heap.size = w.heap.size) := ⟨HS.out⟩
  generalize W1.drewN nq = W2 at *
  refine (clone_calls Am _ m _ HRm1.out HCm.out (by have := Hml.out; omega)).mono ?_
  rintro e w1 ⟨v1, rfl, ho1, hb1⟩
  have HO := Aside0.mk ho1
  have HB := Aside0.mk hb1
  clear ho1 hb1
  go_wp2_with fail
  go_ret3
  exact ⟨_, rfl, by have h := HO.out; rw [HS2.out] at h; exact h, by have h := HB.out; rw [HS2.out] at h; exact HB2.out.trans h⟩
end Go.Proofs.YtmoblggflijkdaaDoor.Fr
