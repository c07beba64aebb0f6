/- What the reference's Open answers, walked: the same as openI. -/
import Derived.Test.YtmoblggflijkdaaDoorFrC
import Derived.Lib.Bytes
namespace Go.Proofs.YtmoblggflijkdaaDoor.Fr
open Go.RowKit Go.Proofs.YtmoblggflijkdaaDoor.PFrameOpens Go.Proofs.YtmoblggflijkdaaDoorW.PrintWords Go.Proofs.YtmoblggflijkdaaDoorW.PrintLast Go.Proofs.YtmoblggflijkdaaDoorW.PrintMore
set_option linter.unusedVariables false
set_option linter.unusedSimpArgs false
theorem reads4 {A0 : Option Addr} {l : List Int} {w : World} (h : Kd.C (Kd.int .u8) w A0 l.length l) (h4 : 4 ≤ l.length) :
    ∃ ad, A0 = some ad ∧ w.cell? ad = some (.int .u8 (rdI l 0)) ∧ w.cell? (ad.add 1) = some (.int .u8 (rdI l 1)) ∧ w.cell? (ad.add 2) = some (.int .u8 (rdI l 2)) ∧ w.cell? (ad.add 3) = some (.int .u8 (rdI l 3)) := by
  obtain ⟨ad, e, _⟩ := Kd.at_int h 0 (by omega) (by omega)
  have at_ : ∀ i : Nat, i < 4 → w.cell? (ad.add i) = some (.int .u8 (rdI l i)) := fun i hi => by
    obtain ⟨ad', e', h'⟩ := Kd.at_int h (i : Int) (by omega) (by omega)
    rw [e] at e'
    obtain rfl := Option.some.inj e'
    exact h'
  have a0 := at_ 0 (by omega)
  rw [Addr.add_zero'] at a0
  exact ⟨ad, e, a0, at_ 1 (by omega), at_ 2 (by omega), at_ 3 (by omega)⟩
set_option maxRecDepth 100000 in
theorem ro_form (A0 : Option Addr) (c0 : Nat) (l : List Int) (w : World) (hr0 : Kd.C (Kd.int .u8) w A0 l.length l) (h4 : 4 ≤ l.length) (hb : Bytes l) (hf : ¬ (rdI l 0 + rdI l 2 = 255 ∧ rdI l 1 + rdI l 3 = 255)) :
    Calls Tryd.prog 13 #[.slice A0 l.length c0] w fun e w' => e = .returned (.tuple #[.slice none 0 0, .int .i64 0, .int .i64 11]) ∧ ∃ n, w' = w.drewN n := by
  obtain ⟨ad, rfl, r0, r1, r2, r3⟩ := reads4 hr0 h4
  have q0 : (0 < l.length) = True := eq_true (by omega)
  have q1 : (1 < l.length) = True := eq_true (by omega)
  have q2 : (2 < l.length) = True := eq_true (by omega)
  have q3 : (3 < l.length) = True := eq_true (by omega)
  have p0 : (0 < (l.length : Int)) = True := eq_true (by omega)
  have p1 : (1 < (l.length : Int)) = True := eq_true (by omega)
  have p2 : (2 < (l.length : Int)) = True := eq_true (by omega)
  have p3 : (3 < (l.length : Int)) = True := eq_true (by omega)
  simp only [Nat.reduceMul, Nat.reduceEqDiff, Go.Addr.add, ↓reduceIte] at r1 r2 r3
  have b0 := rdI_in l hb 0
  have b1 := rdI_in l hb 1
  have b2 := rdI_in l hb 2
  have b3 := rdI_in l hb 3
  obtain ⟨y0, e0⟩ : ∃ y, rdI l 0 = y := ⟨_, rfl⟩
  obtain ⟨y1, e1⟩ : ∃ y, rdI l 1 = y := ⟨_, rfl⟩
  obtain ⟨y2, e2⟩ : ∃ y, rdI l 2 = y := ⟨_, rfl⟩
  obtain ⟨y3, e3⟩ : ∃ y, rdI l 3 = y := ⟨_, rfl⟩
  rw [e0] at r0 b0 hf
  rw [e1] at r1 b1 hf
  rw [e2] at r2 b2 hf
  rw [e3] at r3 b3 hf
  have k0 : ¬ (l.length < 4) := by omega
  have v0 : IntKind.i64.wrap y0 = y0 := by rw [IntKind.wrap_i64]; omega
  have v1 : IntKind.i64.wrap y1 = y1 := by rw [IntKind.wrap_i64]; omega
  have v2 : IntKind.i64.wrap y2 = y2 := by rw [IntKind.wrap_i64]; omega
  have v3 : IntKind.i64.wrap y3 = y3 := by rw [IntKind.wrap_i64]; omega
  have s1 : IntKind.i64.wrap (y0 + y2) = y0 + y2 := by rw [IntKind.wrap_i64]; omega
  have s2 : IntKind.i64.wrap (y1 + y3) = y1 + y3 := by rw [IntKind.wrap_i64]; omega
  have s3 : IntKind.i64.wrap (256 * y2) = 256 * y2 := by rw [IntKind.wrap_i64]; omega
  have s4 : IntKind.i64.wrap (256 * y2 + y3) = 256 * y2 + y3 := by rw [IntKind.wrap_i64]; omega
  go_enter Tryd.func13, Tryd.ntmps13
  by_cases f1 : y0 + y2 = 255
  · have f2 : ¬ (y1 + y3 = 255) := fun h => hf ⟨f1, h⟩
    have g1 : (y0 + y2 == 255) = true := beq_iff_eq.2 f1
    have g2 : (y1 + y3 == 255) = false := beq_eq_false_iff_ne.2 f2
    clear hf
    go_wp2_with fail
    go_quiet (fail)
    go_wp2_with fail
    go_quiet (fail)
    go_wp2_with fail
    go_ret3
    exact ⟨rfl, _, by rw [World.drewN_drewN]⟩
  · have g1 : (y0 + y2 == 255) = false := beq_eq_false_iff_ne.2 f1
    clear hf
    go_wp2_with fail
    go_quiet (fail)
    go_wp2_with fail
    go_quiet (fail)
    go_wp2_with fail
    go_ret3
    exact ⟨rfl, _, by rw [World.drewN_drewN]⟩
theorem str_inj {a b : List Int} (ha : Bytes a) (hb : Bytes b) (h : (strOfNums a).toList = (strOfNums b).toList) : a = b := by
  rw [Lib.strOfNums_toList, Lib.strOfNums_toList] at h
  have h := congrArg (fun s : List UInt8 => s.map fun c => (c.toNat : Int)) h
  have e : ∀ l : List Int, Bytes l → (Lib.bytesOf l).map (fun c => (c.toNat : Int)) = l := fun l hl => by
    rw [show Lib.bytesOf l = l.map fun n => UInt8.ofNat n.toNat from rfl, List.map_map]
    conv => rhs; rw [← List.map_id l]
    refine List.map_congr_left fun x hx => ?_
    have := hl x hx
    simp
    omega
  simp only [e a ha, e b hb] at h
  exact h
set_option maxRecDepth 100000 in
theorem ro_four (A0 : Option Addr) (c0 : Nat) (l : List Int) (w : World) (h4 : l.length < 4) :
    Calls Tryd.prog 13 #[.slice A0 l.length c0] w fun e w' => e = .returned (.tuple #[.slice none 0 0, .int .i64 0, .int .i64 10]) ∧ ∃ n, w' = w.drewN n := by
  go_enter Tryd.func13, Tryd.ntmps13
  go_wp2_with fail
  go_ret3
  exact ⟨rfl, 0, rfl⟩
set_option maxRecDepth 100000 in
theorem ro_many (A0 : Option Addr) (c0 : Nat) (l : List Int) (n : Int) (w : World) (hr0 : Kd.C (Kd.int .u8) w A0 l.length l) (h4 : 4 ≤ l.length) (hb : Bytes l) (hf1 : rdI l 0 + rdI l 2 = 255) (hf2 : rdI l 1 + rdI l 3 = 255) (hn : n = 256 * rdI l 2 + rdI l 3) (hn8 : 8192 < n) :
    Calls Tryd.prog 13 #[.slice A0 l.length c0] w fun e w' => e = .returned (.tuple #[.slice none 0 0, .int .i64 0, .int .i64 11]) ∧ ∃ n, w' = w.drewN n := by
  obtain ⟨ad, rfl, r0, r1, r2, r3⟩ := reads4 hr0 h4
  have q0 : (0 < l.length) = True := eq_true (by omega)
  have q1 : (1 < l.length) = True := eq_true (by omega)
  have q2 : (2 < l.length) = True := eq_true (by omega)
  have q3 : (3 < l.length) = True := eq_true (by omega)
  have p0 : (0 < (l.length : Int)) = True := eq_true (by omega)
  have p1 : (1 < (l.length : Int)) = True := eq_true (by omega)
  have p2 : (2 < (l.length : Int)) = True := eq_true (by omega)
  have p3 : (3 < (l.length : Int)) = True := eq_true (by omega)
  simp only [Nat.reduceMul, Nat.reduceEqDiff, Go.Addr.add, ↓reduceIte] at r1 r2 r3
  have b0 := rdI_in l hb 0
  have b1 := rdI_in l hb 1
  have b2 := rdI_in l hb 2
  have b3 := rdI_in l hb 3
  obtain ⟨y0, e0⟩ : ∃ y, rdI l 0 = y := ⟨_, rfl⟩
  obtain ⟨y1, e1⟩ : ∃ y, rdI l 1 = y := ⟨_, rfl⟩
  obtain ⟨y2, e2⟩ : ∃ y, rdI l 2 = y := ⟨_, rfl⟩
  obtain ⟨y3, e3⟩ : ∃ y, rdI l 3 = y := ⟨_, rfl⟩
  rw [e0] at r0 b0 hf1
  rw [e1] at r1 b1 hf2
  rw [e2] at r2 b2 hf1 hn
  rw [e3] at r3 b3 hf2 hn
  have k0 : ¬ (l.length < 4) := by omega
  have v0 : IntKind.i64.wrap y0 = y0 := by rw [IntKind.wrap_i64]; omega
  have v1 : IntKind.i64.wrap y1 = y1 := by rw [IntKind.wrap_i64]; omega
  have v2 : IntKind.i64.wrap y2 = y2 := by rw [IntKind.wrap_i64]; omega
  have v3 : IntKind.i64.wrap y3 = y3 := by rw [IntKind.wrap_i64]; omega
  have s1 : IntKind.i64.wrap (y0 + y2) = y0 + y2 := by rw [IntKind.wrap_i64]; omega
  have s2 : IntKind.i64.wrap (y1 + y3) = y1 + y3 := by rw [IntKind.wrap_i64]; omega
  have s3 : IntKind.i64.wrap (256 * y2) = 256 * y2 := by rw [IntKind.wrap_i64]; omega
  have n0 : 0 ≤ n ∧ n < 65536 := by omega
  have s4 : IntKind.i64.wrap (256 * y2 + y3) = n := by rw [IntKind.wrap_i64]; omega
  have g1 : (y0 + y2 == 255) = true := beq_iff_eq.2 hf1
  have g2 : (y1 + y3 == 255) = true := beq_iff_eq.2 hf2
  clear hn
  go_enter Tryd.func13, Tryd.ntmps13
  go_wp2_with fail
  go_quiet (fail)
  go_wp2_with fail
  go_quiet (fail)
  go_wp2_with fail
  go_ret3
  first | exact ⟨rfl, _, rfl⟩ | exact ⟨rfl, _, by rw [World.drewN_drewN]⟩
set_option maxRecDepth 100000 in
theorem ro_cut (A0 : Option Addr) (c0 : Nat) (l : List Int) (n : Int) (w : World) (hr0 : Kd.C (Kd.int .u8) w A0 l.length l) (h4 : 4 ≤ l.length) (hb : Bytes l) (hf1 : rdI l 0 + rdI l 2 = 255) (hf2 : rdI l 1 + rdI l 3 = 255) (hn : n = 256 * rdI l 2 + rdI l 3) (hn8 : n ≤ 8192) (hl : (l.length : Int) < 8 + n) :
    Calls Tryd.prog 13 #[.slice A0 l.length c0] w fun e w' => e = .returned (.tuple #[.slice none 0 0, .int .i64 0, .int .i64 10]) ∧ ∃ n, w' = w.drewN n := by
  obtain ⟨ad, rfl, r0, r1, r2, r3⟩ := reads4 hr0 h4
  have q0 : (0 < l.length) = True := eq_true (by omega)
  have q1 : (1 < l.length) = True := eq_true (by omega)
  have q2 : (2 < l.length) = True := eq_true (by omega)
  have q3 : (3 < l.length) = True := eq_true (by omega)
  have p0 : (0 < (l.length : Int)) = True := eq_true (by omega)
  have p1 : (1 < (l.length : Int)) = True := eq_true (by omega)
  have p2 : (2 < (l.length : Int)) = True := eq_true (by omega)
  have p3 : (3 < (l.length : Int)) = True := eq_true (by omega)
  simp only [Nat.reduceMul, Nat.reduceEqDiff, Go.Addr.add, ↓reduceIte] at r1 r2 r3
  have b0 := rdI_in l hb 0
  have b1 := rdI_in l hb 1
  have b2 := rdI_in l hb 2
  have b3 := rdI_in l hb 3
  obtain ⟨y0, e0⟩ : ∃ y, rdI l 0 = y := ⟨_, rfl⟩
  obtain ⟨y1, e1⟩ : ∃ y, rdI l 1 = y := ⟨_, rfl⟩
  obtain ⟨y2, e2⟩ : ∃ y, rdI l 2 = y := ⟨_, rfl⟩
  obtain ⟨y3, e3⟩ : ∃ y, rdI l 3 = y := ⟨_, rfl⟩
  rw [e0] at r0 b0 hf1
  rw [e1] at r1 b1 hf2
  rw [e2] at r2 b2 hf1 hn
  rw [e3] at r3 b3 hf2 hn
  have k0 : ¬ (l.length < 4) := by omega
  have v0 : IntKind.i64.wrap y0 = y0 := by rw [IntKind.wrap_i64]; omega
  have v1 : IntKind.i64.wrap y1 = y1 := by rw [IntKind.wrap_i64]; omega
  have v2 : IntKind.i64.wrap y2 = y2 := by rw [IntKind.wrap_i64]; omega
  have v3 : IntKind.i64.wrap y3 = y3 := by rw [IntKind.wrap_i64]; omega
  have s1 : IntKind.i64.wrap (y0 + y2) = y0 + y2 := by rw [IntKind.wrap_i64]; omega
  have s2 : IntKind.i64.wrap (y1 + y3) = y1 + y3 := by rw [IntKind.wrap_i64]; omega
  have s3 : IntKind.i64.wrap (256 * y2) = 256 * y2 := by rw [IntKind.wrap_i64]; omega
  have n0 : 0 ≤ n ∧ n < 65536 := by omega
  have s4 : IntKind.i64.wrap (256 * y2 + y3) = n := by rw [IntKind.wrap_i64]; omega
  have g1 : (y0 + y2 == 255) = true := beq_iff_eq.2 hf1
  have g2 : (y1 + y3 == 255) = true := beq_iff_eq.2 hf2
  have g3 : ¬ (8192 < n) := by omega
  have s5 : IntKind.i64.wrap (4 + n) = 4 + n := by rw [IntKind.wrap_i64]; omega
  have s6 : IntKind.i64.wrap (4 + n + 4) = 8 + n := by rw [IntKind.wrap_i64]; omega
  have s7 : (4 + n + 4) = 8 + n := by omega
  clear hn
  go_enter Tryd.func13, Tryd.ntmps13
  go_wp2_with fail
  go_quiet (fail)
  go_wp2_with fail
  go_quiet (fail)
  go_wp2_with fail
  go_ret3
  first | exact ⟨rfl, _, rfl⟩ | exact ⟨rfl, _, by rw [World.drewN_drewN]⟩
set_option maxRecDepth 100000 in
theorem ro_ok (A0 : Option Addr) (c0 : Nat) (l : List Int) (n : Int) (m : List Int) (w : World) (hr0 : Kd.C (Kd.int .u8) w A0 l.length l) (hc0 : l.length ≤ c0) (h4 : 4 ≤ l.length) (hb : Bytes l) (hf1 : rdI l 0 + rdI l 2 = 255) (hf2 : rdI l 1 + rdI l 3 = 255) (hn : n = 256 * rdI l 2 + rdI l 3) (hn8 : n ≤ 8192) (hl : 8 + n ≤ (l.length : Int)) (hm_ : m = (l.take (4 + n).toNat).drop (4 : Int).toNat) (hs : sealI m = l.take (8 + n).toNat) :
    Calls Tryd.prog 13 #[.slice A0 l.length c0] w fun e w' => ∃ v, e = .returned (.tuple #[v, .int .i64 (8 + n), .int .i64 0]) ∧ Kd.R (Kd.int .u8) 5 w' w.heap.size (fun _ => True) v m ∧ Below w.heap.size w w' := by
  have hml : m.length = n.toNat := by
    have bb := rdI_in l hb 2
    have bc := rdI_in l hb 3
    rw [hm_, List.length_drop, List.length_take]; omega
  have hmb : Bytes m := by rw [hm_]; exact (hb.take _).drop _
  have HR := Aside0.mk hr0
  have HC := Aside0.mk hc0
  obtain ⟨z, hz⟩ : ∃ z, z = sealI m := ⟨_, rfl⟩
  rw [← hz] at hs
  have hk := refseal_short m (by have bb := rdI_in l hb 2; have bc := rdI_in l hb 3; omega) hmb
  rw [← hz] at hk
  obtain ⟨i0, hi0, _, hsz, _⟩ := info_parts info5
  have hi0m := hi0
  obtain ⟨ad, rfl, r0, r1, r2, r3⟩ := reads4 hr0 h4
  have q0 : (0 < l.length) = True := eq_true (by omega)
  have q1 : (1 < l.length) = True := eq_true (by omega)
  have q2 : (2 < l.length) = True := eq_true (by omega)
  have q3 : (3 < l.length) = True := eq_true (by omega)
  have p0 : (0 < (l.length : Int)) = True := eq_true (by omega)
  have p1 : (1 < (l.length : Int)) = True := eq_true (by omega)
  have p2 : (2 < (l.length : Int)) = True := eq_true (by omega)
  have p3 : (3 < (l.length : Int)) = True := eq_true (by omega)
  simp only [Nat.reduceMul, Nat.reduceEqDiff, Go.Addr.add, ↓reduceIte] at r1 r2 r3
  have b0 := rdI_in l hb 0
  have b1 := rdI_in l hb 1
  have b2 := rdI_in l hb 2
  have b3 := rdI_in l hb 3
  obtain ⟨y0, e0⟩ : ∃ y, rdI l 0 = y := ⟨_, rfl⟩
  obtain ⟨y1, e1⟩ : ∃ y, rdI l 1 = y := ⟨_, rfl⟩
  obtain ⟨y2, e2⟩ : ∃ y, rdI l 2 = y := ⟨_, rfl⟩
  obtain ⟨y3, e3⟩ : ∃ y, rdI l 3 = y := ⟨_, rfl⟩
  rw [e0] at r0 b0 hf1
  rw [e1] at r1 b1 hf2
  rw [e2] at r2 b2 hf1 hn
  rw [e3] at r3 b3 hf2 hn
  have k0 : ¬ (l.length < 4) := by omega
  have v0 : IntKind.i64.wrap y0 = y0 := by rw [IntKind.wrap_i64]; omega
  have v1 : IntKind.i64.wrap y1 = y1 := by rw [IntKind.wrap_i64]; omega
  have v2 : IntKind.i64.wrap y2 = y2 := by rw [IntKind.wrap_i64]; omega
  have v3 : IntKind.i64.wrap y3 = y3 := by rw [IntKind.wrap_i64]; omega
  have s1 : IntKind.i64.wrap (y0 + y2) = y0 + y2 := by rw [IntKind.wrap_i64]; omega
  have s2 : IntKind.i64.wrap (y1 + y3) = y1 + y3 := by rw [IntKind.wrap_i64]; omega
  have s3 : IntKind.i64.wrap (256 * y2) = 256 * y2 := by rw [IntKind.wrap_i64]; omega
  have n0 : 0 ≤ n ∧ n < 65536 := by omega
  have s4 : IntKind.i64.wrap (256 * y2 + y3) = n := by rw [IntKind.wrap_i64]; omega
  have g1 : (y0 + y2 == 255) = true := beq_iff_eq.2 hf1
  have g2 : (y1 + y3 == 255) = true := beq_iff_eq.2 hf2
  have g3 : ¬ (8192 < n) := by omega
  have s5 : IntKind.i64.wrap (4 + n) = 4 + n := by rw [IntKind.wrap_i64]; omega
  have s6 : IntKind.i64.wrap (4 + n + 4) = 8 + n := by rw [IntKind.wrap_i64]; omega
  have s7 : (4 + n + 4) = 8 + n := by omega
  have s8 : IntKind.i64.wrap (8 + n) = 8 + n := by rw [IntKind.wrap_i64]; omega
  have g4 : ¬ ((l.length : Int) < 8 + n) := by omega
  obtain ⟨Am, hcutm, hrm, hcm⟩ := print_mid_of (P := Tryd.prog) (Value.int .u8) 0 22 5 .i64 .i64 Tryd.underlying22 hi0m hsz (some ad) c0 l 4 (4 + n) (by omega) (by omega) (by omega) HC.out
  have hrm := Kd.C_of_reads (h1 := fun _ => rfl) (hrm _ (Kd.reads_of_C HR.out))
  rw [← hm_] at hcutm hrm hcm
  have HRm := Aside0.mk hrm
  obtain ⟨y, hy⟩ : ∃ y, y = l.take (8 + n).toNat := ⟨_, rfl⟩
  have hyl : y.length = (8 + n).toNat := by rw [hy, List.length_take]; omega
  have hcutf := cut_to (P := Tryd.prog) 22 5 .i64 Tryd.underlying22 hi0 (some ad) l.length c0 (8 + n) (by omega) (by omega) HC.out
  have hC := Kd.C_take (m := (8 + n).toNat) HR.out (by omega)
  rw [← hyl] at hcutf
  rw [← hy] at hC hs
  have HCy := Aside0.mk hC
  have Hyl := Aside0.mk hyl
  have Hk := Aside0.mk hk
  have Hs := Aside0.mk hs
  have Hml := Aside0.mk (show m.length ≤ 8192 by omega)
  have g5 : ((strOfNums z).toList == (strOfNums y).toList) = true := by rw [hs]; exact beq_self_eq_true _
  clear hn hC hyl hk hs hrm hm_ hy hz hr0 hc0 hml
  go_enter Tryd.func13, Tryd.ntmps13
  go_wp2_with fail
  go_quiet (fail)
  revert nq; intro k1
  go_wp2_with fail
  go_quiet (fail)
  rw [World.drewN_drewN]
  generalize k1 + nq = N
  have HRm1 := Aside0.mk (Kd.C_drewN HRm.out N)
  have HCy1 := Aside0.mk (Kd.C_drewN HCy.out N)
  have HB1 : Aside0 (Below w.heap.size w (w.drewN N)) := ⟨pw_below_drewN (Below.refl _ _) N⟩
  have HZ1 : Aside0 ((w.drewN N).heap.size = w.heap.size) := ⟨rfl⟩
  clear r0 r1 r2 r3
  generalize w.drewN N = W1 at *
  go_wp2_with ((with_reducible refine gate_builtin (b := .append) (xs := #[.const (.slice none 0 0), .tmp 57]) rfl ?_); at_builtin; refine Kd.R_append_rows (Kd.int .u8) (w0 := W1) W1.heap.size rfl (.const (.slice none 0 0)) (.tmp 57) 22 5 (.int .u8 0) 1 rfl Tryd.underlying22 info5 rfl (by decide) (by omega) (.slice none 0 0) [] m _ _ _ (fun _ => True) (fun _ => False) rfl rfl (Kd.R_nil (Kd.int .u8) 5 _ _ _) (HRm1.out) (fun _ _ h => h) (fun _ h => h.elim) (fun _ _ => trivial) (Below.refl _ _) (below_size (Below.refl _ _)) ?aL ?_; (case aL => have := Hml.out; simp; omega); intro v1 w1 ho hb hg hat; rw [List.nil_append] at ho; obtain ⟨A1, n1, e1⟩ := Kd.R_slice ho; subst e1; have HO := Aside0.mk ho; have HB := Aside0.mk hb; clear ho hb hg hat)
  obtain ⟨kk, hkk⟩ := Hk.out
  refine (stopcockref07_Seal.calls kk A1 n1 m z 0 _ (Kd.R_reads' HO.out).2.2 (Kd.R_reads' HO.out).2.1 hkk).mono ?_
  rintro e w2 ⟨v2, rfl, ho2, hb2⟩
  obtain ⟨A2, n2, e2⟩ := Kd.R_slice ho2
  subst e2
  have HO1 := Aside0.mk (Kd.R_below HO.out hb2)
  have HB2 := Aside0.mk (below_step HB.out hb2)
  have HB3 := Aside0.mk (below_step HB1.out HB2.out)
  have HO1 : Aside0 (Kd.R (Kd.int .u8) 5 w2 w.heap.size (fun _ => True) (.slice A1 m.length n1) m) := ⟨by have h := HO1.out; rw [HZ1.out] at h; exact h⟩
  have hcv0 := fun n => Kd.C_string (P := Tryd.prog) (c := c0) Tryd.underlying22 Tryd.underlying5 Tryd.underlying9 (Kd.C_drewN (Kd.C_below HCy1.out HB2.out) n)
  have hcv1 := fun n => Kd.C_string (P := Tryd.prog) (c := n2) Tryd.underlying22 Tryd.underlying5 Tryd.underlying9 (Kd.C_drewN (Kd.R_reads' ho2).2.2 n)
  clear ho2 hb2
  go_wp2_with fail
  go_quiet (fail)
  go_wp2_with fail
  go_ret3

  exact ⟨_, rfl, Kd.R_drewN HO1.out _, pw_below_drewN HB3.out _⟩
set_option maxRecDepth 100000 in
theorem ro_bad (A0 : Option Addr) (c0 : Nat) (l : List Int) (n : Int) (m : List Int) (w : World) (hr0 : Kd.C (Kd.int .u8) w A0 l.length l) (hc0 : l.length ≤ c0) (h4 : 4 ≤ l.length) (hb : Bytes l) (hf1 : rdI l 0 + rdI l 2 = 255) (hf2 : rdI l 1 + rdI l 3 = 255) (hn : n = 256 * rdI l 2 + rdI l 3) (hn8 : n ≤ 8192) (hl : 8 + n ≤ (l.length : Int)) (hm_ : m = (l.take (4 + n).toNat).drop (4 : Int).toNat) (hs : sealI m ≠ l.take (8 + n).toNat) :
    Calls Tryd.prog 13 #[.slice A0 l.length c0] w fun e w' => e = .returned (.tuple #[.slice none 0 0, .int .i64 0, .int .i64 70]) ∧ Below w.heap.size w w' := by
  have hml : m.length = n.toNat := by
    have bb := rdI_in l hb 2
    have bc := rdI_in l hb 3
    rw [hm_, List.length_drop, List.length_take]; omega
  have hmb : Bytes m := by rw [hm_]; exact (hb.take _).drop _
  have HR := Aside0.mk hr0
  have HC := Aside0.mk hc0
  obtain ⟨z, hz⟩ : ∃ z, z = sealI m := ⟨_, rfl⟩
  rw [← hz] at hs
  have hk := refseal_short m (by have bb := rdI_in l hb 2; have bc := rdI_in l hb 3; omega) hmb
  rw [← hz] at hk
  obtain ⟨i0, hi0, _, hsz, _⟩ := info_parts info5
  have hi0m := hi0
  obtain ⟨ad, rfl, r0, r1, r2, r3⟩ := reads4 hr0 h4
  have q0 : (0 < l.length) = True := eq_true (by omega)
  have q1 : (1 < l.length) = True := eq_true (by omega)
  have q2 : (2 < l.length) = True := eq_true (by omega)
  have q3 : (3 < l.length) = True := eq_true (by omega)
  have p0 : (0 < (l.length : Int)) = True := eq_true (by omega)
  have p1 : (1 < (l.length : Int)) = True := eq_true (by omega)
  have p2 : (2 < (l.length : Int)) = True := eq_true (by omega)
  have p3 : (3 < (l.length : Int)) = True := eq_true (by omega)
  simp only [Nat.reduceMul, Nat.reduceEqDiff, Go.Addr.add, ↓reduceIte] at r1 r2 r3
  have b0 := rdI_in l hb 0
  have b1 := rdI_in l hb 1
  have b2 := rdI_in l hb 2
  have b3 := rdI_in l hb 3
  obtain ⟨y0, e0⟩ : ∃ y, rdI l 0 = y := ⟨_, rfl⟩
  obtain ⟨y1, e1⟩ : ∃ y, rdI l 1 = y := ⟨_, rfl⟩
  obtain ⟨y2, e2⟩ : ∃ y, rdI l 2 = y := ⟨_, rfl⟩
  obtain ⟨y3, e3⟩ : ∃ y, rdI l 3 = y := ⟨_, rfl⟩
  rw [e0] at r0 b0 hf1
  rw [e1] at r1 b1 hf2
  rw [e2] at r2 b2 hf1 hn
  rw [e3] at r3 b3 hf2 hn
  have k0 : ¬ (l.length < 4) := by omega
  have v0 : IntKind.i64.wrap y0 = y0 := by rw [IntKind.wrap_i64]; omega
  have v1 : IntKind.i64.wrap y1 = y1 := by rw [IntKind.wrap_i64]; omega
  have v2 : IntKind.i64.wrap y2 = y2 := by rw [IntKind.wrap_i64]; omega
  have v3 : IntKind.i64.wrap y3 = y3 := by rw [IntKind.wrap_i64]; omega
  have s1 : IntKind.i64.wrap (y0 + y2) = y0 + y2 := by rw [IntKind.wrap_i64]; omega
  have s2 : IntKind.i64.wrap (y1 + y3) = y1 + y3 := by rw [IntKind.wrap_i64]; omega
  have s3 : IntKind.i64.wrap (256 * y2) = 256 * y2 := by rw [IntKind.wrap_i64]; omega
  have n0 : 0 ≤ n ∧ n < 65536 := by omega
  have s4 : IntKind.i64.wrap (256 * y2 + y3) = n := by rw [IntKind.wrap_i64]; omega
  have g1 : (y0 + y2 == 255) = true := beq_iff_eq.2 hf1
  have g2 : (y1 + y3 == 255) = true := beq_iff_eq.2 hf2
  have g3 : ¬ (8192 < n) := by omega
  have s5 : IntKind.i64.wrap (4 + n) = 4 + n := by rw [IntKind.wrap_i64]; omega
  have s6 : IntKind.i64.wrap (4 + n + 4) = 8 + n := by rw [IntKind.wrap_i64]; omega
  have s7 : (4 + n + 4) = 8 + n := by omega
  have s8 : IntKind.i64.wrap (8 + n) = 8 + n := by rw [IntKind.wrap_i64]; omega
  have g4 : ¬ ((l.length : Int) < 8 + n) := by omega
  obtain ⟨Am, hcutm, hrm, hcm⟩ := print_mid_of (P := Tryd.prog) (Value.int .u8) 0 22 5 .i64 .i64 Tryd.underlying22 hi0m hsz (some ad) c0 l 4 (4 + n) (by omega) (by omega) (by omega) HC.out
  have hrm := Kd.C_of_reads (h1 := fun _ => rfl) (hrm _ (Kd.reads_of_C HR.out))
  rw [← hm_] at hcutm hrm hcm
  have HRm := Aside0.mk hrm
  obtain ⟨y, hy⟩ : ∃ y, y = l.take (8 + n).toNat := ⟨_, rfl⟩
  have hyl : y.length = (8 + n).toNat := by rw [hy, List.length_take]; omega
  have hcutf := cut_to (P := Tryd.prog) 22 5 .i64 Tryd.underlying22 hi0 (some ad) l.length c0 (8 + n) (by omega) (by omega) HC.out
  have hC := Kd.C_take (m := (8 + n).toNat) HR.out (by omega)
  rw [← hyl] at hcutf
  rw [← hy] at hC hs
  have HCy := Aside0.mk hC
  have Hyl := Aside0.mk hyl
  have Hk := Aside0.mk hk
  have Hs := Aside0.mk hs
  have Hml := Aside0.mk (show m.length ≤ 8192 by omega)
  have g5 : ((strOfNums z).toList == (strOfNums y).toList) = false := beq_eq_false_iff_ne.2 fun h => hs (str_inj (by rw [hz]; exact sealI_bytes hmb) (by rw [hy]; exact hb.take _) h)
  clear hn hC hyl hk hs hrm hm_ hy hz hr0 hc0 hml
  go_enter Tryd.func13, Tryd.ntmps13
  go_wp2_with fail
  go_quiet (fail)
  revert nq; intro k1
  go_wp2_with fail
  go_quiet (fail)
  rw [World.drewN_drewN]
  generalize k1 + nq = N
  have HRm1 := Aside0.mk (Kd.C_drewN HRm.out N)
  have HCy1 := Aside0.mk (Kd.C_drewN HCy.out N)
  have HB1 : Aside0 (Below w.heap.size w (w.drewN N)) := ⟨pw_below_drewN (Below.refl _ _) N⟩
  have HZ1 : Aside0 ((w.drewN N).heap.size = w.heap.size) := ⟨rfl⟩
  clear r0 r1 r2 r3
  generalize w.drewN N = W1 at *
  go_wp2_with ((with_reducible refine gate_builtin (b := .append) (xs := #[.const (.slice none 0 0), .tmp 57]) rfl ?_); at_builtin; refine Kd.R_append_rows (Kd.int .u8) (w0 := W1) W1.heap.size rfl (.const (.slice none 0 0)) (.tmp 57) 22 5 (.int .u8 0) 1 rfl Tryd.underlying22 info5 rfl (by decide) (by omega) (.slice none 0 0) [] m _ _ _ (fun _ => True) (fun _ => False) rfl rfl (Kd.R_nil (Kd.int .u8) 5 _ _ _) (HRm1.out) (fun _ _ h => h) (fun _ h => h.elim) (fun _ _ => trivial) (Below.refl _ _) (below_size (Below.refl _ _)) ?aL ?_; (case aL => have := Hml.out; simp; omega); intro v1 w1 ho hb hg hat; rw [List.nil_append] at ho; obtain ⟨A1, n1, e1⟩ := Kd.R_slice ho; subst e1; have HO := Aside0.mk ho; have HB := Aside0.mk hb; clear ho hb hg hat)
  obtain ⟨kk, hkk⟩ := Hk.out
  refine (stopcockref07_Seal.calls kk A1 n1 m z 0 _ (Kd.R_reads' HO.out).2.2 (Kd.R_reads' HO.out).2.1 hkk).mono ?_
  rintro e w2 ⟨v2, rfl, ho2, hb2⟩
  obtain ⟨A2, n2, e2⟩ := Kd.R_slice ho2
  subst e2
  have HO1 := Aside0.mk (Kd.R_below HO.out hb2)
  have HB2 := Aside0.mk (below_step HB.out hb2)
  have HB3 := Aside0.mk (below_step HB1.out HB2.out)
  have HO1 : Aside0 (Kd.R (Kd.int .u8) 5 w2 w.heap.size (fun _ => True) (.slice A1 m.length n1) m) := ⟨by have h := HO1.out; rw [HZ1.out] at h; exact h⟩
  have hcv0 := fun n => Kd.C_string (P := Tryd.prog) (c := c0) Tryd.underlying22 Tryd.underlying5 Tryd.underlying9 (Kd.C_drewN (Kd.C_below HCy1.out HB2.out) n)
  have hcv1 := fun n => Kd.C_string (P := Tryd.prog) (c := n2) Tryd.underlying22 Tryd.underlying5 Tryd.underlying9 (Kd.C_drewN (Kd.R_reads' ho2).2.2 n)
  clear ho2 hb2
  go_wp2_with fail
  go_quiet (fail)
  go_wp2_with fail
  go_ret3
  exact ⟨rfl, pw_below_drewN HB3.out _⟩
theorem refopen_calls (A0 : Option Addr) (c0 : Nat) (l : List Int) (w : World) (hr0 : Kd.C (Kd.int .u8) w A0 l.length l) (hc0 : l.length ≤ c0) (hb : Bytes l) :
    Calls Tryd.prog 13 #[.slice A0 l.length c0] w fun e w' => ∃ v, e = .returned (.tuple #[v, .int .i64 (openI l).2.1, .int .i64 (openI l).2.2]) ∧ Kd.R (Kd.int .u8) 5 w' w.heap.size (fun _ => True) v (openI l).1 ∧ Below w.heap.size w w' := by
  have fin : ∀ (n m : Int) , openI l = ([], n, m) → ∀ (e : Ending) (w' : World), (e = .returned (.tuple #[.slice none 0 0, .int .i64 n, .int .i64 m]) ∧ ∃ n, w' = w.drewN n) →
      ∃ v, e = .returned (.tuple #[v, .int .i64 (openI l).2.1, .int .i64 (openI l).2.2]) ∧ Kd.R (Kd.int .u8) 5 w' w.heap.size (fun _ => True) v (openI l).1 ∧ Below w.heap.size w w' := by
    intro n m h e w' ⟨he, k, hw⟩
    rw [h]
    exact ⟨_, he, Kd.R_nil _ _ _ _ _, by rw [hw]; exact pw_below_drewN (Below.refl _ _) k⟩
  by_cases h4 : l.length < 4
  · exact (ro_four A0 c0 l w h4).mono fun e w' h => fin 0 10 (by unfold openI; rw [if_pos h4]) e w' h
  have b0 := rdI_in l hb 0
  have b1 := rdI_in l hb 1
  have b2 := rdI_in l hb 2
  have b3 := rdI_in l hb 3
  have hw := wordI_is l hb
  have hi := head_iff l hb
  by_cases hf : rdI l 0 + rdI l 2 = 255 ∧ rdI l 1 + rdI l 3 = 255
  · have hf' := hi.2 hf
    have hm : wordI l % 65536 = 256 * rdI l 2 + rdI l 3 := by omega
    by_cases hl2 : 8192 < wordI l % 65536
    · exact (ro_many A0 c0 l _ w hr0 (by omega) hb hf.1 hf.2 hm hl2).mono fun e w' h => fin 0 11 (by unfold openI; rw [if_neg h4, if_pos (.inr hl2)]) e w' h
    · have hn : ¬ (wordI l ≠ headI (wordI l % 65536) ∨ 8192 < wordI l % 65536) := by rintro (c | c); exact c hf'; exact hl2 c
      by_cases hl3 : (l.length : Int) - 8 < wordI l % 65536
      · exact (ro_cut A0 c0 l _ w hr0 (by omega) hb hf.1 hf.2 hm (by omega) (by omega)).mono fun e w' h => fin 0 10 (by unfold openI; rw [if_neg h4, if_neg hn, if_pos hl3]) e w' h
      · have ho : openI l = ((l.take (4 + wordI l % 65536).toNat).drop 4, 8 + wordI l % 65536, 0) ∨ openI l = ([], 0, 70) := by
          by_cases hs : wordI (l.drop (4 + wordI l % 65536).toNat) = sumI (l.take (4 + wordI l % 65536).toNat)
          · left; unfold openI; rw [if_neg h4, if_neg hn, if_neg hl3, if_neg (by simpa using hs)]
          · right; unfold openI; rw [if_neg h4, if_neg hn, if_neg hl3, if_pos (by simpa using hs)]
        by_cases hz : sealI ((l.take (4 + wordI l % 65536).toNat).drop 4) = l.take (8 + wordI l % 65536).toNat
        · have hlen : ((l.take (4 + wordI l % 65536).toNat).drop 4).length ≤ 8192 := by rw [List.length_drop, List.length_take]; omega
          have h := open_seal ((l.take (4 + wordI l % 65536).toNat).drop 4) (l.drop (8 + wordI l % 65536).toNat) ((hb.take _).drop _) (hb.drop _) hlen
          rw [hz, List.take_append_drop] at h
          have h0 : openI l = ((l.take (4 + wordI l % 65536).toNat).drop 4, 8 + wordI l % 65536, 0) := by
            rcases ho with ho | ho
            · exact ho
            · rw [ho] at h; simp at h
          rw [h0]
          exact ro_ok A0 c0 l _ _ w hr0 hc0 (by omega) hb hf.1 hf.2 hm (by omega) (by omega) rfl hz
        · have h0 : openI l = ([], 0, 70) := by
            rcases ho with ho | ho
            · have h := (seal_open l _ _ hb ho).1
              exact absurd h hz
            · exact ho
          rw [h0]
          exact (ro_bad A0 c0 l _ _ w hr0 hc0 (by omega) hb hf.1 hf.2 hm (by omega) (by omega) rfl hz).mono fun e w' h => ⟨_, h.1, Kd.R_nil _ _ _ _ _, h.2⟩
  · have hn : wordI l ≠ headI (wordI l % 65536) := fun h => hf (hi.1 h)
    exact (ro_form A0 c0 l w hr0 (by omega) hb hf).mono fun e w' h => fin 0 11 (by unfold openI; rw [if_neg h4, if_pos (.inl hn)]) e w' h
end Go.Proofs.YtmoblggflijkdaaDoor.Fr
