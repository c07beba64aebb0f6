/- The law FrameBursts, walked: it returns true, whatever the bytes, the place and the burst. -/
import Derived.Test.YtmoblggflijkdaaDoorFrC
namespace Go.Proofs.YtmoblggflijkdaaDoor.Fr
open Go.RowKit Go.Proofs.YtmoblggflijkdaaDoor.PFrameOpens Go.Proofs.YtmoblggflijkdaaDoorW.PrintWords Go.Proofs.YtmoblggflijkdaaDoorW.PrintLast Go.Proofs.YtmoblggflijkdaaDoorW.PrintMore
set_option linter.unusedVariables false
set_option linter.unusedSimpArgs false
def pI (b : Int) (k : Nat) : Bool := bits .and .u16 (b / 2 ^ (15 - k)) 1 == 1
def turnedB (q n : Nat) (p : Nat → Bool) : Nat → Bool
  | 0 => false
  | k + 1 => if q + k < n ∧ p k = true then true else turnedB q n p k
theorem turned_iff (q n : Nat) (p : Nat → Bool) : ∀ k, turnedB q n p k = true ↔ ∃ j, j < k ∧ q + j < n ∧ p j = true
  | 0 => ⟨fun h => by simp [turnedB] at h, fun ⟨j, h, _⟩ => absurd h (by omega)⟩
  | k + 1 => by
    unfold turnedB
    by_cases c : q + k < n ∧ p k = true
    · rw [if_pos c]
      exact ⟨fun _ => ⟨k, by omega, c⟩, fun _ => rfl⟩
    · rw [if_neg c, turned_iff q n p k]
      refine ⟨fun ⟨j, a, b⟩ => ⟨j, by omega, b⟩, fun ⟨j, a, b⟩ => ⟨j, ?_, b⟩⟩
      by_cases e : j = k
      · subst e; exact absurd b c
      · omega
theorem turn_stay (b : List Int) (q n : Nat) (p : Nat → Bool) (k : Nat) (h : n ≤ q + k) : ∀ d, turn b q n p (k + d) = turn b q n p k ∧ turnedB q n p (k + d) = turnedB q n p k
  | 0 => ⟨rfl, rfl⟩
  | d + 1 => by
    have i := turn_stay b q n p k h d
    have c : ¬ (q + (k + d) < n ∧ p (k + d) = true) := by omega
    rw [← Nat.add_assoc]
    refine ⟨?_, ?_⟩
    · conv => lhs; unfold turn
      rw [if_neg c]
      exact i.1
    · conv => lhs; unfold turnedB
      rw [if_neg c]
      exact i.2
theorem turn_last (b : List Int) (q n : Nat) (p : Nat → Bool) (k : Nat) (hk : k ≤ 16) (h : k = 16 ∨ n ≤ q + k) : turn b q n p k = turn b q n p 16 ∧ turnedB q n p k = turnedB q n p 16 := by
  rcases h with rfl | h
  · exact ⟨rfl, rfl⟩
  · have := turn_stay b q n p k h (16 - k)
    rw [show k + (16 - k) = 16 by omega] at this
    exact ⟨this.1.symm, this.2.symm⟩
set_option maxRecDepth 100000 in
theorem bursts_long (A0 : Option Addr) (c0 : Nat) (l : List Int) (a b : Int) (w : World) (hm : l.length ≤ 140737488351232) (hT : Tab w) (hl : 8192 < l.length) :
    Calls Tryd.prog 7 #[.slice A0 l.length c0, .int .i64 a, .int .u16 b] w fun e w' => e = .returned (.bool true) ∧ Below w.heap.size w w' := by
  have HT := Aside0.mk hT
  clear hT
  go_enter Tryd.func7, Tryd.ntmps7
  go_wp2_with fail
  refine (live_calls _ HT.out).mono ?_
  rintro e w1 ⟨rfl, hb1⟩
  have HB := Aside0.mk hb1
  clear hb1
  go_wp2_with fail
  refine (seal_long A0 c0 l _ (by omega) (by omega)).mono ?_
  rintro e w' ⟨rfl, rfl⟩
  go_wp2_with fail
  go_ret
  exact ⟨rfl, HB.out⟩
set_option maxRecDepth 100000 in
theorem bursts_short (A0 : Option Addr) (c0 : Nat) (l : List Int) (a b : Int) (w : World) (hr0 : Kd.C (Kd.int .u8) w A0 l.length l) (hc0 : l.length ≤ c0) (hb : Bytes l) (ha : -9223372036854775808 ≤ a ∧ a ≤ 9223372036854775807) (hbu : 0 ≤ b ∧ b ≤ 65535) (hT : Tab w) (hl : l.length ≤ 8192) :
    Calls Tryd.prog 7 #[.slice A0 l.length c0, .int .i64 a, .int .u16 b] w fun e w' => e = .returned (.bool true) ∧ Below w.heap.size w w' := by
  obtain ⟨z, hz⟩ : ∃ z, z = sealI l := ⟨_, rfl⟩
  have zl : z.length = l.length + 8 := by rw [hz]; exact sealI_len l
  have z0 : 0 < z.length := by omega
  have z1 : z.length ≤ 8200 := by omega
  have zb0 : ((z.length : Int) == 0) = false := beq_eq_false_iff_ne.2 (by omega)
  have zb1 : (z.length == 0) = false := beq_eq_false_iff_ne.2 (by omega)
  have znil : ¬ (z = []) := by intro h; rw [h] at z0; simp at z0
  obtain ⟨n, hn⟩ : ∃ n : Int, n = 8 * (z.length : Int) := ⟨_, rfl⟩
  have hn' : 8 * (z.length : Int) = n := hn.symm
  have n0 : 0 < n := by omega
  have n1 : n ≤ 65600 := by omega
  have t1 := Int.tmod_lt_of_pos a n0
  have t2 : -n < a.tmod n := by
    have := Int.tmod_lt_of_pos (-a) n0
    rw [Int.neg_tmod] at this
    omega
  obtain ⟨q, hq⟩ : ∃ q : Nat, (q : Int) = (a.tmod n + n).tmod n := ⟨((a.tmod n + n).tmod n).toNat, by have := Int.tmod_nonneg n (show 0 ≤ a.tmod n + n by omega); omega⟩
  have q1 : (q : Int) < n := by rw [hq]; exact Int.tmod_lt_of_pos _ n0
  have hqw : (wrap64 (a.tmod n + n)).tmod n = (q : Int) := by rw [hq]; congr 1; unfold wrap64; omega
  have Hz := Aside0.mk hz
  have Hq := Aside0.mk hq
  have Hn := Aside0.mk hn
  have Zl := Aside0.mk zl
  clear hz hq hn zl t1 t2
  have HR := Aside0.mk hr0
  have HC := Aside0.mk hc0
  have HT := Aside0.mk hT
  clear hr0 hc0 hT
  go_enter Tryd.func7, Tryd.ntmps7
  go_wp2_with fail
  refine (live_calls _ HT.out).mono ?_
  rintro e w1 ⟨rfl, hb1⟩
  have HB := Aside0.mk hb1
  clear hb1
  go_wp2_with fail
  refine (seal_short A0 c0 l _ (Kd.C_below HR.out HB.out) HC.out hl (HT.out.below HB.out HT.out.pos)).mono ?_
  rw [← Hz.out]
  rintro e w2 ⟨v2, rfl, ho2, hb2⟩
  have HB1 := HB
  obtain ⟨g, n2, e2, hg, _, _⟩ := Kd.R_form ho2 (by omega)
  subst e2
  have HO2 := Aside0.mk ho2
  have HB2 := Aside0.mk (below_step HB.out hb2)
  clear ho2 hb2 HB
  go_wp2_with fail
  go_loopg [11, 12] 16 (fun kq v11 v12 w' => ∃ k : Nat, k ≤ 16 ∧ kq = 16 - k ∧ v12 = .int .i64 (k : Int) ∧ v11 = .bool (turnedB q n.toNat (pI b) k) ∧ Aside0 (Kd.R (Kd.int .u8) 5 w' w1.heap.size (fun _ => True) (.slice (some ⟨g, 0, none⟩) z.length n2) (turn z q n.toNat (pI b) k)) ∧ Aside0 (Below w.heap.size w w'))
  case atStart => exact ⟨0, by omega, rfl, rfl, rfl, HO2, HB2⟩
  case round =>
    clear HO2 HB2
    obtain ⟨k, hk, rfl, rfl, rfl, HO, HBr⟩ := hrel
    by_cases c1 : k < 16 ∧ (q : Int) + k < n
    · obtain ⟨c1, c2⟩ := c1
      have yl := turn_len z q n.toNat (pI b) k
      have ew : IntKind.i64.wrap ((q : Int) + (k : Int)) = (q : Int) + (k : Int) := by rw [IntKind.wrap_i64]; omega
      have i0 : 0 ≤ ((q : Int) + (k : Int)) / 8 := by omega
      have i1 : ((q : Int) + (k : Int)) / 8 < (z.length : Int) := by omega
      have HO' : Kd.R (Kd.int .u8) 5 wr w1.heap.size (fun _ => True) (.slice (some ⟨g, 0, none⟩) (turn z q n.toNat (pI b) k).length n2) (turn z q n.toNat (pI b) k) := by rw [yl]; exact HO.out
      obtain ⟨hce, hfr⟩ := Kd.R_cell (0 : Int) HO' (((q + k) / 8 : Nat) : Int) (by omega) (by rw [yl]; omega)
      rw [Int.toNat_natCast] at hce hfr
      have HO2 := Aside0.mk HO'
      clear HO' yl
      by_cases hp : (bits .and .u16 (b / 2 ^ (15 - k)) 1 == 1) = true
      · go_upto_region 12 with (fail)
        go_region
        go_wp2
        go_roundg (16 - (k + 1))
        case measure => omega
        case rel =>
          have hpk : q + k < n.toNat ∧ pI b k = true := ⟨by omega, hp⟩
          have et : turn z q n.toNat (pI b) (k + 1) = flipI (turn z q n.toNat (pI b) k) (q + k) := by conv => lhs; unfold turn; rw [if_pos hpk]
          have eb : turnedB q n.toNat (pI b) (k + 1) = true := by unfold turnedB; rw [if_pos hpk]
          refine ⟨k + 1, by omega, rfl, by go_num, by rw [eb], ?_, ?_⟩
          · rw [et, ← turn_len z q n.toNat (pI b) k]
            have hp := (Kd.R_put HO2.out (((q + k) / 8 : Nat) : Int) (bits .xor .u8 (rdOf 0 (turn z q n.toNat (pI b) k) (((q : Int) + (k : Int)) / 8)) (128 / 2 ^ ((q + k) % 8)))).1
            rw [Int.toNat_natCast] at hp
            have hp := Kd.R_drew hp
            have er : rdOf 0 (turn z q n.toNat (pI b) k) (((q : Int) + (k : Int)) / 8) = rdI (turn z q n.toNat (pI b) k) ((q + k) / 8) := by
              rw [show ((q : Int) + (k : Int)) / 8 = (((q + k) / 8 : Nat) : Int) by omega]; rfl
            unfold flipI
            rw [← er]
            exact .mk hp
          · exact .mk (Below.drew (below_set HBr.out (by have := (below_size (HB1.out)); omega)))
      · have hpf : (bits .and .u16 (b / 2 ^ (15 - k)) 1 == 1) = false := by simpa using hp
        have hpk : ¬ (q + k < n.toNat ∧ pI b k = true) := fun c => hp c.2
        have et : turn z q n.toNat (pI b) (k + 1) = turn z q n.toNat (pI b) k := by conv => lhs; unfold turn; rw [if_neg hpk]
        have eb : turnedB q n.toNat (pI b) (k + 1) = turnedB q n.toNat (pI b) k := by conv => lhs; unfold turnedB; rw [if_neg hpk]
        go_wp2_with fail
        go_roundg (16 - (k + 1))
        case measure => omega
        case rel =>
          refine ⟨k + 1, by omega, rfl, by go_num, by rw [eb], ?_, ?_⟩
          · rw [et]; exact HO
          · exact HBr
    · have hk' : k = 16 ∨ n.toNat ≤ q + k := by omega
      obtain ⟨e1, e2⟩ := turn_last z q n.toNat (pI b) k hk hk'
      have yl := turn_len z q n.toNat (pI b) k
      have yb : Bytes (turn z q n.toNat (pI b) k) := turn_bytes (by rw [Hz.out]; exact sealI_bytes hb) q n.toNat (pI b) k
      have f1 : turnedB q n.toNat (pI b) k = true → (openI (turn z q n.toNat (pI b) k)).2.2 = 11 ∨ (openI (turn z q n.toNat (pI b) k)).2.2 = 70 := by
        intro h
        have hz := Hz.out
        have hnn : n.toNat = 8 * (sealI l).length := by rw [← hz]; omega
        rw [e2, turned_iff] at h
        rw [e1, hz, hnn]
        rw [hnn] at h
        exact burst_refused l hb hl q (pI b) h
      have f0 : turnedB q n.toNat (pI b) k = false → (openI (turn z q n.toNat (pI b) k)).2.2 = 0 := by
        intro h
        have hn : turn z q n.toNat (pI b) k = z := turn_none z q n.toNat (pI b) k (fun j hj hq => by
          cases hp : pI b j
          · rfl
          · have := (turned_iff q n.toNat (pI b) k).2 ⟨j, hj, hq, hp⟩
            rw [this] at h
            cases h)
        rw [hn, Hz.out]
        have := open_seal l [] hb (fun x hx => by cases hx) hl
        rw [List.append_nil] at this
        rw [this]
      have hcase : (turnedB q n.toNat (pI b) k = true ∧ (openI (turn z q n.toNat (pI b) k)).2.2 = 11) ∨ (turnedB q n.toNat (pI b) k = true ∧ (openI (turn z q n.toNat (pI b) k)).2.2 = 70) ∨ (turnedB q n.toNat (pI b) k = false ∧ (openI (turn z q n.toNat (pI b) k)).2.2 = 0) := by
        cases h : turnedB q n.toNat (pI b) k
        · exact .inr (.inr ⟨rfl, f0 h⟩)
        · rcases f1 h with h' | h'
          · exact .inl ⟨rfl, h'⟩
          · exact .inr (.inl ⟨rfl, h'⟩)
      clear f0 f1 e1 e2 hk'
      have ew : IntKind.i64.wrap ((q : Int) + (k : Int)) = (q : Int) + (k : Int) := by rw [IntKind.wrap_i64]; omega
      obtain ⟨y, hy⟩ : ∃ y, y = turn z q n.toNat (pI b) k := ⟨_, rfl⟩
      obtain ⟨tb, htb⟩ : ∃ tb, tb = turnedB q n.toNat (pI b) k := ⟨_, rfl⟩
      rw [← hy] at HO yl yb hcase
      rw [← htb] at hcase ⊢
      clear hy htb
      have HO' : Kd.R (Kd.int .u8) 5 wr w1.heap.size (fun _ => True) (.slice (some ⟨g, 0, none⟩) y.length n2) y := by rw [yl]; exact HO.out
      have Hyn := Aside0.mk (show y.length ≤ n2 by have := (Kd.R_reads' HO').2.1; omega)
      have HC2 := Aside0.mk (Kd.R_reads' HO').2.2
      clear HO'
      by_cases c3 : k < 16
      · have c4 : ¬ ((q : Int) + (k : Int) < n) := fun c => c1 ⟨c3, c⟩
        clear c1
        go_wp2_with fail
        rw [← yl]
        refine (open_calls _ n2 y _ HC2.out Hyn.out (by omega) (HT.out.below HBr.out HT.out.pos)).mono ?_
        rintro e w3 ⟨v3, rfl, ho3, hb3⟩
        have HO3 := Aside0.mk ho3
        have HB3 := Aside0.mk (below_step HBr.out hb3)
        clear ho3 hb3
        rcases hcase with ⟨h1, h2⟩ | ⟨h1, h2⟩ | ⟨h1, h2⟩ <;> (rw [h1, h2]; go_wp2_with fail; go_ret; exact ⟨rfl, HB3.out⟩)
      · obtain rfl : k = 16 := by omega
        clear c1 ew
        go_wp2_with fail
        rw [← yl]
        refine (open_calls _ n2 y _ HC2.out Hyn.out (by omega) (HT.out.below HBr.out HT.out.pos)).mono ?_
        rintro e w3 ⟨v3, rfl, ho3, hb3⟩
        have HO3 := Aside0.mk ho3
        have HB3 := Aside0.mk (below_step HBr.out hb3)
        clear ho3 hb3
        rcases hcase with ⟨h1, h2⟩ | ⟨h1, h2⟩ | ⟨h1, h2⟩ <;> (rw [h1, h2]; go_wp2_with fail; go_ret; exact ⟨rfl, HB3.out⟩)
set_option maxRecDepth 100000 in
theorem bursts_calls (A0 : Option Addr) (c0 : Nat) (l : List Int) (a b : Int) (w : World) (hr0 : Kd.C (Kd.int .u8) w A0 l.length l) (hc0 : l.length ≤ c0) (hm : l.length ≤ 140737488351232) (hb : Bytes l) (ha : (Lit.int .i64 a).wf = true) (hbu : (Lit.int .u16 b).wf = true) (hT : Tab w) :
    Calls Tryd.prog 7 #[.slice A0 l.length c0, .int .i64 a, .int .u16 b] w fun e w' => e = .returned (.bool true) ∧ Below w.heap.size w w' := by
  simp [Lit.wf, IntKind.min, IntKind.max, IntKind.signed, IntKind.bits] at ha hbu
  by_cases hl : l.length ≤ 8192
  · exact bursts_short A0 c0 l a b w hr0 hc0 hb (by omega) (by omega) hT hl
  · exact bursts_long A0 c0 l a b w hm hT (by omega)
end Go.Proofs.YtmoblggflijkdaaDoor.Fr
