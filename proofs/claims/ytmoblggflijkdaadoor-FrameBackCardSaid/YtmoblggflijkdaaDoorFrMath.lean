/- The plain side of the frame laws: the sum as polynomials' register over BitVec 32 (a table of 16 steps, and a bit at a time, are one), what a frame is, that sealed frames open, that cut ones are short, and that a frame turned within 16 bits is refused. No program in sight. -/
import Derived.Laws.BitsAllLaws
import Derived.RowKit
namespace Go.Proofs.YtmoblggflijkdaaDoor.Fr
open Go Go.RowKit
def T1 (x : BitVec 32) : BitVec 32 := (x <<< 1) ^^^ (if x.msb then 0x04c11db7#32 else 0#32)
theorem T1_xor (a b : BitVec 32) : T1 (a ^^^ b) = T1 a ^^^ T1 b := by
  unfold T1
  rw [BitVec.shiftLeft_xor_distrib, BitVec.msb_xor]
  cases a.msb <;> cases b.msb <;> simp
  · ac_rfl
  · ac_rfl
  · have : ∀ p q c : BitVec 32, p ^^^ c ^^^ (q ^^^ c) = p ^^^ q := by
      intro p q c
      rw [BitVec.xor_comm q c, ← BitVec.xor_assoc, BitVec.xor_assoc p c c, BitVec.xor_self, BitVec.xor_zero]
    rw [this]
def steps : List Nat := [0, 79764919, 159529838, 222504665, 319059676, 398814059, 445009330, 507990021, 638119352, 583659535, 797628118, 726387553, 890018660, 835552979, 1015980042, 944750013]
def tabB (h : Nat) : BitVec 32 := BitVec.ofNat 32 (steps.getD h 0)
def nibB (x : BitVec 32) : BitVec 32 := (x <<< 4) ^^^ tabB (x >>> 28).toNat
theorem split (x : BitVec 32) : x = ((x >>> 28) <<< 28) ^^^ ((x <<< 4) >>> 4) := by
  ext i hi
  simp only [BitVec.getElem_xor, BitVec.getElem_shiftLeft, BitVec.getElem_ushiftRight]
  by_cases h : i < 28
  · simp [h, show 4 + i < 32 by omega]
  · have e : 28 + (i - 28) = i := by omega
    simp [h, e, hi, show ¬ (4 + i < 32) by omega]
theorem T1_low (x : BitVec 32) (h : x.msb = false) : T1 x = x <<< 1 := by
  unfold T1; rw [h]; simp
theorem T4_low (x : BitVec 32) : T1 (T1 (T1 (T1 ((x <<< 4) >>> 4)))) = x <<< 4 := by
  have m0 : ((x <<< 4) >>> 4).msb = false := by simp [BitVec.msb_eq_getLsbD_last]
  have m1 : ((x <<< 4) >>> 4 <<< 1).msb = false := by simp [BitVec.msb_eq_getLsbD_last]
  have m2 : ((x <<< 4) >>> 4 <<< 1 <<< 1).msb = false := by simp [BitVec.msb_eq_getLsbD_last]
  have m3 : ((x <<< 4) >>> 4 <<< 1 <<< 1 <<< 1).msb = false := by simp [BitVec.msb_eq_getLsbD_last]
  rw [T1_low _ m0, T1_low _ m1, T1_low _ m2, T1_low _ m3]
  ext i hi
  simp only [BitVec.getElem_shiftLeft, BitVec.getLsbD_shiftLeft, BitVec.getElem_ushiftRight]
  by_cases h0 : i < 4
  · have : i = 0 ∨ i = 1 ∨ i = 2 ∨ i = 3 := by omega
    rcases this with rfl | rfl | rfl | rfl <;> simp
  · simp [h0, show ¬ i < 1 by omega, show ¬ i - 1 < 1 by omega, show ¬ i - 1 - 1 < 1 by omega, show ¬ i - 1 - 1 - 1 < 1 by omega]
    have e : i - 1 - 1 - 1 - 1 = i - 4 := by omega
    rw [e]
    simp [show 4 + (i - 4) < 32 by omega, show ¬ 4 + (i - 4) < 4 by omega]
    rw [BitVec.getLsbD_eq_getElem]
theorem T4_high : ∀ h : Nat, h < 16 → T1 (T1 (T1 (T1 ((BitVec.ofNat 32 h) <<< 28)))) = tabB h := by decide +kernel
theorem nib_T1 (x : BitVec 32) : nibB x = T1 (T1 (T1 (T1 x))) := by
  have hx := split x
  have h16 : (x >>> 28).toNat < 16 := by
    rw [BitVec.toNat_ushiftRight, Nat.shiftRight_eq_div_pow]; have := x.isLt; omega
  have e : T1 (T1 (T1 (T1 x))) = T1 (T1 (T1 (T1 ((x >>> 28) <<< 28)))) ^^^ T1 (T1 (T1 (T1 ((x <<< 4) >>> 4)))) := by
    conv => lhs; rw [hx]
    rw [T1_xor, T1_xor, T1_xor, T1_xor]
  rw [e, T4_low, nibB, BitVec.xor_comm]
  congr 1
  have := T4_high (x >>> 28).toNat h16
  rw [← this]
  congr 5
  rw [BitVec.ofNat_toNat, BitVec.setWidth_eq]

/-- A byte goes in. -/
def byteB (r : BitVec 32) (c : Nat) : BitVec 32 := nibB (nibB (r ^^^ (BitVec.ofNat 32 c <<< 24)))
def T8 (x : BitVec 32) : BitVec 32 := T1 (T1 (T1 (T1 (T1 (T1 (T1 (T1 x)))))))
theorem byteB_T8 (r : BitVec 32) (c : Nat) : byteB r c = T8 (r ^^^ (BitVec.ofNat 32 c <<< 24)) := by
  unfold byteB T8; rw [nib_T1, nib_T1]
theorem T8_xor (a b : BitVec 32) : T8 (a ^^^ b) = T8 a ^^^ T8 b := by
  unfold T8; rw [T1_xor, T1_xor, T1_xor, T1_xor, T1_xor, T1_xor, T1_xor, T1_xor]
theorem T1_zero (x : BitVec 32) (h : T1 x = 0#32) : x = 0#32 := by
  unfold T1 at h
  cases hm : x.msb with
  | false =>
    rw [hm] at h
    simp at h
    ext i hi
    have h1 : ∀ j, j < 32 → (x <<< 1).getLsbD j = false := by intro j hj; rw [h]; simp
    by_cases c : i = 31
    · subst c
      have : x.msb = x.getLsbD 31 := by simp [BitVec.msb_eq_getLsbD_last]
      rw [hm] at this
      simp [← BitVec.getLsbD_eq_getElem, ← this]
    · have := h1 (i + 1) (by omega)
      simp [show i + 1 < 32 by omega] at this
      simp [← BitVec.getLsbD_eq_getElem, this]
  | true =>
    rw [hm] at h
    simp at h
    have h1 : ((x <<< 1) ^^^ 79764919#32).getLsbD 0 = false := by rw [h]; simp
    simp at h1
theorem T8_zero (x : BitVec 32) (h : T8 x = 0#32) : x = 0#32 := by
  unfold T8 at h
  exact T1_zero _ (T1_zero _ (T1_zero _ (T1_zero _ (T1_zero _ (T1_zero _ (T1_zero _ (T1_zero _ h)))))))
theorem xor_eq_zero {a b : BitVec 32} (h : a ^^^ b = 0#32) : a = b := by
  have : a ^^^ b ^^^ b = 0#32 ^^^ b := by rw [h]
  rw [BitVec.xor_assoc, BitVec.xor_self, BitVec.xor_zero, BitVec.zero_xor] at this
  exact this
theorem T8_inj {a b : BitVec 32} (h : T8 a = T8 b) : a = b := by
  apply xor_eq_zero
  apply T8_zero
  rw [T8_xor, h, BitVec.xor_self]

theorem shift_ext (x : BitVec 32) (k : Nat) : ((x <<< 8) >>> 8) <<< k = (((((x <<< 8) >>> 8) <<< k) <<< 4) >>> 4) ∨ 4 < k := by
  by_cases hk : 4 < k
  · exact .inr hk
  · left
    ext i hi
    simp only [BitVec.getElem_shiftLeft, BitVec.getElem_ushiftRight, BitVec.getLsbD_shiftLeft, BitVec.getLsbD_ushiftRight]
    by_cases h0 : i < k
    · simp [h0]
    · by_cases h1 : 4 + i < 32
      · simp [h0, h1, hi, show ¬ (4 + i < 4) by omega]
      · simp [h0, h1, show ¬ (8 + (i - k) < 32) by omega]
/-- What has a free highest byte moves up. -/
theorem T8_low (x : BitVec 32) : T8 ((x <<< 8) >>> 8) = x <<< 8 := by
  have e0 : (x <<< 8) >>> 8 = (((x <<< 8) >>> 8) <<< 4) >>> 4 := by
    rcases shift_ext x 0 with h | h
    · simpa using h
    · omega
  have e1 : ((x <<< 8) >>> 8) <<< 4 = ((((x <<< 8) >>> 8) <<< 4) <<< 4) >>> 4 := by
    rcases shift_ext x 4 with h | h
    · exact h
    · omega
  have t : ∀ y : BitVec 32, T8 y = T1 (T1 (T1 (T1 (T1 (T1 (T1 (T1 y))))))) := fun _ => rfl
  rw [e0, t, T4_low, e1, T4_low]
  ext i hi
  simp only [BitVec.getElem_shiftLeft, BitVec.getLsbD_shiftLeft, BitVec.getElem_ushiftRight]
  by_cases h0 : i < 4
  · simp [h0, show i < 8 by omega]
  · by_cases h1 : i < 8
    · simp [h0, h1, show i - 4 < 4 by omega]
    · have e : i - 4 - 4 = i - 8 := by omega
      simp [h0, h1, show ¬ i - 4 < 4 by omega, e, show 8 + (i - 8) < 32 by omega, show ¬ (8 + (i - 8) < 8) by omega]
      rw [BitVec.getLsbD_eq_getElem]
def B (c : Nat) : BitVec 32 := BitVec.ofNat 32 c
theorem up16 : ∀ c, c < 256 → T8 (B c <<< 16) = B c <<< 24 := by
  intro c hc
  have h : ∀ c, c < 256 → ((B c <<< 16) <<< 8) >>> 8 = B c <<< 16 ∧ (B c <<< 16) <<< 8 = B c <<< 24 := by decide +kernel
  obtain ⟨h1, h2⟩ := h c hc
  have := T8_low (B c <<< 16)
  rw [h1, h2] at this
  exact this
theorem up8 : ∀ c, c < 256 → T8 (B c <<< 8) = B c <<< 16 := by
  intro c hc
  have h : ∀ c, c < 256 → ((B c <<< 8) <<< 8) >>> 8 = B c <<< 8 ∧ (B c <<< 8) <<< 8 = B c <<< 16 := by decide +kernel
  obtain ⟨h1, h2⟩ := h c hc
  have := T8_low (B c <<< 8)
  rw [h1, h2] at this
  exact this
theorem up0 : ∀ c, c < 256 → T8 (B c) = B c <<< 8 := by
  intro c hc
  have h : ∀ c, c < 256 → ((B c) <<< 8) >>> 8 = B c := by decide +kernel
  have := T8_low (B c)
  rw [h c hc] at this
  exact this
theorem byteB_B (r : BitVec 32) (c : Nat) : byteB r c = T8 (r ^^^ (B c <<< 24)) := byteB_T8 r c
theorem B_xor (a b : Nat) (k : Nat) : (B a <<< k) ^^^ (B b <<< k) = B (a ^^^ b) <<< k := by
  unfold B; rw [← BitVec.shiftLeft_xor_distrib, BitVec.ofNat_xor]
theorem x3 (p q c d : BitVec 32) : (p ^^^ c) ^^^ (q ^^^ d) = (p ^^^ q) ^^^ (c ^^^ d) := by ac_rfl
theorem B_toNat (c k : Nat) (hc : c < 256) (hk : k ≤ 24) : (B c <<< k).toNat = c * 2 ^ k := by
  unfold B
  rw [BitVec.toNat_shiftLeft, BitVec.toNat_ofNat, Nat.shiftLeft_eq, Nat.mod_eq_of_lt (show c < 2 ^ 32 by omega), Nat.mod_eq_of_lt]
  have : 2 ^ k ≤ 2 ^ 24 := Nat.pow_le_pow_right (by decide) hk
  calc c * 2 ^ k ≤ 255 * 2 ^ 24 := Nat.mul_le_mul (by omega) this
    _ < 2 ^ 32 := by decide
theorem nxor0 {a b : Nat} (h : a ^^^ b = 0) : a = b := by
  have h1 : a ^^^ b ^^^ b = 0 ^^^ b := by rw [h]
  rw [Nat.xor_assoc, Nat.xor_self, Nat.xor_zero, Nat.zero_xor] at h1
  exact h1
/-- Three bytes that are not the same three leave another register. -/
theorem three (r : BitVec 32) (a1 a2 a3 b1 b2 b3 : Nat) (ha1 : a1 < 256) (ha2 : a2 < 256) (ha3 : a3 < 256) (hb1 : b1 < 256) (hb2 : b2 < 256) (hb3 : b3 < 256)
    (h : byteB (byteB (byteB r a1) a2) a3 = byteB (byteB (byteB r b1) b2) b3) : a1 = b1 ∧ a2 = b2 ∧ a3 = b3 := by
  simp only [byteB_B] at h
  have h := T8_inj h
  have x1 : a1 ^^^ b1 < 256 := Nat.xor_lt_two_pow (n := 8) ha1 hb1
  have x2 : a2 ^^^ b2 < 256 := Nat.xor_lt_two_pow (n := 8) ha2 hb2
  have y3 : a3 ^^^ b3 < 256 := Nat.xor_lt_two_pow (n := 8) ha3 hb3
  have e : T8 (T8 (B (a1 ^^^ b1) <<< 24) ^^^ (B (a2 ^^^ b2) <<< 24)) = B (a3 ^^^ b3) <<< 24 := by
    have h0 := congrArg (· ^^^ (T8 (T8 (r ^^^ B b1 <<< 24) ^^^ B b2 <<< 24) ^^^ B b3 <<< 24)) h
    simp only [BitVec.xor_self] at h0
    rw [x3, ← T8_xor, x3, ← T8_xor, x3, BitVec.xor_self, BitVec.zero_xor, B_xor, B_xor, B_xor] at h0
    exact xor_eq_zero h0
  rw [← up16 _ y3] at e
  have e := T8_inj e
  have e : T8 (B (a1 ^^^ b1) <<< 24) = T8 (B (a2 ^^^ b2) <<< 16) ^^^ T8 (B (a3 ^^^ b3) <<< 8) := by
    rw [up16 _ x2, up8 _ y3]
    have h0 := congrArg (· ^^^ (B (a2 ^^^ b2) <<< 24)) e
    simp only [BitVec.xor_assoc, BitVec.xor_self, BitVec.xor_zero] at h0
    rw [h0, BitVec.xor_comm]
  rw [← T8_xor] at e
  have e := congrArg BitVec.toNat (T8_inj e)
  rw [BitVec.toNat_xor, B_toNat _ _ x1 (by decide), B_toNat _ _ x2 (by decide), B_toNat _ _ y3 (by decide)] at e
  have lt : (a2 ^^^ b2) * 2 ^ 16 ^^^ (a3 ^^^ b3) * 2 ^ 8 < 2 ^ 24 := Nat.xor_lt_two_pow (by omega) (by omega)
  have z1 : a1 ^^^ b1 = 0 := by omega
  rw [z1, Nat.zero_mul] at e
  have e2 : (a2 ^^^ b2) * 2 ^ 16 = (a3 ^^^ b3) * 2 ^ 8 := nxor0 e.symm
  have z2 : a2 ^^^ b2 = 0 := by omega
  have z3 : a3 ^^^ b3 = 0 := by omega
  exact ⟨nxor0 z1, nxor0 z2, nxor0 z3⟩

/-! ### from Go's numbers -/
theorem u32_xor_B (a b : BitVec 32) : bits .xor .u32 (a.toNat : Int) (b.toNat : Int) = ((a ^^^ b).toNat : Int) := by
  rw [u32_xor_nat _ _ a.isLt b.isLt, BitVec.toNat_xor]
theorem shl4 (a : BitVec 32) (n : Int) (hn : n = Int.ofNat a.toNat) : (n * (16 : Int)) % (4294967296 : Int) = Int.ofNat (a <<< 4).toNat := by
  subst hn
  rw [BitVec.toNat_shiftLeft, Nat.shiftLeft_eq]; simp only [Int.ofNat_eq_natCast]; omega
theorem shl1 (a : BitVec 32) (n : Int) (hn : n = Int.ofNat a.toNat) : (n * (2 : Int)) % (4294967296 : Int) = Int.ofNat (a <<< 1).toNat := by
  subst hn
  rw [BitVec.toNat_shiftLeft, Nat.shiftLeft_eq]; simp only [Int.ofNat_eq_natCast]; omega
theorem shr28 (a : BitVec 32) (n : Int) (hn : n = Int.ofNat a.toNat) : n / (268435456 : Int) = Nat.cast (a >>> 28).toNat := by
  subst hn
  rw [BitVec.toNat_ushiftRight, Nat.shiftRight_eq_div_pow]; simp only [Int.ofNat_eq_natCast]; omega
theorem msb_is (a : BitVec 32) : a.msb = decide ((a.toNat : Int) / 2147483648 = 1) := by
  rw [BitVec.msb_eq_decide]
  have := a.isLt
  apply decide_eq_decide.2
  omega
def stepsI : List Int := [0, 79764919, 159529838, 222504665, 319059676, 398814059, 445009330, 507990021, 638119352, 583659535, 797628118, 726387553, 890018660, 835552979, 1015980042, 944750013]
def tabI (i : Int) : Int := stepsI.getD i.toNat 0
def nibI (r : Int) : Int := bits .xor .u32 ((r * 16) % 4294967296) (tabI (r / 268435456))
def byteI (r c : Int) : Int := nibI (nibI (bits .xor .u32 r ((c % 4294967296 * 16777216) % 4294967296)))
theorem tabI_B : ∀ h : Nat, h < 16 → tabI (h : Int) = ((tabB h).toNat : Int) := by decide +kernel
theorem nibI_B (r : BitVec 32) : nibI (r.toNat : Int) = ((nibB r).toNat : Int) := by
  unfold nibI nibB
  have h16 : (r >>> 28).toNat < 16 := by
    rw [BitVec.toNat_ushiftRight, Nat.shiftRight_eq_div_pow]; have := r.isLt; omega
  rw [shl4 r (r.toNat : Int) rfl, shr28 r (r.toNat : Int) rfl, tabI_B _ h16]; exact u32_xor_B _ _
theorem byteI_B (r : BitVec 32) (c : Int) (h0 : 0 ≤ c) (h1 : c < 256) : byteI (r.toNat : Int) c = ((byteB r c.toNat).toNat : Int) := by
  unfold byteI byteB
  obtain ⟨m, hm⟩ : ∃ m : Int, m = c % 4294967296 * 16777216 % 4294967296 := ⟨_, rfl⟩
  have e : m = Int.ofNat (BitVec.ofNat 32 c.toNat <<< 24).toNat := by
    rw [hm, BitVec.toNat_shiftLeft, BitVec.toNat_ofNat, Nat.shiftLeft_eq]; simp only [Int.ofNat_eq_natCast]; omega
  rw [← hm, e]
  have := u32_xor_B r (BitVec.ofNat 32 c.toNat <<< 24)
  rw [show bits .xor .u32 (r.toNat : Int) (Int.ofNat (BitVec.ofNat 32 c.toNat <<< 24).toNat) = _ from this, nibI_B, nibI_B]
def Bytes (l : List Int) : Prop := ∀ x ∈ l, 0 ≤ x ∧ x < 256
def regB (r : BitVec 32) (l : List Int) : BitVec 32 := l.foldl (fun r c => byteB r c.toNat) r
theorem fold_B : ∀ (l : List Int) (r : BitVec 32), Bytes l → l.foldl byteI (r.toNat : Int) = ((regB r l).toNat : Int)
  | [], _, _ => rfl
  | c :: l, r, h => by
    have hc := h c (List.mem_cons_self ..)
    show l.foldl byteI (byteI r.toNat c) = _
    rw [byteI_B r c hc.1 hc.2, fold_B l _ (fun x hx => h x (List.mem_cons_of_mem _ hx))]
    rfl
def sumI (l : List Int) : Int := bits .xor .u32 IntKind.u32.max (l.foldl byteI 4294967295)
def ones : BitVec 32 := 4294967295#32
theorem sum_B (l : List Int) (h : Bytes l) : sumI l = ((ones ^^^ regB ones l).toNat : Int) := by
  unfold sumI
  have e1 : (4294967295 : Int) = (ones.toNat : Int) := by decide +kernel
  have e2 : IntKind.u32.max = (ones.toNat : Int) := by decide +kernel
  rw [e2, e1, fold_B l ones h, u32_xor_B]
/-! the reference's: a bit at a time -/
def t1I (r : Int) : Int := if r / 2147483648 = 1 then bits .xor .u32 (r * 2 % 4294967296) 79764919 else r * 2 % 4294967296
theorem t1I_B (r : BitVec 32) : t1I (r.toNat : Int) = ((T1 r).toNat : Int) := by
  unfold t1I T1
  rw [msb_is]
  by_cases h : (r.toNat : Int) / 2147483648 = 1
  · rw [if_pos h, decide_eq_true h, if_pos rfl, shl1 r (r.toNat : Int) rfl]
    have e : (79764919 : Int) = ((79764919#32 : BitVec 32).toNat : Int) := by decide +kernel
    rw [e]; exact u32_xor_B _ _
  · rw [if_neg h, decide_eq_false h, if_neg (by decide), shl1 r (r.toNat : Int) rfl, BitVec.xor_zero]; rfl
/-! ### a frame's words -/
def word4 (n : Int) : List Int := [(n / 16777216) % 256, (n / 65536) % 256, (n / 256) % 256, n % 256]
def headI (n : Int) : Int := bits .or .u32 (bits .xor .u16 IntKind.u16.max n % 4294967296 * 65536 % 4294967296) n
def rdI (l : List Int) (i : Nat) : Int := l.getD i 0
def wordI (l : List Int) : Int := bits .or .u32 (bits .or .u32 (bits .or .u32 (((rdI l 0 % 4294967296) * 16777216) % 4294967296) (((rdI l 1 % 4294967296) * 65536) % 4294967296)) (((rdI l 2 % 4294967296) * 256) % 4294967296)) (rdI l 3 % 4294967296)
theorem not16 (n : Nat) (h : n < 65536) : 65535 ^^^ n = 65535 - n := by
  have h1 := BitVec.toNat_not (x := BitVec.ofNat 16 n)
  have h2 : ~~~(BitVec.ofNat 16 n) = BitVec.allOnes 16 ^^^ BitVec.ofNat 16 n := by rw [BitVec.xor_comm, BitVec.xor_allOnes]
  rw [h2, BitVec.toNat_xor, BitVec.toNat_ofNat, BitVec.toNat_allOnes, Nat.mod_eq_of_lt (show n < 2 ^ 16 from h)] at h1
  exact h1
theorem or_add (a b k : Nat) (h : b < 2 ^ k) : (a * 2 ^ k) ||| b = a * 2 ^ k + b := by
  rw [Nat.mul_comm, ← Nat.two_pow_add_eq_or_of_lt h]
theorem bits_or_add (x y : Int) (k : Nat) (p : Nat) (hp : p = 2 ^ k) (hx0 : 0 ≤ x) (hx : x < 4294967296) (hd : x % (p : Int) = 0) (hy0 : 0 ≤ y) (hy : y < (p : Int)) (hs : (p : Int) ≤ 4294967296) : bits .or .u32 x y = x + y := by
  obtain ⟨a, rfl⟩ := Int.eq_ofNat_of_zero_le hx0
  obtain ⟨b, rfl⟩ := Int.eq_ofNat_of_zero_le hy0
  rw [u32_or_nat a b (by omega) (by omega)]
  have hp0 : 0 < p := by rw [hp]; exact Nat.two_pow_pos k
  have e : a = (a / p) * p := by
    have h1 : a % p = 0 := by
      have := Int.natCast_emod a p
      omega
    have := Nat.div_add_mod a p
    rw [h1, Nat.mul_comm] at this
    omega
  have hb : b < p := by omega
  rw [e, hp, or_add (a / 2 ^ k) b k (by rw [← hp]; exact hb)]
  push_cast
  rfl
theorem headI_is (n : Int) (h0 : 0 ≤ n) (h1 : n ≤ 65535) : headI n = (65535 - n) * 65536 + n := by
  unfold headI
  obtain ⟨m, rfl⟩ := Int.eq_ofNat_of_zero_le h0
  have e : IntKind.u16.max = ((65535 : Nat) : Int) := by decide +kernel
  rw [e, u16_xor_nat 65535 m (by decide) (by omega), not16 m (by omega)]
  have e2 : ((65535 - m : Nat) : Int) = 65535 - (m : Int) := by omega
  rw [e2, show (65535 - (m : Int)) % 4294967296 * 65536 % 4294967296 = (65535 - (m : Int)) * 65536 by omega]
  exact bits_or_add _ _ 16 65536 (by decide) (by omega) (by omega) (by omega) (by omega) (by omega) (by decide)
theorem rdI_in (l : List Int) (h : Bytes l) (i : Nat) : 0 ≤ rdI l i ∧ rdI l i < 256 := by
  unfold rdI
  rw [List.getD_eq_getElem?_getD]
  cases hh : l[i]? with
  | none => simp
  | some x => exact h x (List.mem_of_getElem? hh)
theorem wordI_is (l : List Int) (h : Bytes l) : wordI l = rdI l 0 * 16777216 + rdI l 1 * 65536 + rdI l 2 * 256 + rdI l 3 := by
  unfold wordI
  have b0 := rdI_in l h 0
  have b1 := rdI_in l h 1
  have b2 := rdI_in l h 2
  have b3 := rdI_in l h 3
  generalize rdI l 0 = a at *
  generalize rdI l 1 = b at *
  generalize rdI l 2 = c at *
  generalize rdI l 3 = d at *
  rw [show a % 4294967296 * 16777216 % 4294967296 = a * 16777216 by omega, show b % 4294967296 * 65536 % 4294967296 = b * 65536 by omega, show c % 4294967296 * 256 % 4294967296 = c * 256 by omega, show d % 4294967296 = d by omega]
  rw [bits_or_add (a * 16777216) (b * 65536) 24 16777216 (by decide) (by omega) (by omega) (by omega) (by omega) (by omega) (by decide)]
  rw [bits_or_add (a * 16777216 + b * 65536) (c * 256) 16 65536 (by decide) (by omega) (by omega) (by omega) (by omega) (by omega) (by decide)]
  rw [bits_or_add (a * 16777216 + b * 65536 + c * 256) d 8 256 (by decide) (by omega) (by omega) (by omega) (by omega) (by omega) (by decide)]
theorem word4_bytes (n : Int) : Bytes (word4 n) := by
  intro x hx
  simp only [word4, List.mem_cons, List.not_mem_nil, or_false] at hx
  omega
theorem Bytes.append {a b : List Int} (ha : Bytes a) (hb : Bytes b) : Bytes (a ++ b) := fun x hx => (List.mem_append.1 hx).elim (ha x) (hb x)
theorem Bytes.take {a : List Int} (ha : Bytes a) (n : Nat) : Bytes (a.take n) := fun x hx => ha x (List.mem_of_mem_take hx)
theorem Bytes.drop {a : List Int} (ha : Bytes a) (n : Nat) : Bytes (a.drop n) := fun x hx => ha x (List.mem_of_mem_drop hx)
theorem word_word4 (n : Int) (r : List Int) (h0 : 0 ≤ n) (h1 : n < 4294967296) (hr : Bytes r) : wordI (word4 n ++ r) = n := by
  rw [wordI_is _ ((word4_bytes n).append hr)]
  have e0 : rdI (word4 n ++ r) 0 = (n / 16777216) % 256 := rfl
  have e1 : rdI (word4 n ++ r) 1 = (n / 65536) % 256 := rfl
  have e2 : rdI (word4 n ++ r) 2 = (n / 256) % 256 := rfl
  have e3 : rdI (word4 n ++ r) 3 = n % 256 := rfl
  rw [e0, e1, e2, e3]
  omega
/-- Four bytes are the word's. -/
theorem word4_word (l : List Int) (h : Bytes l) (hl : 4 ≤ l.length) : word4 (wordI l) = l.take 4 := by
  match l, hl with
  | a :: b :: c :: d :: r, _ =>
    rw [wordI_is _ h]
    have ha := h a (by simp)
    have hb := h b (by simp)
    have hc := h c (by simp)
    have hd := h d (by simp)
    show word4 (a * 16777216 + b * 65536 + c * 256 + d) = [a, b, c, d]
    unfold word4
    congr 1
    · omega
    · congr 1
      · omega
      · congr 1
        · omega
        · congr 1; omega
theorem sumI_in (l : List Int) (h : Bytes l) : 0 ≤ sumI l ∧ sumI l < 4294967296 := by
  rw [sum_B l h]
  have := (ones ^^^ regB ones l).isLt
  omega
def sealI (l : List Int) : List Int := (word4 (headI l.length) ++ l) ++ word4 (sumI (word4 (headI l.length) ++ l))
theorem sealI_len (l : List Int) : (sealI l).length = l.length + 8 := by simp [sealI, word4]
theorem sealI_bytes {l : List Int} (h : Bytes l) : Bytes (sealI l) := ((word4_bytes _).append h).append (word4_bytes _)
/-- What Open tells: the body, how many bytes, the error. -/
def openI (l : List Int) : List Int × Int × Int :=
  if l.length < 4 then ([], 0, 10) else if wordI l ≠ headI (wordI l % 65536) ∨ 8192 < wordI l % 65536 then ([], 0, 11) else if (l.length : Int) - 8 < wordI l % 65536 then ([], 0, 10)
  else if wordI (l.drop (4 + wordI l % 65536).toNat) ≠ sumI (l.take (4 + wordI l % 65536).toNat) then ([], 0, 70)
  else ((l.take (4 + wordI l % 65536).toNat).drop 4, 8 + wordI l % 65536, 0)
theorem headI_mod (n : Int) (h0 : 0 ≤ n) (h1 : n ≤ 65535) : headI n % 65536 = n := by rw [headI_is n h0 h1]; omega
/-- P7.3: what was sealed is opened. -/
theorem open_seal (l r : List Int) (h : Bytes l) (hr : Bytes r) (hl : l.length ≤ 8192) : openI (sealI l ++ r) = (l, 8 + (l.length : Int), 0) := by
  have hh := headI_is l.length (by omega) (by omega)
  have hm := headI_mod l.length (by omega) (by omega)
  have hw : wordI (sealI l ++ r) = headI l.length := by
    unfold sealI
    rw [List.append_assoc, List.append_assoc]
    exact word_word4 _ _ (by omega) (by omega) (h.append ((word4_bytes _).append hr))
  have hlen := sealI_len l
  have h4 : (4 + (l.length : Int)).toNat = (word4 (headI l.length) ++ l).length := by simp [word4]; omega
  have hd : wordI ((sealI l ++ r).drop (4 + (l.length : Int)).toNat) = sumI (word4 (headI l.length) ++ l) := by
    have hb := (word4_bytes (headI l.length)).append h
    rw [h4]
    unfold sealI
    rw [List.append_assoc, List.drop_left]
    have := sumI_in _ hb
    exact word_word4 _ _ this.1 this.2 hr
  have ht : (sealI l ++ r).take (4 + (l.length : Int)).toNat = word4 (headI l.length) ++ l := by
    rw [h4]
    unfold sealI
    rw [List.append_assoc, List.take_left]
  unfold openI
  rw [hw, hm, if_neg (by rw [List.length_append]; omega), if_neg (by simp; omega), if_neg (by rw [List.length_append]; omega), hd, ht, if_neg (by simp)]
  rfl
/-- P7.3: what is opened is Seal of what is told. -/
theorem seal_open (b x : List Int) (k : Int) (hb : Bytes b) (h : openI b = (x, k, 0)) : sealI x = b.take k.toNat ∧ 0 ≤ k ∧ k ≤ b.length ∧ x.length ≤ 8192 ∧ Bytes x := by
  unfold openI at h
  split at h
  · simp at h
  · split at h
    · simp at h
    · split at h
      · simp at h
      · split at h
        · simp at h
        · rename_i h1 h2 h3 h4
          simp only [Prod.mk.injEq, and_true] at h
          obtain ⟨rfl, rfl⟩ := h
          have h2a : wordI b = headI (wordI b % 65536) := by
            apply Classical.byContradiction; intro c; exact h2 (.inl c)
          have h2b : wordI b % 65536 ≤ 8192 := by
            apply Int.le_of_not_gt; intro c; exact h2 (.inr c)
          have h4a : wordI (b.drop (4 + wordI b % 65536).toNat) = sumI (b.take (4 + wordI b % 65536).toNat) := by
            apply Classical.byContradiction; intro c; exact h4 c
          generalize hn : wordI b % 65536 = n at *
          have n0 : 0 ≤ n := by omega
          have hxl : ((b.take (4 + n).toNat).drop 4).length = n.toNat := by rw [List.length_drop, List.length_take]; omega
          have e1 : word4 (headI n) = b.take 4 := by rw [← h2a]; exact word4_word b hb (by omega)
          have e2 : word4 (headI n) ++ (b.take (4 + n).toNat).drop 4 = b.take (4 + n).toNat := by
            rw [e1]
            conv => rhs; rw [← List.take_append_drop 4 (b.take (4 + n).toNat)]
            rw [List.take_take, Nat.min_eq_left (by omega)]
          refine ⟨?_, by omega, by omega, by rw [hxl]; omega, (hb.take _).drop _⟩
          unfold sealI
          rw [hxl, show ((n.toNat : Nat) : Int) = n by omega, e2, ← h4a, word4_word _ (hb.drop _) (by rw [List.length_drop]; omega)]
          rw [show (8 + n).toNat = (4 + n).toNat + 4 by omega, List.take_add]
/-- P7.2: what lacks bytes is short. -/
theorem open_cut_short (l : List Int) (h : Bytes l) (hl : l.length ≤ 8192) (c : Nat) (hc : c < l.length + 8) : openI ((sealI l).take c) = ([], 0, 10) := by
  have hlen := sealI_len l
  have hh := headI_is l.length (by omega) (by omega)
  have hm := headI_mod l.length (by omega) (by omega)
  unfold openI
  by_cases h4 : c < 4
  · rw [if_pos (by rw [List.length_take]; omega)]
  · have hw : wordI ((sealI l).take c) = headI l.length := by
      have e : (sealI l).take c = word4 (headI l.length) ++ (l ++ word4 (sumI (word4 (headI l.length) ++ l))).take (c - 4) := by
        unfold sealI
        rw [List.append_assoc, List.take_append]
        have e4 : (word4 (headI l.length)).length = 4 := rfl
        rw [e4, List.take_of_length_le (by rw [e4]; omega)]
      rw [e]
      exact word_word4 _ _ (by omega) (by omega) ((h.append (word4_bytes _)).take _)
    rw [if_neg (by rw [List.length_take]; omega), hw, hm, if_neg (by simp; omega), if_pos (by rw [List.length_take]; omega)]
/-! ### bursts -/
def bt (l : List Int) (i : Nat) : Bool := (rdI l (i / 8)).toNat.testBit (7 - i % 8)
def flipI (l : List Int) (j : Nat) : List Int := l.set (j / 8) (bits .xor .u8 (rdI l (j / 8)) (128 / 2 ^ (j % 8)))
theorem bit_of : ∀ r, r < 8 → ∀ s, s < 8 → (128 / 2 ^ r).testBit (7 - s) = (r == s) := by decide +kernel
theorem pow_in : ∀ r, r < 8 → (128 / 2 ^ r) < 256 ∧ ((128 / 2 ^ r : Nat) : Int) = 128 / 2 ^ r := by decide +kernel
theorem flip_val (x : Int) (h0 : 0 ≤ x) (h1 : x < 256) (r : Nat) (hr : r < 8) : bits .xor .u8 x (128 / 2 ^ r) = ((x.toNat ^^^ (128 / 2 ^ r) : Nat) : Int) := by
  obtain ⟨a, rfl⟩ := Int.eq_ofNat_of_zero_le h0
  obtain ⟨p1, p2⟩ := pow_in r hr
  rw [← p2, u8_xor_nat a _ (by omega) p1]
  rfl
theorem flip_bytes {l : List Int} (h : Bytes l) (j : Nat) : Bytes (flipI l j) := by
  intro x hx
  unfold flipI at hx
  rcases List.mem_or_eq_of_mem_set hx with hx | rfl
  · exact h x hx
  · have hb := rdI_in l h (j / 8)
    rw [flip_val _ hb.1 hb.2 _ (by omega)]
    have : (rdI l (j / 8)).toNat ^^^ (128 / 2 ^ (j % 8)) < 2 ^ 8 := Nat.xor_lt_two_pow (by omega) (pow_in _ (by omega)).1
    omega
theorem flip_len (l : List Int) (j : Nat) : (flipI l j).length = l.length := by simp [flipI]
theorem rdI_set (l : List Int) (i j : Nat) (x : Int) (hj : j < l.length) : rdI (l.set j x) i = if i = j then x else rdI l i := by
  unfold rdI
  rw [List.getD_eq_getElem?_getD, List.getD_eq_getElem?_getD, List.getElem?_set]
  by_cases c : i = j
  · subst c; simp [hj]
  · rw [if_neg (fun h => c h.symm), if_neg c]
theorem bt_flip (l : List Int) (h : Bytes l) (j i : Nat) (hj : j < 8 * l.length) : bt (flipI l j) i = (bt l i ^^ (i == j)) := by
  unfold bt flipI
  rw [rdI_set _ _ _ _ (by omega)]
  by_cases c : i / 8 = j / 8
  · have hb := rdI_in l h (j / 8)
    rw [if_pos c, flip_val _ hb.1 hb.2 _ (by omega), Int.toNat_natCast, Nat.testBit_xor, c, bit_of _ (by omega) _ (by omega)]
    have e : (j % 8 == i % 8) = (i == j) := by
      by_cases d : i = j
      · subst d; rw [beq_self_eq_true, beq_self_eq_true]
      · rw [beq_eq_false_iff_ne.2 (show j % 8 ≠ i % 8 by omega), beq_eq_false_iff_ne.2 d]
    rw [e]
  · rw [if_neg c]
    rw [beq_eq_false_iff_ne.2 (show i ≠ j from fun h => c (by rw [h])), Bool.xor_false]
theorem byte_ext {x y : Int} (hx : 0 ≤ x ∧ x < 256) (hy : 0 ≤ y ∧ y < 256) (h : ∀ k, k < 8 → x.toNat.testBit k = y.toNat.testBit k) : x = y := by
  have : x.toNat = y.toNat := by
    apply Nat.eq_of_testBit_eq
    intro k
    by_cases c : k < 8
    · exact h k c
    · have e : (2 : Nat) ^ 8 ≤ 2 ^ k := Nat.pow_le_pow_right (by decide) (by omega)
      rw [Nat.testBit_lt_two_pow (show x.toNat < 2 ^ k by omega), Nat.testBit_lt_two_pow (show y.toNat < 2 ^ k by omega)]
  omega
theorem rd_ext {a b : List Int} (ha : Bytes a) (hb : Bytes b) (p : Nat) (h : ∀ i, i / 8 = p → bt a i = bt b i) : rdI a p = rdI b p := by
  refine byte_ext (rdI_in a ha p) (rdI_in b hb p) (fun k hk => ?_)
  have := h (8 * p + (7 - k)) (by omega)
  unfold bt at this
  rw [show (8 * p + (7 - k)) / 8 = p by omega, show 7 - (8 * p + (7 - k)) % 8 = k by omega] at this
  exact this
theorem list_ext {a b : List Int} (hl : a.length = b.length) (h : ∀ p, p < a.length → rdI a p = rdI b p) : a = b := by
  apply List.ext_getElem hl
  intro i h1 h2
  have := h i h1
  unfold rdI at this
  rw [List.getD_eq_getElem?_getD, List.getD_eq_getElem?_getD, List.getElem?_eq_getElem h1, List.getElem?_eq_getElem h2] at this
  exact this
theorem regB_append (r : BitVec 32) (a b : List Int) : regB r (a ++ b) = regB (regB r a) b := List.foldl_append ..
theorem byteB_inj (c : Nat) {a b : BitVec 32} (h : byteB a c = byteB b c) : a = b := by
  rw [byteB_B, byteB_B] at h
  have h := T8_inj h
  have := congrArg (· ^^^ (B c <<< 24)) h
  simp only [BitVec.xor_assoc, BitVec.xor_self, BitVec.xor_zero] at this
  exact this
theorem regB_inj : ∀ (l : List Int) {a b : BitVec 32}, regB a l = regB b l → a = b
  | [], _, _, h => h
  | c :: l, _, _, h => byteB_inj c.toNat (regB_inj l h)
/-- Where two rows differ within three bytes alone, their registers differ. -/
theorem reg_three {a b : List Int} (ha : Bytes a) (hb : Bytes b) (hl : a.length = b.length) (p : Nat) (hp : p + 3 ≤ a.length) (h : ∀ i, i < a.length → (i < p ∨ p + 3 ≤ i) → rdI a i = rdI b i) (r : BitVec 32) (he : regB r a = regB r b) : a = b := by
  have e : ∀ l : List Int, p + 3 ≤ l.length → l = l.take p ++ ([rdI l p, rdI l (p + 1), rdI l (p + 2)] ++ l.drop (p + 3)) := by
    intro l hl
    have d : ∀ q, q < l.length → l.drop q = rdI l q :: l.drop (q + 1) := by
      intro q hq
      rw [List.drop_eq_getElem_cons hq]
      unfold rdI
      rw [List.getD_eq_getElem?_getD, List.getElem?_eq_getElem hq]
      rfl
    conv => lhs; rw [← List.take_append_drop p l]
    rw [d p (by omega), d (p + 1) (by omega), d (p + 2) (by omega)]
    rfl
  have t : a.take p = b.take p := by
    apply list_ext (by rw [List.length_take, List.length_take, hl])
    intro q hq
    rw [List.length_take] at hq
    have := h q (by omega) (.inl (by omega))
    unfold rdI at *
    rw [List.getD_eq_getElem?_getD, List.getD_eq_getElem?_getD, List.getElem?_take_of_lt (by omega), List.getElem?_take_of_lt (by omega), ← List.getD_eq_getElem?_getD, ← List.getD_eq_getElem?_getD]
    exact this
  have u : a.drop (p + 3) = b.drop (p + 3) := by
    apply list_ext (by rw [List.length_drop, List.length_drop, hl])
    intro q hq
    rw [List.length_drop] at hq
    have := h (p + 3 + q) (by omega) (.inr (by omega))
    unfold rdI at *
    rw [List.getD_eq_getElem?_getD, List.getD_eq_getElem?_getD, List.getElem?_drop, List.getElem?_drop, ← List.getD_eq_getElem?_getD, ← List.getD_eq_getElem?_getD]
    exact this
  have ea := e a hp
  have eb := e b (by omega)
  rw [ea, eb, t, u, regB_append, regB_append, regB_append, regB_append] at he
  have he := regB_inj _ he
  have i0 := rdI_in a ha p
  have i1 := rdI_in a ha (p + 1)
  have i2 := rdI_in a ha (p + 2)
  have j0 := rdI_in b hb p
  have j1 := rdI_in b hb (p + 1)
  have j2 := rdI_in b hb (p + 2)
  obtain ⟨k1, k2, k3⟩ := three (regB r (b.take p)) _ _ _ _ _ _ (by omega) (by omega) (by omega) (by omega) (by omega) (by omega) he
  rw [ea, eb, t, u, show rdI a p = rdI b p by omega, show rdI a (p + 1) = rdI b (p + 1) by omega, show rdI a (p + 2) = rdI b (p + 2) by omega]
def K : BitVec 32 := T8 (T8 (T8 (T8 ones)))
theorem xor_plus (x y k : Nat) (hy : y < 2 ^ k) : x * 2 ^ k ^^^ y = x * 2 ^ k + y := by
  rw [← or_add x y k hy]
  apply Nat.eq_of_testBit_eq
  intro i
  rw [Nat.testBit_xor, Nat.testBit_or]
  by_cases hi : i < k
  · have : (x * 2 ^ k).testBit i = false := by rw [Nat.mul_comm, Nat.testBit_two_pow_mul]; simp [show ¬ (k ≤ i) by omega]
    rw [this]; simp
  · have : y.testBit i = false := Nat.testBit_lt_two_pow (Nat.lt_of_lt_of_le hy (Nat.pow_le_pow_right (by decide) (by omega)))
    rw [this]; simp
theorem word_B (a b c d : Nat) (ha : a < 256) (hb : b < 256) (hc : c < 256) (hd : d < 256) :
    BitVec.ofNat 32 (a * 16777216 + b * 65536 + c * 256 + d) = (B a <<< 24) ^^^ ((B b <<< 16) ^^^ ((B c <<< 8) ^^^ B d)) := by
  apply BitVec.eq_of_toNat_eq
  have z0 : (B d).toNat = d := by
    have := B_toNat d 0 hd (by decide)
    rw [BitVec.shiftLeft_zero] at this
    omega
  have e0 : c * 2 ^ 8 ^^^ d = c * 2 ^ 8 + d := xor_plus _ _ 8 (by omega)
  have e1 : b * 2 ^ 16 ^^^ (c * 2 ^ 8 + d) = b * 2 ^ 16 + (c * 2 ^ 8 + d) := xor_plus _ _ 16 (by omega)
  have e2 : a * 2 ^ 24 ^^^ (b * 2 ^ 16 + (c * 2 ^ 8 + d)) = a * 2 ^ 24 + (b * 2 ^ 16 + (c * 2 ^ 8 + d)) := xor_plus _ _ 24 (by omega)
  rw [BitVec.toNat_xor, BitVec.toNat_xor, BitVec.toNat_xor, B_toNat _ _ ha (by decide), B_toNat _ _ hb (by decide), B_toNat _ _ hc (by decide), z0, BitVec.toNat_ofNat, e0, e1, e2]
  omega
theorem reg_word (r : BitVec 32) (a b c d : Int) (ha : 0 ≤ a ∧ a < 256) (hb : 0 ≤ b ∧ b < 256) (hc : 0 ≤ c ∧ c < 256) (hd : 0 ≤ d ∧ d < 256) :
    regB r [a, b, c, d] = T8 (T8 (T8 (T8 (r ^^^ BitVec.ofNat 32 (a * 16777216 + b * 65536 + c * 256 + d).toNat)))) := by
  have ha' : a.toNat < 256 := by omega
  have hb' : b.toNat < 256 := by omega
  have hc' : c.toNat < 256 := by omega
  have hd' : d.toNat < 256 := by omega
  rw [show (a * 16777216 + b * 65536 + c * 256 + d).toNat = a.toNat * 16777216 + b.toNat * 65536 + c.toNat * 256 + d.toNat by omega, word_B _ _ _ _ ha' hb' hc' hd']
  simp only [regB, List.foldl_cons, List.foldl_nil, byteB_B]
  generalize a.toNat = a at *
  generalize b.toNat = b at *
  generalize c.toNat = c at *
  generalize d.toNat = d at *
  have q1 : B d <<< 24 = T8 (T8 (T8 (B d))) := by rw [up0 _ hd', up8 _ hd', up16 _ hd']
  have q2 : B c <<< 24 = T8 (T8 (B c <<< 8)) := by rw [up8 _ hc', up16 _ hc']
  have q3 : B b <<< 24 = T8 (B b <<< 16) := by rw [up16 _ hb']
  rw [q1, q2, q3, ← T8_xor, ← T8_xor, ← T8_xor, ← T8_xor, ← T8_xor, ← T8_xor]
  simp only [BitVec.xor_assoc]
/-- The sum is right just where the register over all is K. -/
theorem sum_right (l w : List Int) (hl : Bytes l) (hw : Bytes w) (h4 : w.length = 4) : wordI w = sumI l ↔ regB ones (l ++ w) = K := by
  match w, h4 with
  | [a, b, c, d], _ =>
    have ha := hw a (by simp)
    have hb := hw b (by simp)
    have hc := hw c (by simp)
    have hd := hw d (by simp)
    rw [regB_append, reg_word _ a b c d ha hb hc hd, sum_B l hl, wordI_is _ hw]
    show a * 16777216 + b * 65536 + c * 256 + d = _ ↔ _
    generalize hW : a * 16777216 + b * 65536 + c * 256 + d = W
    generalize regB ones l = r
    have hWn : W = ((BitVec.ofNat 32 W.toNat).toNat : Int) := by rw [BitVec.toNat_ofNat]; omega
    constructor
    · intro h
      have : BitVec.ofNat 32 W.toNat = ones ^^^ r := BitVec.eq_of_toNat_eq (by omega)
      rw [this, K]
      congr 4
      rw [BitVec.xor_comm ones r, ← BitVec.xor_assoc, BitVec.xor_self, BitVec.zero_xor]
    · intro h
      have h := T8_inj (T8_inj (T8_inj (T8_inj h)))
      have : BitVec.ofNat 32 W.toNat = ones ^^^ r := by
        have h2 := congrArg (r ^^^ ·) h
        simp only [← BitVec.xor_assoc, BitVec.xor_self, BitVec.zero_xor] at h2
        rw [h2, BitVec.xor_comm]
      rw [hWn, this]
/-- The burst's first k bits are turned. -/
def turn (b : List Int) (q n : Nat) (p : Nat → Bool) : Nat → List Int
  | 0 => b
  | k + 1 => if q + k < n ∧ p k = true then flipI (turn b q n p k) (q + k) else turn b q n p k
theorem turn_bytes {b : List Int} (h : Bytes b) (q n : Nat) (p : Nat → Bool) : ∀ k, Bytes (turn b q n p k)
  | 0 => h
  | k + 1 => by
    unfold turn
    split
    · exact flip_bytes (turn_bytes h q n p k) _
    · exact turn_bytes h q n p k
theorem turn_len (b : List Int) (q n : Nat) (p : Nat → Bool) : ∀ k, (turn b q n p k).length = b.length
  | 0 => rfl
  | k + 1 => by
    unfold turn
    split
    · rw [flip_len]; exact turn_len b q n p k
    · exact turn_len b q n p k
theorem turn_none (b : List Int) (q n : Nat) (p : Nat → Bool) : ∀ k, (∀ j, j < k → q + j < n → p j = false) → turn b q n p k = b
  | 0, _ => rfl
  | k + 1, h => by
    unfold turn
    rw [if_neg (fun c => by have := h k (by omega) c.1; rw [c.2] at this; cases this)]
    exact turn_none b q n p k (fun j hj => h j (by omega))
theorem turn_bt (b : List Int) (h : Bytes b) (q : Nat) (p : Nat → Bool) (i : Nat) : ∀ k, bt (turn b q (8 * b.length) p k) i = (bt b i ^^ (decide (q ≤ i ∧ i < q + k ∧ i < 8 * b.length) && p (i - q)))
  | 0 => by
    rw [decide_eq_false (by omega)]
    simp [turn]
  | k + 1 => by
    have ih := turn_bt b h q p i k
    unfold turn
    by_cases c : q + k < 8 * b.length ∧ p k = true
    · rw [if_pos c, bt_flip _ (turn_bytes h _ _ _ _) _ _ (by rw [turn_len]; exact c.1), ih]
      by_cases d : i = q + k
      · subst d
        rw [decide_eq_false (by omega), decide_eq_true (by omega), Nat.add_sub_cancel_left, c.2]
        simp
      · rw [beq_eq_false_iff_ne.2 d, Bool.xor_false]
        congr 2
        apply decide_eq_decide.2
        omega
    · rw [if_neg c, ih]
      by_cases d : i = q + k
      · subst d
        rw [decide_eq_false (by omega), Nat.add_sub_cancel_left]
        by_cases e : q + k < 8 * b.length
        · have : p k = false := by
            cases hp : p k with
            | false => rfl
            | true => exact absurd ⟨e, hp⟩ c
          rw [this]; simp
        · rw [decide_eq_false (by omega)]
      · congr 2
        apply decide_eq_decide.2
        omega
theorem head_iff (l : List Int) (h : Bytes l) : wordI l = headI (wordI l % 65536) ↔ (rdI l 0 + rdI l 2 = 255 ∧ rdI l 1 + rdI l 3 = 255) := by
  rw [wordI_is l h]
  have b0 := rdI_in l h 0
  have b1 := rdI_in l h 1
  have b2 := rdI_in l h 2
  have b3 := rdI_in l h 3
  rw [headI_is _ (by omega) (by omega), show (rdI l 0 * 16777216 + rdI l 1 * 65536 + rdI l 2 * 256 + rdI l 3) % 65536 = rdI l 2 * 256 + rdI l 3 by omega]
  generalize rdI l 0 = a at *
  generalize rdI l 1 = b at *
  generalize rdI l 2 = c at *
  generalize rdI l 3 = d at *
  constructor
  · intro h; omega
  · intro h; omega
theorem comp_bit : ∀ x, x < 256 → ∀ k, k < 8 → (255 - x).testBit k = !x.testBit k := by decide +kernel
theorem head_bits (l : List Int) (h : Bytes l) (hh : wordI l = headI (wordI l % 65536)) (i : Nat) (hi : i < 16) : bt l i = !bt l (i + 16) := by
  obtain ⟨e0, e1⟩ := (head_iff l h).1 hh
  have b0 := rdI_in l h 0
  have b1 := rdI_in l h 1
  have b2 := rdI_in l h 2
  have b3 := rdI_in l h 3
  unfold bt
  have m : (i + 16) % 8 = i % 8 := by omega
  rw [m]
  by_cases c : i < 8
  · rw [show i / 8 = 0 by omega, show (i + 16) / 8 = 2 by omega, show (rdI l 0).toNat = 255 - (rdI l 2).toNat by omega]
    exact comp_bit _ (by omega) _ (by omega)
  · rw [show i / 8 = 1 by omega, show (i + 16) / 8 = 3 by omega, show (rdI l 1).toNat = 255 - (rdI l 3).toNat by omega]
    exact comp_bit _ (by omega) _ (by omega)
/-- P7.3: a frame that was turned within 16 bits is refused. -/
theorem burst_refused (l : List Int) (h : Bytes l) (hl : l.length ≤ 8192) (q : Nat) (p : Nat → Bool) (hp : ∃ k, k < 16 ∧ q + k < 8 * (sealI l).length ∧ p k = true) :
    (openI (turn (sealI l) q (8 * (sealI l).length) p 16)).2.2 = 11 ∨ (openI (turn (sealI l) q (8 * (sealI l).length) p 16)).2.2 = 70 := by
  have hb := sealI_bytes h
  have hlen := sealI_len l
  have ho := open_seal l [] h (fun x hx => by cases hx) hl
  rw [List.append_nil] at ho
  have hbt := fun i => turn_bt (sealI l) hb q p i 16
  have tb := turn_bytes hb q (8 * (sealI l).length) p 16
  have tl := turn_len (sealI l) q (8 * (sealI l).length) p 16
  generalize hc : turn (sealI l) q (8 * (sealI l).length) p 16 = c at *
  have hw : wordI (sealI l) = headI l.length := by
    unfold sealI
    rw [List.append_assoc]
    exact word_word4 _ _ (by rw [headI_is _ (by omega) (by omega)]; omega) (by rw [headI_is _ (by omega) (by omega)]; omega) (h.append (word4_bytes _))
  have hm := headI_mod l.length (by omega) (by omega)
  have hh : wordI (sealI l) = headI (wordI (sealI l) % 65536) := by rw [hw, hm]
  by_cases ch : wordI c = headI (wordI c % 65536)
  · -- the head is as it was
    have same : ∀ i, i < 32 → bt c i = bt (sealI l) i := by
      have key : ∀ i, i < 16 → bt c i = bt (sealI l) i ∧ bt c (i + 16) = bt (sealI l) (i + 16) := by
        intro i hi
        have c1 := head_bits c tb ch i hi
        have c2 := head_bits (sealI l) hb hh i hi
        have c3 := hbt i
        have c4 := hbt (i + 16)
        by_cases w : q ≤ i
        · rw [decide_eq_false (show ¬ (q ≤ i + 16 ∧ i + 16 < q + 16 ∧ i + 16 < 8 * (sealI l).length) by omega), Bool.false_and, Bool.xor_false] at c4
          rw [c1, c2, c4]; exact ⟨rfl, rfl⟩
        · rw [decide_eq_false (show ¬ (q ≤ i ∧ i < q + 16 ∧ i < 8 * (sealI l).length) by omega), Bool.false_and, Bool.xor_false] at c3
          refine ⟨c3, ?_⟩
          rw [c3, c2] at c1
          have := congrArg (!·) c1
          simpa using this.symm
      intro i hi
      by_cases d : i < 16
      · exact (key i d).1
      · have := (key (i - 16) (by omega)).2
        rw [show i - 16 + 16 = i by omega] at this
        exact this
    have rds : ∀ j, j < 4 → rdI c j = rdI (sealI l) j := fun j hj => rd_ext tb hb j (fun i hi => same i (by omega))
    have hwc : wordI c = headI l.length := by
      rw [← hw, wordI_is c tb, wordI_is _ hb, rds 0 (by omega), rds 1 (by omega), rds 2 (by omega), rds 3 (by omega)]
    right
    unfold openI
    rw [hwc, hm, if_neg (by omega), if_neg (by simp; omega), if_neg (by omega)]
    by_cases cs : wordI (c.drop (4 + (l.length : Int)).toNat) = sumI (c.take (4 + (l.length : Int)).toNat)
    · exfalso
      have n4 : (4 + (l.length : Int)).toNat = l.length + 4 := by omega
      rw [n4] at cs
      have k1 := (sum_right _ _ (tb.take (l.length + 4)) (tb.drop (l.length + 4)) (by rw [List.length_drop]; omega)).1 cs
      rw [List.take_append_drop] at k1
      have s2 : wordI ((sealI l).drop (l.length + 4)) = sumI ((sealI l).take (l.length + 4)) := by
        have e4 : (word4 (headI l.length) ++ l).length = l.length + 4 := by simp [word4]
        unfold sealI
        rw [← e4, List.drop_left, List.take_left]
        have si := sumI_in _ ((word4_bytes (headI l.length)).append h)
        have := word_word4 (sumI (word4 (headI l.length) ++ l)) [] si.1 si.2 (fun x hx => by cases hx)
        rw [List.append_nil] at this
        exact this
      have k2 := (sum_right _ _ (hb.take (l.length + 4)) (hb.drop (l.length + 4)) (by rw [List.length_drop]; omega)).1 s2
      rw [List.take_append_drop] at k2
      have eq : c = sealI l := by
        refine reg_three tb hb tl (min (q / 8) (c.length - 3)) (by omega) (fun i hi hout => ?_) ones (k1.trans k2.symm)
        refine rd_ext tb hb i (fun j hj => ?_)
        rw [hbt j, decide_eq_false (show ¬ (q ≤ j ∧ j < q + 16 ∧ j < 8 * (sealI l).length) by omega), Bool.false_and, Bool.xor_false]
      obtain ⟨k, k0, k3, k4⟩ := hp
      have := hbt (q + k)
      rw [eq, decide_eq_true (show q ≤ q + k ∧ q + k < q + 16 ∧ q + k < 8 * (sealI l).length by omega), Nat.add_sub_cancel_left, k4] at this
      cases hx : bt (sealI l) (q + k) <;> rw [hx] at this <;> simp at this
    · rw [if_pos cs]
  · left
    unfold openI
    rw [if_neg (by omega), if_pos (.inl ch)]
end Go.Proofs.YtmoblggflijkdaaDoor.Fr
