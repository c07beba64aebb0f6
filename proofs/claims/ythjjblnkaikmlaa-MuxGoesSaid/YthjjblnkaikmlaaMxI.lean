/- The document's reader inside the document's session: its Feed walked, in the block of type 57 (the lines are the print's for a reader that lies alone, turned to this block). -/
import Derived.Test.YthjjblnkaikmlaaMxE
namespace Go.Proofs.Ythjjblnkaikmlaa.Mx
open Go.RowKit Go.Proofs.Ythjjblnkaikmlaa.PMuxOnce Go.Proofs.YthjjblnkaikmlaaW.PrintWords Go.Proofs.YthjjblnkaikmlaaW.PrintLast Go.Proofs.YthjjblnkaikmlaaW.PrintMore
attribute [local go_sem] max2_int min2_int max_two min_two max_three min_three max_four min_four
set_option linter.unusedVariables false
set_option linter.unusedSimpArgs false
/-- What lies behind the reader in the document's session. -/
structure Ext where
  va : Value
  st : Int
  al : Bool
  tx : ByteArray
  vt : Value
def cellsZ (Z : Ext) (f0 : ByteArray) (f1 : Bool) : Array Value := #[.string f0, .bool f1, Z.va, .int .i64 Z.st, .bool Z.al, .string Z.tx, Z.vt]
def IsX (Z : Ext) (w0 W : World) (g : Nat) (f0 : ByteArray) (f1 : Bool) : Prop := W.heap[g]? = some (.cells (cellsZ Z f0 f1) 57 (0, 0)) ∧ w0.heap.size ≤ g
theorem IsX.grown {Z : Ext} {w0 W : World} {g : Nat} {f0 : ByteArray} {f1 : Bool} {W1 : World} {row : Option Nat} (h : IsX Z w0 W g f0 f1) (hw : W.grownBy W1 row) (hne : some g ≠ row) : IsX Z w0 W1 g f0 f1 := by
  obtain ⟨hb, hg⟩ := h
  exact ⟨blk_grown hb hw hne, hg⟩
theorem IsX.own_neN {Z : Ext} {w0 W : World} {g : Nat} {f0 : ByteArray} {f1 : Bool} {α : Type} {d : Kd α} {e : Nat} {base : Nat} {ok : Nat → Prop} {v : Value} {xs : List α} (h : IsX Z w0 W g f0 f1) (ho : Kd.N d e W base ok v xs) (ht : e ≠ 57) : some g ≠ v.ownBlock := by
  obtain ⟨hb, hg⟩ := h
  exact Kd.N_ne ho hb ht
theorem IsX.fresh {Z : Ext} {w0 W : World} {g : Nat} {f0 : ByteArray} {f1 : Bool} (h : IsX Z w0 W g f0 f1) : ∀ k, W.heap.size ≤ k → k ≠ g := by
  obtain ⟨hb, hg⟩ := h
  exact Kd.freshB hb
theorem IsX.kept {Z : Ext} {w0 W : World} {g : Nat} {f0 : ByteArray} {f1 : Bool} {W1 : World} {S : Nat → Prop} (h : IsX Z w0 W g f0 f1) (hk : Kept W W1 S) (hne : ¬ S g) : IsX Z w0 W1 g f0 f1 := by
  obtain ⟨hb, hg⟩ := h
  exact ⟨blk_kept hb hk hne, hg⟩
theorem IsX.below {Z : Ext} {w0 W : World} {g : Nat} {f0 : ByteArray} {f1 : Bool} {W1 : World} (h : IsX Z w0 W g f0 f1) (hw : Below W.heap.size W W1) : IsX Z w0 W1 g f0 f1 := h.grown (grown_of_below hw none) (by simp)
theorem IsX.alloc {Z : Ext} {w0 W : World} {g : Nat} {f0 : ByteArray} {f1 : Bool} (h : IsX Z w0 W g f0 f1) (o : Obj) : IsX Z w0 (W.alloc o) g f0 f1 := h.below (below_alloc (Below.refl _ _) o)
theorem IsX.drewN {Z : Ext} {w0 W : World} {g : Nat} {f0 : ByteArray} {f1 : Bool} (h : IsX Z w0 W g f0 f1) (m : Nat) : IsX Z w0 (W.drewN m) g f0 f1 := h
theorem IsX.drew {Z : Ext} {w0 W : World} {g : Nat} {f0 : ByteArray} {f1 : Bool} (h : IsX Z w0 W g f0 f1) : IsX Z w0 W.drew g f0 f1 := h
theorem IsX.at_ {Z : Ext} {w0 W : World} {g : Nat} {f0 : ByteArray} {f1 : Bool} {w' : World} {m : Nat} (hq : W.drewN m = w') (h : IsX Z w0 W g f0 f1) : IsX Z w0 w' g f0 f1 := by subst hq; exact IsX.drewN h m
theorem IsX.apart {Z : Ext} {w0 W : World} {g : Nat} {f0 : ByteArray} {f1 : Bool} {α : Type} {d : Kd α} {e : Nat} {base : Nat} {ok : Nat → Prop} {v : Value} {xs : List α} (h : IsX Z w0 W g f0 f1) (ho : d.R e W base ok v xs) (ht : ∀ q, q ∈ e :: d.E → q ≠ 57) : d.R e W base (fun k => ok k ∧ k ≠ g) v xs := by
  obtain ⟨hb, hg⟩ := h
  exact Kd.R_types ho hb ht
theorem IsX.own_ne {Z : Ext} {w0 W : World} {g : Nat} {f0 : ByteArray} {f1 : Bool} {α : Type} {d : Kd α} {e : Nat} {base : Nat} {ok : Nat → Prop} {v : Value} {xs : List α} (h : IsX Z w0 W g f0 f1) (ho : d.R e W base ok v xs) (ht : e ≠ 57) : some g ≠ v.ownBlock := by
  obtain ⟨hb, hg⟩ := h
  exact Kd.R_ne ho hb ht
theorem IsX.apartQ {Z : Ext} {w0 W : World} {g : Nat} {f0 : ByteArray} {f1 : Bool} {α : Type} {d : Kd α} {e : Nat} {base : Nat} {ok : Nat → Prop} {v : Value} {xs : List α} (h : IsX Z w0 W g f0 f1) (ho : d.Q e W base ok v xs) (ht : ∀ q, q ∈ e :: d.E → q ≠ 57) : d.Q e W base (fun k => ok k ∧ k ≠ g) v xs := by
  obtain ⟨hb, hg⟩ := h
  exact Kd.Q_types ho hb ht
theorem IsX.own_neQ {Z : Ext} {w0 W : World} {g : Nat} {f0 : ByteArray} {f1 : Bool} {α : Type} {d : Kd α} {e : Nat} {base : Nat} {ok : Nat → Prop} {v : Value} {xs : List α} (h : IsX Z w0 W g f0 f1) (ho : d.Q e W base ok v xs) (ht : e ≠ 57) : some g ≠ v.ownBlock := by
  obtain ⟨hb, hg⟩ := h
  exact Kd.Q_ne ho hb ht
theorem IsX.apartS {Z : Ext} {w0 W : World} {g : Nat} {f0 : ByteArray} {f1 : Bool} {α : Type} {d : Kd α} {e : Nat} {base : Nat} {ok : Nat → Prop} {v : Value} {xs : List α} (h : IsX Z w0 W g f0 f1) (ho : d.S e W base ok v xs) (ht : ∀ q, q ∈ e :: d.E → q ≠ 57) : d.S e W base (fun k => ok k ∧ k ≠ g) v xs := by
  obtain ⟨hb, hg⟩ := h
  exact Kd.S_types ho hb ht
theorem IsX.own_neS {Z : Ext} {w0 W : World} {g : Nat} {f0 : ByteArray} {f1 : Bool} {α : Type} {d : Kd α} {e : Nat} {base : Nat} {ok : Nat → Prop} {v : Value} {xs : List α} (h : IsX Z w0 W g f0 f1) (ho : d.S e W base ok v xs) (ht : e ≠ 57) : some g ≠ v.ownBlock := by
  obtain ⟨hb, hg⟩ := h
  exact Kd.S_ne ho hb ht
theorem IsX.lt {Z : Ext} {w0 W : World} {g : Nat} {f0 : ByteArray} {f1 : Bool} (h : IsX Z w0 W g f0 f1) : g < W.heap.size := by
  obtain ⟨hb, hg⟩ := h
  exact blk_lt hb
theorem IsX.ge {Z : Ext} {w0 W : World} {g : Nat} {f0 : ByteArray} {f1 : Bool} (h : IsX Z w0 W g f0 f1) : w0.heap.size ≤ g := by
  obtain ⟨hb, hg⟩ := h
  exact hg
theorem IsX.ne_blk {Z : Ext} {w0 W : World} {g : Nat} {f0 : ByteArray} {f1 : Bool} {a : Nat} {cs : Array Value} {t : TypeId} {fr : Nat × Nat} (h : IsX Z w0 W g f0 f1) (hb2 : W.heap[a]? = some (.cells cs t fr)) (ht : t ≠ 57) : g ≠ a := by
  obtain ⟨hb, hg⟩ := h
  rintro rfl
  rw [hb] at hb2
  injection hb2 with hb2
  injection hb2 with _ ht2
  exact ht ht2.symm
theorem IsX.far {Z : Ext} {w0 W : World} {g : Nat} {f0 : ByteArray} {f1 : Bool} {p : Addr} (h : IsX Z w0 W g f0 f1) (hne : g ≠ p.block) (u : Value) : IsX Z w0 (W.setCell p u) g f0 f1 := by
  obtain ⟨hb, hg⟩ := h
  exact ⟨blk_far hb hne u, hg⟩
theorem cellX_0 {Z : Ext} {W : World} {g : Nat} {f0 : ByteArray} {f1 : Bool} (h : W.heap[g]? = some (.cells (cellsZ Z f0 f1) 57 (0, 0))) : W.cell? ⟨g, 0, none⟩ = some (.string f0) := (blk_cell h 0).trans rfl
theorem IsX.set_0 {Z : Ext} {w0 W : World} {g : Nat} {f0 : ByteArray} {f1 : Bool} (h : IsX Z w0 W g f0 f1) (x : ByteArray) : IsX Z w0 (W.setCell ⟨g, 0, none⟩ (.string x)) g x f1 := by
  obtain ⟨hb, hg⟩ := h
  exact ⟨by simpa [cellsZ] using blk_set hb 0 (.string x), hg⟩
theorem cellX_1 {Z : Ext} {W : World} {g : Nat} {f0 : ByteArray} {f1 : Bool} (h : W.heap[g]? = some (.cells (cellsZ Z f0 f1) 57 (0, 0))) : W.cell? ⟨g, 1, none⟩ = some (.bool f1) := (blk_cell h 1).trans rfl
theorem IsX.set_1 {Z : Ext} {w0 W : World} {g : Nat} {f0 : ByteArray} {f1 : Bool} (h : IsX Z w0 W g f0 f1) (x : Bool) : IsX Z w0 (W.setCell ⟨g, 1, none⟩ (.bool x)) g f0 x := by
  obtain ⟨hb, hg⟩ := h
  exact ⟨by simpa [cellsZ] using blk_set hb 1 (.bool x), hg⟩
set_option maxHeartbeats 8000000 in
set_option maxRecDepth 100000 in
theorem dfeed_calls (Z : Ext) (k : Nat) (g : Nat) (s0_0 : ByteArray) (s0_1 : Bool) (a1 : ByteArray) (r1 : List (S44)) (r2 : ByteArray) (r3 : Bool) (w0 w : World) (hI : IsX Z w0 w g s0_0 s0_1) (hB : Below w0.heap.size w0 w) (h : stopcockref09_Reader_Feed.f k s0_0 s0_1 a1 = some (r1, r2, r3)) :
    Calls Try.prog 14 #[.pointer (some ⟨g, 0, none⟩), .string a1] w fun e w' => ∃ v0_ : Value, e = .returned (v0_) ∧ Kd.R k44 44 w' w.heap.size (fun _ => True) v0_ r1 ∧ IsX Z w0 w' g r2 r3 ∧ Below w0.heap.size w0 w' ∧ KeepBut w w' g none := by
  have hu44 := Try.underlying44
  have HI0 := Aside0.mk hI
  have HK := Aside0.mk (KeepBut.refl w g none)
  have HL := Aside0.mk hB.size
  clear hI
  have HW0 := Aside0.mk hB.size
  have HB := Aside0.mk hB
  clear hB
  have H : (if s0_1 = true then (some (([] : List (S44)), s0_0, s0_1)) else (if s0_0.size + a1.size ≤ 9223372036854775807 then (stopcockref09_Reader_Feed.l0 k ([] : List (S44)) (s0_0 ++ a1) s0_1) else (none))) = some (r1, r2, r3) := h
  clear h
  by_cases c3 : s0_1 = true
  · subst c3
    have H1 : (some (([] : List (S44)), s0_0, true)) = some (r1, r2, r3) := by rw [if_pos rfl] at H; exact H
    clear H
    have H := H1
    clear H1
    simp only [Option.some.injEq, Prod.mk.injEq] at H
    obtain ⟨rfl, rfl, rfl⟩ := H
    obtain ⟨HGz4, hgz4⟩ := HI0.out
    have hcz4_0 := cellX_0 HGz4
    have hcz4_1 := cellX_1 HGz4
    have hfz4_0 := blk_frozen HGz4 0
    have hfz4_1 := blk_frozen HGz4 1
    clear HGz4 hgz4
    go_enter Try.func14, Try.ntmps14
    go_wp2
    repeat (go_quiet (fail); try go_wp2)
    go_ret
    exact ⟨_, by first | rfl | (simp [errW_none, errW_some] <;> rfl) | (simp [*, errW_none, errW_some] <;> rfl), by first | exact Kd.R_nil _ _ _ _ _ | exact Kd.N_nil _ _ _ _ _ | exact Kd.V_nil _ _ _ _ _ | exact Kd.Q_nil _ _ _ _ _ | exact Kd.S_nil _ _ _ _ _, by repeat (first | (with_reducible first | exact HI0.out | apply IsX.alloc | apply IsX.drewN | apply IsX.drew | apply IsX.set_0 | apply IsX.set_1) | exact HI0.out), by repeat (first | (with_reducible first | exact HB.out | apply below_alloc | apply pw_below_drewN | apply below_drew1 | refine below_set ?_ (IsX.ge HI0.out)) | exact HB.out), by repeat (first | (with_reducible first | exact HK.out | apply KeepBut.set_ | apply keep_drewN | apply keep_drew | apply keep_alloc) | exact HK.out)⟩
  · replace c3 := Bool.eq_false_iff.mpr c3
    subst c3
    have H1 : (if s0_0.size + a1.size ≤ 9223372036854775807 then (stopcockref09_Reader_Feed.l0 k ([] : List (S44)) (s0_0 ++ a1) false) else (none)) = some (r1, r2, r3) := by rw [if_neg (show ¬ (false = true) by decide)] at H; exact H
    clear H
    have H := H1
    clear H1
    by_cases c5 : s0_0.size + a1.size ≤ 9223372036854775807
    · rw [if_pos c5] at H
      have c5b0 := eq_true c5
      have c5b1 : decide (s0_0.size + a1.size ≤ 9223372036854775807) = true := decide_eq_true c5
      try have c5b2 : (9223372036854775807 < s0_0.size + a1.size) = False := eq_false (Nat.not_lt.2 c5)
      have H' := Aside0.mk H
      clear H
      obtain ⟨HGz6, hgz6⟩ := HI0.out
      have hcz6_0 := cellX_0 HGz6
      have hcz6_1 := cellX_1 HGz6
      have hfz6_0 := blk_frozen HGz6 0
      have hfz6_1 := blk_frozen HGz6 1
      clear HGz6 hgz6
      go_enter Try.func14, Try.ntmps14
      go_wp2
      repeat (go_quiet (fail); try go_wp2)
      go_loopg [5] k (fun kq v5 w' => ∃ (x5_1 : List (S44)) (x1000_1 : ByteArray) (x1001_1 : Bool), Aside0 (stopcockref09_Reader_Feed.l0 kq x5_1 x1000_1 x1001_1 = some (r1, r2, r3)) ∧ Aside0 (kq ≤ k) ∧ Aside0 (Kd.R k44 44 w' w.heap.size (fun _ => True) v5 x5_1) ∧ Aside0 (IsX Z w0 w' g x1000_1 x1001_1) ∧ Aside0 (KeepBut w w' g none) ∧ Aside0 (Below w0.heap.size w0 w'))
      case atStart => exact ⟨(([] : List (S44))), (s0_0 ++ a1), (false), H', ⟨Nat.le_refl _⟩, ⟨by first | exact Kd.R_nil _ _ _ _ _ | exact Kd.N_nil _ _ _ _ _ | exact Kd.V_nil _ _ _ _ _ | exact Kd.Q_nil _ _ _ _ _ | exact Kd.S_nil _ _ _ _ _⟩, ⟨by repeat (first | (with_reducible first | exact HI0.out | apply IsX.alloc | apply IsX.drewN | apply IsX.drew | apply IsX.set_0 | apply IsX.set_1) | exact HI0.out)⟩, ⟨by repeat (first | (with_reducible first | exact HK.out | apply KeepBut.set_ | apply keep_drewN | apply keep_drew | apply keep_alloc) | exact HK.out)⟩, ⟨by repeat (first | (with_reducible first | exact HB.out | apply below_alloc | apply pw_below_drewN | apply below_drew1 | refine below_set ?_ (IsX.ge HI0.out)) | exact HB.out)⟩⟩
      case round =>
        clear H'
        try clear c1
        try clear p2
        try clear c3
        try clear c5
        try clear c5b0
        try clear c5b1
        try clear c5b2
        try clear hcz4_0
        try clear hcz4_1
        try clear hcz6_0
        try clear hcz6_1
        try clear hfz4_0
        try clear hfz4_1
        try clear hfz6_0
        try clear hfz6_1
        obtain ⟨x5_1, x1000_1, x1001_1, HA, HK1, HO_5, HI0, HK, HB⟩ := hrel
        cases gk with
        | zero => exact absurd HA.out (by simp [stopcockref09_Reader_Feed.l0])
        | succ k1 =>
          have H := HA.out
          clear HA
          simp only [stopcockref09_Reader_Feed.l0] at H
          by_cases c7 : x1000_1.toList = ([] : List UInt8)
          · rw [if_pos c7] at H
            have c7b0 : (x1000_1.toList == ([] : List UInt8)) = true := beq_iff_eq.mpr c7
            have c7b1 : (x1000_1.toList != ([] : List UInt8)) = false := bne_eq_false_iff_eq.mpr c7
            clear c7
            simp only [Option.some.injEq, Prod.mk.injEq] at H
            obtain ⟨rfl, rfl, rfl⟩ := H
            obtain ⟨HGz8, hgz8⟩ := HI0.out
            have hcz8_0 := cellX_0 HGz8
            have hcz8_1 := cellX_1 HGz8
            have hfz8_0 := blk_frozen HGz8 0
            have hfz8_1 := blk_frozen HGz8 1
            clear HGz8 hgz8
            go_wp2
            repeat (go_quiet (fail); try go_wp2)
            go_ret
            exact ⟨_, by first | rfl | (simp [errW_none, errW_some] <;> rfl) | (simp [*, errW_none, errW_some] <;> rfl), by (with_reducible repeat (first | apply Kd.R_alloc | apply Kd.R_drewN | apply Kd.R_drew)); exact HO_5.out, by repeat (first | (with_reducible first | exact HI0.out | apply IsX.alloc | apply IsX.drewN | apply IsX.drew | apply IsX.set_0 | apply IsX.set_1) | exact HI0.out), by repeat (first | (with_reducible first | exact HB.out | apply below_alloc | apply pw_below_drewN | apply below_drew1 | refine below_set ?_ (IsX.ge HI0.out)) | exact HB.out), by repeat (first | (with_reducible first | exact HK.out | apply KeepBut.set_ | apply keep_drewN | apply keep_drew | apply keep_alloc) | exact HK.out)⟩
          · rw [if_neg c7] at H
            have c7b0 : (x1000_1.toList == ([] : List UInt8)) = false := beq_eq_false_iff_ne.mpr c7
            have c7b1 : (x1000_1.toList != ([] : List UInt8)) = true := bne_iff_ne.mpr c7
            by_cases c9 : 0 < (x1000_1.size : Int)
            · rw [if_pos c9] at H
              have c9b0 : decide (0 < (x1000_1.size : Int)) = true := decide_eq_true c9
              have c9b1 : decide (0 < x1000_1.size) = true := decide_eq_true (by omega)
              clear c9
              have HC11 := Aside0.mk H
              clear H
              obtain ⟨HGz12, hgz12⟩ := HI0.out
              have hcz12_0 := cellX_0 HGz12
              have hcz12_1 := cellX_1 HGz12
              have hfz12_0 := blk_frozen HGz12 0
              have hfz12_1 := blk_frozen HGz12 1
              clear HGz12 hgz12
              have p10 : 0 ≤ (0 : Int) := (by omega)
              have q10 : 0 < x1000_1.size := (by have : (0 : Int) < (x1000_1.size : Int) := of_decide_eq_true (by first | (with_reducible assumption) | assumption); omega)
              have hx10 : ∀ h : 0 < x1000_1.size, ((x1000_1[0]'h).toNat : Int) = bt x1000_1 0 := bt_at x1000_1 0
              clear p10
              have qi10 : (0 < (x1000_1.size : Int)) = True := eq_true (of_decide_eq_true (by first | (with_reducible assumption) | assumption))
              replace q10 := eq_true q10
              go_upto_region 7 with (fail)
              repeat (go_quiet (fail); go_upto_region 7 with (fail))
              go_cut [35] (fun v35 wc => ∃ (kq : Nat) (x35_10 : Bool), v35 = .bool x35_10 ∧ Aside0 (stopcockref09_Reader_Feed.j1 kq x5_1 (bt x1000_1 0) x35_10 x1000_1 x1001_1 = some (r1, r2, r3)) ∧ Aside0 (kq ≤ k1) ∧ Aside0 (Kd.R k44 44 wc w.heap.size (fun _ => True) u5 x5_1) ∧ Aside0 (IsX Z w0 wc g x1000_1 x1001_1) ∧ Aside0 (KeepBut w wc g none) ∧ Aside0 (Below w0.heap.size w0 wc))
              case first =>
                have H := HC11.out
                clear HC11
                by_cases c13 : (bt x1000_1 0) = 66
                · rw [if_pos c13] at H
                  have c13b0 : ((bt x1000_1 0) == 66) = true := beq_iff_eq.mpr c13
                  have c13b1 : ((bt x1000_1 0) != 66) = false := bne_eq_false_iff_eq.mpr c13
                  clear c13
                  (first | rw [c13b0] | (simp only [i64_w, i32_w]; rw [c13b0]) | skip)
                  have H' := Aside0.mk H
                  clear H
                  go_wp2
                  repeat (go_quiet (fail); try go_wp2)
                  go_meet
                  case rel => exact ⟨_, (true), (by first | rfl | (simp; done) | (simp [*]; done)), H', ⟨by have := HK1.out; first | omega | exact Nat.le_refl _⟩, ⟨by (with_reducible repeat (first | apply Kd.R_alloc | apply Kd.R_drewN | apply Kd.R_drew)); exact HO_5.out⟩, ⟨by repeat (first | (with_reducible first | exact HI0.out | apply IsX.alloc | apply IsX.drewN | apply IsX.drew | apply IsX.set_0 | apply IsX.set_1) | exact HI0.out)⟩, ⟨by repeat (first | (with_reducible first | exact HK.out | apply KeepBut.set_ | apply keep_drewN | apply keep_drew | apply keep_alloc) | exact HK.out)⟩, ⟨by repeat (first | (with_reducible first | exact HB.out | apply below_alloc | apply pw_below_drewN | apply below_drew1 | refine below_set ?_ (IsX.ge HI0.out)) | exact HB.out)⟩⟩
                · rw [if_neg c13] at H
                  have c13b0 : ((bt x1000_1 0) == 66) = false := beq_eq_false_iff_ne.mpr c13
                  have c13b1 : ((bt x1000_1 0) != 66) = true := bne_iff_ne.mpr c13
                  (first | rw [c13b0] | (simp only [i64_w, i32_w]; rw [c13b0]) | skip)
                  have H' := Aside0.mk H
                  clear H
                  go_wp2
                  repeat (go_quiet (fail); try go_wp2)
                  go_meet
                  case rel => exact ⟨_, (((bt x1000_1 0) == 69)), (by first | rfl | (simp; done) | (simp [*]; done)), H', ⟨by have := HK1.out; first | omega | exact Nat.le_refl _⟩, ⟨by (with_reducible repeat (first | apply Kd.R_alloc | apply Kd.R_drewN | apply Kd.R_drew)); exact HO_5.out⟩, ⟨by repeat (first | (with_reducible first | exact HI0.out | apply IsX.alloc | apply IsX.drewN | apply IsX.drew | apply IsX.set_0 | apply IsX.set_1) | exact HI0.out)⟩, ⟨by repeat (first | (with_reducible first | exact HK.out | apply KeepBut.set_ | apply keep_drewN | apply keep_drew | apply keep_alloc) | exact HK.out)⟩, ⟨by repeat (first | (with_reducible first | exact HB.out | apply below_alloc | apply pw_below_drewN | apply below_drew1 | refine below_set ?_ (IsX.ge HI0.out)) | exact HB.out)⟩⟩
              case rest =>
                clear HC11
                try clear c1
                try clear p1
                try clear q1
                try clear hx1
                try clear qi1
                try clear p2
                try clear c3
                try clear c5
                try clear c5b0
                try clear c5b1
                try clear c5b2
                try clear c7
                try clear c7b0
                try clear c7b1
                try clear c9
                try clear c9b0
                try clear c9b1
                try clear p10
                try clear q10
                try clear hx10
                try clear qi10
                try clear c13
                try clear c13b0
                try clear c13b1
                try clear hcz12_0
                try clear hcz12_1
                try clear hcz4_0
                try clear hcz4_1
                try clear hcz6_0
                try clear hcz6_1
                try clear hcz8_0
                try clear hcz8_1
                try clear hfz12_0
                try clear hfz12_1
                try clear hfz4_0
                try clear hfz4_1
                try clear hfz6_0
                try clear hfz6_1
                try clear hfz8_0
                try clear hfz8_1
                try clear p10
                try clear p2
                try clear q10
                obtain ⟨kq, x35_10, rfl, HA, HJ10, HO_5, HI0, HK, HB⟩ := hcut
                cases kq with
                | zero => exact absurd HA.out (by simp [stopcockref09_Reader_Feed.j1])
                | succ kj10 =>
                  have H := HA.out
                  clear HA
                  simp only [stopcockref09_Reader_Feed.j1] at H
                  by_cases c14 : x35_10 = true
                  · subst c14
                    have H1 : (if x5_1.length < 5864062014805 then (if 1 ≤ (x1000_1.size : Int) then (stopcockref09_Reader_Feed.l0 kj10 (x5_1 ++ [(⟨(bt x1000_1 0), (⟨#[]⟩ : ByteArray)⟩ : S44)]) (x1000_1.extract 1 x1000_1.size) x1001_1) else (none)) else (none)) = some (r1, r2, r3) := by rw [if_pos rfl] at H; exact H
                    clear H
                    have H := H1
                    clear H1
                    by_cases c15 : x5_1.length < 5864062014805
                    · rw [if_pos c15] at H
                      have LMc15 := Aside0.mk c15
                      clear c15
                      obtain ⟨y112, hy112⟩ : ∃ y_ : List (S44), y_ = (x5_1 ++ [(⟨(bt x1000_1 0), (⟨#[]⟩ : ByteArray)⟩ : S44)]) := ⟨_, rfl⟩
                      replace H : (if 1 ≤ (x1000_1.size : Int) then (stopcockref09_Reader_Feed.l0 kj10 y112 (x1000_1.extract 1 x1000_1.size) x1001_1) else (none)) = some (r1, r2, r3) := by first | (rw [hy112]; with_reducible exact H) | (have H2_ := (Option.bind_some _ _).symm.trans H; rw [hy112]; with_reducible exact H2_) | (have H2_ := (Option.bind_some _ _).symm.trans H; with_reducible exact H2_) | with_reducible exact H | (rw [hy112]; exact H) | exact H
                      have Ny112 := Aside0.mk hy112
                      clear hy112
                      by_cases c16 : 1 ≤ (x1000_1.size : Int)
                      · rw [if_pos c16] at H
                        have c16b0 := eq_true c16
                        have c16b1 : decide (1 ≤ (x1000_1.size : Int)) = true := decide_eq_true c16
                        clear c16
                        have H' := Aside0.mk H
                        clear H
                        go_wp2_with (first | ((with_reducible refine gate_builtin (b := .append) (xs := #[.tmp 36, .tmp 39]) rfl ?_); (try (refine gate_guard (by rfl) ?_; dsimp only)); at_builtin; refine Kd.R_append k44 w.heap.size rfl (.tmp 36) (.tmp 39) 22 44 (.agg #[(.int .u8 0), (.string ⟨#[]⟩)]) 24 rfl Try.underlying22 info44 rfl (by decide) (by omega) u5 x5_1 (⟨(bt x1000_1 0), (⟨#[]⟩ : ByteArray)⟩ : S44) [.int .u8 (bt x1000_1 0), .string (⟨#[]⟩ : ByteArray)] (fun _ => True) (fun _ => False) rfl rfl ?aP (fun _ hk => hk.elim) ?aF ?aO (Below.refl _ _) ?aS ?aL ?_; (case aP => exact k44_mkM _ _ _ (⟨(bt x1000_1 0), (⟨#[]⟩ : ByteArray)⟩ : S44)); (case aF => exact (fun _ _ => trivial)); (case aO => exact (by (with_reducible repeat (first | apply Kd.R_alloc | apply Kd.R_drewN | apply Kd.R_drew)); exact HO_5.out)); (case aS => exact (keep_size (w := w) (g := g) (row := none) (by repeat (first | (with_reducible first | exact HK.out | apply KeepBut.set_ | apply keep_drewN | apply keep_drew | apply keep_alloc) | exact HK.out)))); (case aL => have := LMc15.out; omega); intro v113 w17 ho hb hg hat; rw [← Ny112.out] at ho; have n0_ := Aside0.mk (IsX.grown (by repeat (first | (with_reducible first | exact HI0.out | apply IsX.alloc | apply IsX.drewN | apply IsX.drew | apply IsX.set_0 | apply IsX.set_1) | exact HI0.out)) hg (IsX.own_ne HI0.out HO_5.out (by decide))); have n1_ := Aside0.mk (below_weaken (by repeat (first | (with_reducible first | exact HB.out | apply below_alloc | apply pw_below_drewN | apply below_drew1 | refine below_set ?_ (IsX.ge HI0.out)) | exact HB.out)) HL.out hb); have n2_ := Aside0.mk (KeepBut.trans (by repeat (first | (with_reducible first | exact HK.out | apply KeepBut.set_ | apply keep_drewN | apply keep_drew | apply keep_alloc) | exact HK.out)) (KeepBut.of_grown hg g) (Kd.R_base2 HO_5.out)); have n3_ := Aside0.mk (ho); clear HI0; clear HB; clear HK; clear HO_5; have HI0 := n0_; have HB := n1_; have HK := n2_; have HO114 := n3_; clear n0_ n1_ n2_ n3_; clear ho hb hg hat; obtain ⟨HGz18, hgz18⟩ := HI0.out; have hcz18_0 := cellX_0 HGz18; have hcz18_1 := cellX_1 HGz18; have hfz18_0 := blk_frozen HGz18 0; have hfz18_1 := blk_frozen HGz18 1; clear HGz18 hgz18))
                        repeat (go_quiet (first | ((with_reducible refine gate_builtin (b := .append) (xs := #[.tmp 36, .tmp 39]) rfl ?_); (try (refine gate_guard (by rfl) ?_; dsimp only)); at_builtin; refine Kd.R_append k44 w.heap.size rfl (.tmp 36) (.tmp 39) 22 44 (.agg #[(.int .u8 0), (.string ⟨#[]⟩)]) 24 rfl Try.underlying22 info44 rfl (by decide) (by omega) u5 x5_1 (⟨(bt x1000_1 0), (⟨#[]⟩ : ByteArray)⟩ : S44) [.int .u8 (bt x1000_1 0), .string (⟨#[]⟩ : ByteArray)] (fun _ => True) (fun _ => False) rfl rfl ?aP (fun _ hk => hk.elim) ?aF ?aO (Below.refl _ _) ?aS ?aL ?_; (case aP => exact k44_mkM _ _ _ (⟨(bt x1000_1 0), (⟨#[]⟩ : ByteArray)⟩ : S44)); (case aF => exact (fun _ _ => trivial)); (case aO => exact (by (with_reducible repeat (first | apply Kd.R_alloc | apply Kd.R_drewN | apply Kd.R_drew)); exact HO_5.out)); (case aS => exact (keep_size (w := w) (g := g) (row := none) (by repeat (first | (with_reducible first | exact HK.out | apply KeepBut.set_ | apply keep_drewN | apply keep_drew | apply keep_alloc) | exact HK.out)))); (case aL => have := LMc15.out; omega); intro v113 w17 ho hb hg hat; rw [← Ny112.out] at ho; have n0_ := Aside0.mk (IsX.grown (by repeat (first | (with_reducible first | exact HI0.out | apply IsX.alloc | apply IsX.drewN | apply IsX.drew | apply IsX.set_0 | apply IsX.set_1) | exact HI0.out)) hg (IsX.own_ne HI0.out HO_5.out (by decide))); have n1_ := Aside0.mk (below_weaken (by repeat (first | (with_reducible first | exact HB.out | apply below_alloc | apply pw_below_drewN | apply below_drew1 | refine below_set ?_ (IsX.ge HI0.out)) | exact HB.out)) HL.out hb); have n2_ := Aside0.mk (KeepBut.trans (by repeat (first | (with_reducible first | exact HK.out | apply KeepBut.set_ | apply keep_drewN | apply keep_drew | apply keep_alloc) | exact HK.out)) (KeepBut.of_grown hg g) (Kd.R_base2 HO_5.out)); have n3_ := Aside0.mk (ho); clear HI0; clear HB; clear HK; clear HO_5; have HI0 := n0_; have HB := n1_; have HK := n2_; have HO114 := n3_; clear n0_ n1_ n2_ n3_; clear ho hb hg hat; obtain ⟨HGz18, hgz18⟩ := HI0.out; have hcz18_0 := cellX_0 HGz18; have hcz18_1 := cellX_1 HGz18; have hfz18_0 := blk_frozen HGz18 0; have hfz18_1 := blk_frozen HGz18 1; clear HGz18 hgz18)); try go_wp2_with (first | ((with_reducible refine gate_builtin (b := .append) (xs := #[.tmp 36, .tmp 39]) rfl ?_); (try (refine gate_guard (by rfl) ?_; dsimp only)); at_builtin; refine Kd.R_append k44 w.heap.size rfl (.tmp 36) (.tmp 39) 22 44 (.agg #[(.int .u8 0), (.string ⟨#[]⟩)]) 24 rfl Try.underlying22 info44 rfl (by decide) (by omega) u5 x5_1 (⟨(bt x1000_1 0), (⟨#[]⟩ : ByteArray)⟩ : S44) [.int .u8 (bt x1000_1 0), .string (⟨#[]⟩ : ByteArray)] (fun _ => True) (fun _ => False) rfl rfl ?aP (fun _ hk => hk.elim) ?aF ?aO (Below.refl _ _) ?aS ?aL ?_; (case aP => exact k44_mkM _ _ _ (⟨(bt x1000_1 0), (⟨#[]⟩ : ByteArray)⟩ : S44)); (case aF => exact (fun _ _ => trivial)); (case aO => exact (by (with_reducible repeat (first | apply Kd.R_alloc | apply Kd.R_drewN | apply Kd.R_drew)); exact HO_5.out)); (case aS => exact (keep_size (w := w) (g := g) (row := none) (by repeat (first | (with_reducible first | exact HK.out | apply KeepBut.set_ | apply keep_drewN | apply keep_drew | apply keep_alloc) | exact HK.out)))); (case aL => have := LMc15.out; omega); intro v113 w17 ho hb hg hat; rw [← Ny112.out] at ho; have n0_ := Aside0.mk (IsX.grown (by repeat (first | (with_reducible first | exact HI0.out | apply IsX.alloc | apply IsX.drewN | apply IsX.drew | apply IsX.set_0 | apply IsX.set_1) | exact HI0.out)) hg (IsX.own_ne HI0.out HO_5.out (by decide))); have n1_ := Aside0.mk (below_weaken (by repeat (first | (with_reducible first | exact HB.out | apply below_alloc | apply pw_below_drewN | apply below_drew1 | refine below_set ?_ (IsX.ge HI0.out)) | exact HB.out)) HL.out hb); have n2_ := Aside0.mk (KeepBut.trans (by repeat (first | (with_reducible first | exact HK.out | apply KeepBut.set_ | apply keep_drewN | apply keep_drew | apply keep_alloc) | exact HK.out)) (KeepBut.of_grown hg g) (Kd.R_base2 HO_5.out)); have n3_ := Aside0.mk (ho); clear HI0; clear HB; clear HK; clear HO_5; have HI0 := n0_; have HB := n1_; have HK := n2_; have HO114 := n3_; clear n0_ n1_ n2_ n3_; clear ho hb hg hat; obtain ⟨HGz18, hgz18⟩ := HI0.out; have hcz18_0 := cellX_0 HGz18; have hcz18_1 := cellX_1 HGz18; have hfz18_0 := blk_frozen HGz18 0; have hfz18_1 := blk_frozen HGz18 1; clear HGz18 hgz18)))
                        go_roundg kj10
                        case measure => have := HK1.out; have := HJ10.out; omega
                        case rel => exact ⟨(y112), (x1000_1.extract 1 x1000_1.size), (x1001_1), H', ⟨by have := HK1.out; have := HJ10.out; omega⟩, ⟨by (with_reducible repeat (first | apply Kd.R_alloc | apply Kd.R_drewN | apply Kd.R_drew)); exact Kd.R_mono (Kd.R_far (p := ⟨g, 0, none⟩) (IsX.apart HI0.out HO114.out (by decide)) (fun _ hk => hk.2) (.string (x1000_1.extract 1 x1000_1.size))) (fun _ hk => trivial)⟩, ⟨by repeat (first | (with_reducible first | exact HI0.out | apply IsX.alloc | apply IsX.drewN | apply IsX.drew | apply IsX.set_0 | apply IsX.set_1) | exact HI0.out)⟩, ⟨by repeat (first | (with_reducible first | exact HK.out | apply KeepBut.set_ | apply keep_drewN | apply keep_drew | apply keep_alloc) | exact HK.out)⟩, ⟨by repeat (first | (with_reducible first | exact HB.out | apply below_alloc | apply pw_below_drewN | apply below_drew1 | refine below_set ?_ (IsX.ge HI0.out)) | exact HB.out)⟩⟩
                      · rw [if_neg c16] at H
                        exact absurd H (by simp)
                    · rw [if_neg c15] at H
                      exact absurd H (by simp)
                  · replace c14 := Bool.eq_false_iff.mpr c14
                    subst c14
                    have H1 : (if (bt x1000_1 0) = 81 then (if (x1000_1.size : Int) > 1 then (if 1 < (x1000_1.size : Int) then (stopcockref09_Reader_Feed.j2 kj10 x5_1 (decide ((bt x1000_1 1) > 48)) x1000_1 x1001_1) else (none)) else (stopcockref09_Reader_Feed.j2 kj10 x5_1 false x1000_1 x1001_1)) else (stopcockref09_Reader_Feed.j2 kj10 x5_1 true x1000_1 x1001_1)) = some (r1, r2, r3) := by rw [if_neg (show ¬ (false = true) by decide)] at H; exact H
                    clear H
                    have H := H1
                    clear H1
                    have HC19 := Aside0.mk H
                    clear H
                    go_upto_region 10 with (fail)
                    repeat (go_quiet (fail); go_upto_region 10 with (fail))
                    go_cut [66] (fun v66 wc => ∃ (kq : Nat) (x66_18 : Bool), v66 = .bool x66_18 ∧ Aside0 (stopcockref09_Reader_Feed.j2 kq x5_1 x66_18 x1000_1 x1001_1 = some (r1, r2, r3)) ∧ Aside0 (kq ≤ kj10) ∧ Aside0 (Kd.R k44 44 wc w.heap.size (fun _ => True) u5 x5_1) ∧ Aside0 (IsX Z w0 wc g x1000_1 x1001_1) ∧ Aside0 (KeepBut w wc g none) ∧ Aside0 (Below w0.heap.size w0 wc))
                    case first =>
                      have H := HC19.out
                      clear HC19
                      by_cases c20 : (bt x1000_1 0) = 81
                      · rw [if_pos c20] at H
                        have c20b0 : ((bt x1000_1 0) == 81) = true := beq_iff_eq.mpr c20
                        have c20b1 : ((bt x1000_1 0) != 81) = false := bne_eq_false_iff_eq.mpr c20
                        clear c20
                        (first | rw [c20b0] | (simp only [i64_w, i32_w]; rw [c20b0]) | skip)
                        by_cases c21 : (x1000_1.size : Int) > 1
                        · rw [if_pos c21] at H
                          have c21b0 : decide (1 < (x1000_1.size : Int)) = true := decide_eq_true c21
                          have c21b1 : decide (1 < x1000_1.size) = true := decide_eq_true (by omega)
                          clear c21
                          by_cases c22 : 1 < (x1000_1.size : Int)
                          · rw [if_pos c22] at H
                            have c22b0 : decide (1 < (x1000_1.size : Int)) = true := decide_eq_true c22
                            have c22b1 : decide (1 < x1000_1.size) = true := decide_eq_true (by omega)
                            clear c22
                            have H' := Aside0.mk H
                            clear H
                            obtain ⟨HGz24, hgz24⟩ := HI0.out
                            have hcz24_0 := cellX_0 HGz24
                            have hcz24_1 := cellX_1 HGz24
                            have hfz24_0 := blk_frozen HGz24 0
                            have hfz24_1 := blk_frozen HGz24 1
                            clear HGz24 hgz24
                            have p23 : 0 ≤ (1 : Int) := (by omega)
                            have q23 : 1 < x1000_1.size := (by have : (1 : Int) < (x1000_1.size : Int) := of_decide_eq_true (by first | (with_reducible assumption) | assumption); omega)
                            have hx23 : ∀ h : 1 < x1000_1.size, ((x1000_1[1]'h).toNat : Int) = bt x1000_1 1 := bt_at x1000_1 1
                            clear p23
                            have qi23 : (1 < (x1000_1.size : Int)) = True := eq_true (of_decide_eq_true (by first | (with_reducible assumption) | assumption))
                            replace q23 := eq_true q23
                            go_wp2
                            repeat (go_quiet (fail); try go_wp2)
                            go_meet
                            case rel => exact ⟨_, (decide ((bt x1000_1 1) > 48)), (by first | rfl | (simp; done) | (simp [*]; done)), H', ⟨by have := HK1.out; have := HJ10.out; first | omega | exact Nat.le_refl _⟩, ⟨by (with_reducible repeat (first | apply Kd.R_alloc | apply Kd.R_drewN | apply Kd.R_drew)); exact HO_5.out⟩, ⟨by repeat (first | (with_reducible first | exact HI0.out | apply IsX.alloc | apply IsX.drewN | apply IsX.drew | apply IsX.set_0 | apply IsX.set_1) | exact HI0.out)⟩, ⟨by repeat (first | (with_reducible first | exact HK.out | apply KeepBut.set_ | apply keep_drewN | apply keep_drew | apply keep_alloc) | exact HK.out)⟩, ⟨by repeat (first | (with_reducible first | exact HB.out | apply below_alloc | apply pw_below_drewN | apply below_drew1 | refine below_set ?_ (IsX.ge HI0.out)) | exact HB.out)⟩⟩
                          · rw [if_neg c22] at H
                            exact absurd H (by simp)
                        · rw [if_neg c21] at H
                          have c21b0 : decide (1 < (x1000_1.size : Int)) = false := decide_eq_false c21
                          have c21b1 : decide (1 < x1000_1.size) = false := decide_eq_false (by omega)
                          clear c21
                          have H' := Aside0.mk H
                          clear H
                          obtain ⟨HGz25, hgz25⟩ := HI0.out
                          have hcz25_0 := cellX_0 HGz25
                          have hcz25_1 := cellX_1 HGz25
                          have hfz25_0 := blk_frozen HGz25 0
                          have hfz25_1 := blk_frozen HGz25 1
                          clear HGz25 hgz25
                          go_wp2
                          repeat (go_quiet (fail); try go_wp2)
                          go_meet
                          case rel => exact ⟨_, (false), (by first | rfl | (simp; done) | (simp [*]; done)), H', ⟨by have := HK1.out; have := HJ10.out; first | omega | exact Nat.le_refl _⟩, ⟨by (with_reducible repeat (first | apply Kd.R_alloc | apply Kd.R_drewN | apply Kd.R_drew)); exact HO_5.out⟩, ⟨by repeat (first | (with_reducible first | exact HI0.out | apply IsX.alloc | apply IsX.drewN | apply IsX.drew | apply IsX.set_0 | apply IsX.set_1) | exact HI0.out)⟩, ⟨by repeat (first | (with_reducible first | exact HK.out | apply KeepBut.set_ | apply keep_drewN | apply keep_drew | apply keep_alloc) | exact HK.out)⟩, ⟨by repeat (first | (with_reducible first | exact HB.out | apply below_alloc | apply pw_below_drewN | apply below_drew1 | refine below_set ?_ (IsX.ge HI0.out)) | exact HB.out)⟩⟩
                      · rw [if_neg c20] at H
                        have c20b0 : ((bt x1000_1 0) == 81) = false := beq_eq_false_iff_ne.mpr c20
                        have c20b1 : ((bt x1000_1 0) != 81) = true := bne_iff_ne.mpr c20
                        (first | rw [c20b0] | (simp only [i64_w, i32_w]; rw [c20b0]) | skip)
                        have H' := Aside0.mk H
                        clear H
                        go_wp2
                        repeat (go_quiet (fail); try go_wp2)
                        go_meet
                        case rel => exact ⟨_, (true), (by first | rfl | (simp; done) | (simp [*]; done)), H', ⟨by have := HK1.out; have := HJ10.out; first | omega | exact Nat.le_refl _⟩, ⟨by (with_reducible repeat (first | apply Kd.R_alloc | apply Kd.R_drewN | apply Kd.R_drew)); exact HO_5.out⟩, ⟨by repeat (first | (with_reducible first | exact HI0.out | apply IsX.alloc | apply IsX.drewN | apply IsX.drew | apply IsX.set_0 | apply IsX.set_1) | exact HI0.out)⟩, ⟨by repeat (first | (with_reducible first | exact HK.out | apply KeepBut.set_ | apply keep_drewN | apply keep_drew | apply keep_alloc) | exact HK.out)⟩, ⟨by repeat (first | (with_reducible first | exact HB.out | apply below_alloc | apply pw_below_drewN | apply below_drew1 | refine below_set ?_ (IsX.ge HI0.out)) | exact HB.out)⟩⟩
                    case rest =>
                      clear HC19
                      try clear c1
                      try clear p1
                      try clear q1
                      try clear hx1
                      try clear qi1
                      try clear c2
                      try clear p2
                      try clear q2
                      try clear hx2
                      try clear qi2
                      try clear c3
                      try clear c5
                      try clear c5b0
                      try clear c5b1
                      try clear c5b2
                      try clear c7
                      try clear c7b0
                      try clear c7b1
                      try clear c9
                      try clear c9b0
                      try clear c9b1
                      try clear p10
                      try clear q10
                      try clear hx10
                      try clear qi10
                      try clear c13
                      try clear c13b0
                      try clear c13b1
                      try clear c14
                      try clear c15
                      try clear c16
                      try clear c16b0
                      try clear c16b1
                      try clear c20
                      try clear c20b0
                      try clear c20b1
                      try clear c21
                      try clear c21b0
                      try clear c21b1
                      try clear c22
                      try clear c22b0
                      try clear c22b1
                      try clear p23
                      try clear q23
                      try clear hx23
                      try clear qi23
                      try clear hcz12_0
                      try clear hcz12_1
                      try clear hcz18_0
                      try clear hcz18_1
                      try clear hcz24_0
                      try clear hcz24_1
                      try clear hcz25_0
                      try clear hcz25_1
                      try clear hcz4_0
                      try clear hcz4_1
                      try clear hcz6_0
                      try clear hcz6_1
                      try clear hcz8_0
                      try clear hcz8_1
                      try clear hfz12_0
                      try clear hfz12_1
                      try clear hfz18_0
                      try clear hfz18_1
                      try clear hfz24_0
                      try clear hfz24_1
                      try clear hfz25_0
                      try clear hfz25_1
                      try clear hfz4_0
                      try clear hfz4_1
                      try clear hfz6_0
                      try clear hfz6_1
                      try clear hfz8_0
                      try clear hfz8_1
                      try clear p1
                      try clear p10
                      try clear p2
                      try clear p23
                      try clear q1
                      try clear q10
                      try clear q23
                      obtain ⟨kq, x66_18, rfl, HA, HJ18, HO_5, HI0, HK, HB⟩ := hcut
                      cases kq with
                      | zero => exact absurd HA.out (by simp [stopcockref09_Reader_Feed.j2])
                      | succ kj18 =>
                        have H := HA.out
                        clear HA
                        simp only [stopcockref09_Reader_Feed.j2] at H
                        by_cases c26 : x66_18 = true
                        · subst c26
                          have H1 : (some (x5_1, (⟨#[]⟩ : ByteArray), true)) = some (r1, r2, r3) := by rw [if_pos rfl] at H; exact H
                          clear H
                          have H := H1
                          clear H1
                          simp only [Option.some.injEq, Prod.mk.injEq] at H
                          obtain ⟨rfl, rfl, rfl⟩ := H
                          obtain ⟨HGz27, hgz27⟩ := HI0.out
                          have hcz27_0 := cellX_0 HGz27
                          have hcz27_1 := cellX_1 HGz27
                          have hfz27_0 := blk_frozen HGz27 0
                          have hfz27_1 := blk_frozen HGz27 1
                          clear HGz27 hgz27
                          go_wp2
                          repeat (go_quiet (fail); try go_wp2)
                          go_ret
                          exact ⟨_, by first | rfl | (simp [errW_none, errW_some] <;> rfl) | (simp [*, errW_none, errW_some] <;> rfl), by (with_reducible repeat (first | apply Kd.R_alloc | apply Kd.R_drewN | apply Kd.R_drew)); exact Kd.R_mono (Kd.R_far (p := ⟨g, 0, none⟩) (Kd.R_far (p := ⟨g, 1, none⟩) (IsX.apart HI0.out HO_5.out (by decide)) (fun _ hk => hk.2) (.bool true)) (fun _ hk => hk.2) (.string (⟨#[]⟩ : ByteArray))) (fun _ hk => trivial), by repeat (first | (with_reducible first | exact HI0.out | apply IsX.alloc | apply IsX.drewN | apply IsX.drew | apply IsX.set_0 | apply IsX.set_1) | exact HI0.out), by repeat (first | (with_reducible first | exact HB.out | apply below_alloc | apply pw_below_drewN | apply below_drew1 | refine below_set ?_ (IsX.ge HI0.out)) | exact HB.out), by repeat (first | (with_reducible first | exact HK.out | apply KeepBut.set_ | apply keep_drewN | apply keep_drew | apply keep_alloc) | exact HK.out)⟩
                        · replace c26 := Bool.eq_false_iff.mpr c26
                          subst c26
                          have H1 : (if (x1000_1.size : Int) < 2 then (some (x5_1, x1000_1, x1001_1)) else (if 1 < (x1000_1.size : Int) then (if (x1000_1.size : Int) < (wrap64 (2 + (wrap64 (bt x1000_1 1)))) then (some (x5_1, x1000_1, x1001_1)) else (if 2 ≤ (wrap64 (2 + (wrap64 (bt x1000_1 1)))) then (if (wrap64 (2 + (wrap64 (bt x1000_1 1)))) ≤ (x1000_1.size : Int) then (if x5_1.length < 5864062014805 then (if 0 ≤ (wrap64 (2 + (wrap64 (bt x1000_1 1)))) then (stopcockref09_Reader_Feed.l0 kj18 (x5_1 ++ [(⟨81, x1000_1.extract 2 ((wrap64 (2 + (wrap64 (bt x1000_1 1)))) : Int).toNat⟩ : S44)]) (x1000_1.extract ((wrap64 (2 + (wrap64 (bt x1000_1 1)))) : Int).toNat x1000_1.size) x1001_1) else (none)) else (none)) else (none)) else (none))) else (none))) = some (r1, r2, r3) := by rw [if_neg (show ¬ (false = true) by decide)] at H; exact H
                          clear H
                          have H := H1
                          clear H1
                          by_cases c28 : (x1000_1.size : Int) < 2
                          · rw [if_pos c28] at H
                            have c28b0 : decide ((x1000_1.size : Int) < 2) = true := decide_eq_true c28
                            have c28b1 : decide (x1000_1.size < 2) = true := decide_eq_true (by omega)
                            clear c28
                            simp only [Option.some.injEq, Prod.mk.injEq] at H
                            obtain ⟨rfl, rfl, rfl⟩ := H
                            obtain ⟨HGz29, hgz29⟩ := HI0.out
                            have hcz29_0 := cellX_0 HGz29
                            have hcz29_1 := cellX_1 HGz29
                            have hfz29_0 := blk_frozen HGz29 0
                            have hfz29_1 := blk_frozen HGz29 1
                            clear HGz29 hgz29
                            go_wp2
                            repeat (go_quiet (fail); try go_wp2)
                            go_ret
                            exact ⟨_, by first | rfl | (simp [errW_none, errW_some] <;> rfl) | (simp [*, errW_none, errW_some] <;> rfl), by (with_reducible repeat (first | apply Kd.R_alloc | apply Kd.R_drewN | apply Kd.R_drew)); exact HO_5.out, by repeat (first | (with_reducible first | exact HI0.out | apply IsX.alloc | apply IsX.drewN | apply IsX.drew | apply IsX.set_0 | apply IsX.set_1) | exact HI0.out), by repeat (first | (with_reducible first | exact HB.out | apply below_alloc | apply pw_below_drewN | apply below_drew1 | refine below_set ?_ (IsX.ge HI0.out)) | exact HB.out), by repeat (first | (with_reducible first | exact HK.out | apply KeepBut.set_ | apply keep_drewN | apply keep_drew | apply keep_alloc) | exact HK.out)⟩
                          · rw [if_neg c28] at H
                            have c28b0 : decide ((x1000_1.size : Int) < 2) = false := decide_eq_false c28
                            have c28b1 : decide (x1000_1.size < 2) = false := decide_eq_false (by omega)
                            clear c28
                            by_cases c30 : 1 < (x1000_1.size : Int)
                            · rw [if_pos c30] at H
                              have c30b0 : decide (1 < (x1000_1.size : Int)) = true := decide_eq_true c30
                              have c30b1 : decide (1 < x1000_1.size) = true := decide_eq_true (by omega)
                              clear c30
                              by_cases c32 : (x1000_1.size : Int) < (wrap64 (2 + (wrap64 (bt x1000_1 1))))
                              · rw [if_pos c32] at H
                                have c32b0 : decide ((x1000_1.size : Int) < (wrap64 (2 + (wrap64 (bt x1000_1 1))))) = true := decide_eq_true c32
                                clear c32
                                simp only [Option.some.injEq, Prod.mk.injEq] at H
                                obtain ⟨rfl, rfl, rfl⟩ := H
                                obtain ⟨HGz33, hgz33⟩ := HI0.out
                                have hcz33_0 := cellX_0 HGz33
                                have hcz33_1 := cellX_1 HGz33
                                have hfz33_0 := blk_frozen HGz33 0
                                have hfz33_1 := blk_frozen HGz33 1
                                clear HGz33 hgz33
                                have p31 : 0 ≤ (1 : Int) := (by omega)
                                have q31 : 1 < x1000_1.size := (by have : (1 : Int) < (x1000_1.size : Int) := of_decide_eq_true (by first | (with_reducible assumption) | assumption); omega)
                                have hx31 : ∀ h : 1 < x1000_1.size, ((x1000_1[1]'h).toNat : Int) = bt x1000_1 1 := bt_at x1000_1 1
                                clear p31
                                have qi31 : (1 < (x1000_1.size : Int)) = True := eq_true (of_decide_eq_true (by first | (with_reducible assumption) | assumption))
                                replace q31 := eq_true q31
                                go_wp2
                                repeat (go_quiet (fail); try go_wp2)
                                go_ret
                                exact ⟨_, by first | rfl | (simp [errW_none, errW_some] <;> rfl) | (simp [*, errW_none, errW_some] <;> rfl), by (with_reducible repeat (first | apply Kd.R_alloc | apply Kd.R_drewN | apply Kd.R_drew)); exact HO_5.out, by repeat (first | (with_reducible first | exact HI0.out | apply IsX.alloc | apply IsX.drewN | apply IsX.drew | apply IsX.set_0 | apply IsX.set_1) | exact HI0.out), by repeat (first | (with_reducible first | exact HB.out | apply below_alloc | apply pw_below_drewN | apply below_drew1 | refine below_set ?_ (IsX.ge HI0.out)) | exact HB.out), by repeat (first | (with_reducible first | exact HK.out | apply KeepBut.set_ | apply keep_drewN | apply keep_drew | apply keep_alloc) | exact HK.out)⟩
                              · rw [if_neg c32] at H
                                have c32b0 : decide ((x1000_1.size : Int) < (wrap64 (2 + (wrap64 (bt x1000_1 1))))) = false := decide_eq_false c32
                                clear c32
                                by_cases c35 : 2 ≤ (wrap64 (2 + (wrap64 (bt x1000_1 1))))
                                · rw [if_pos c35] at H
                                  have c35b0 := eq_true c35
                                  have c35b1 : decide (2 ≤ (wrap64 (2 + (wrap64 (bt x1000_1 1))))) = true := decide_eq_true c35
                                  by_cases c36 : (wrap64 (2 + (wrap64 (bt x1000_1 1)))) ≤ (x1000_1.size : Int)
                                  · rw [if_pos c36] at H
                                    have c36b0 := eq_true c36
                                    have c36b1 : decide ((wrap64 (2 + (wrap64 (bt x1000_1 1)))) ≤ (x1000_1.size : Int)) = true := decide_eq_true c36
                                    by_cases c37 : x5_1.length < 5864062014805
                                    · rw [if_pos c37] at H
                                      have LMc37 := Aside0.mk c37
                                      clear c37
                                      obtain ⟨y115, hy115⟩ : ∃ y_ : List (S44), y_ = (x5_1 ++ [(⟨81, x1000_1.extract 2 ((wrap64 (2 + (wrap64 (bt x1000_1 1)))) : Int).toNat⟩ : S44)]) := ⟨_, rfl⟩
                                      replace H : (if 0 ≤ (wrap64 (2 + (wrap64 (bt x1000_1 1)))) then (stopcockref09_Reader_Feed.l0 kj18 y115 (x1000_1.extract ((wrap64 (2 + (wrap64 (bt x1000_1 1)))) : Int).toNat x1000_1.size) x1001_1) else (none)) = some (r1, r2, r3) := by first | (rw [hy115]; with_reducible exact H) | (have H2_ := (Option.bind_some _ _).symm.trans H; rw [hy115]; with_reducible exact H2_) | (have H2_ := (Option.bind_some _ _).symm.trans H; with_reducible exact H2_) | with_reducible exact H | (rw [hy115]; exact H) | exact H
                                      have Ny115 := Aside0.mk hy115
                                      clear hy115
                                      obtain ⟨ji38, hji38⟩ : ∃ j_ : Int, (wrap64 (2 + (wrap64 (bt x1000_1 1)))) = j_ := ⟨_, rfl⟩
                                      replace H : (if 0 ≤ (ji38) then (stopcockref09_Reader_Feed.l0 kj18 y115 (x1000_1.extract ((ji38) : Int).toNat x1000_1.size) x1001_1) else (none)) = some (r1, r2, r3) := by first | (rw [hji38] at H; exact H) | (simp only [hji38] at H ⊢; exact H)
                                      (try rw [hji38] at c32b0)
                                      (try rw [hji38] at c35b0)
                                      (try rw [hji38] at c35b1)
                                      (try rw [hji38] at c35)
                                      (try rw [hji38] at c36b0)
                                      (try rw [hji38] at c36b1)
                                      (try rw [hji38] at c36)
                                      (try rw [hji38] at Ny115)
                                      have hji38w : (IntKind.i64.wrap (2 + (wrap64 (bt x1000_1 1)))) = ji38 := (i64_w _).trans hji38
                                      by_cases c39 : 0 ≤ (ji38)
                                      · rw [if_pos c39] at H
                                        have c39b0 := eq_true c39
                                        have c39b1 : decide (0 ≤ (ji38)) = true := decide_eq_true c39
                                        clear c39
                                        have c40b0 := eq_true (of_decide_eq_true (by first | (with_reducible assumption) | assumption) : (ji38) ≤ (x1000_1.size : Int))
                                        have H' := Aside0.mk H
                                        clear H
                                        obtain ⟨HGz41, hgz41⟩ := HI0.out
                                        have hcz41_0 := cellX_0 HGz41
                                        have hcz41_1 := cellX_1 HGz41
                                        have hfz41_0 := blk_frozen HGz41 0
                                        have hfz41_1 := blk_frozen HGz41 1
                                        clear HGz41 hgz41
                                        have p31 : 0 ≤ (1 : Int) := (by omega)
                                        have q31 : 1 < x1000_1.size := (by have : (1 : Int) < (x1000_1.size : Int) := of_decide_eq_true (by first | (with_reducible assumption) | assumption); omega)
                                        have hx31 : ∀ h : 1 < x1000_1.size, ((x1000_1[1]'h).toNat : Int) = bt x1000_1 1 := bt_at x1000_1 1
                                        clear p31
                                        have qi31 : (1 < (x1000_1.size : Int)) = True := eq_true (of_decide_eq_true (by first | (with_reducible assumption) | assumption))
                                        replace q31 := eq_true q31
                                        have p34 : 0 ≤ (1 : Int) := (by omega)
                                        have q34 : 1 < x1000_1.size := (by have : (1 : Int) < (x1000_1.size : Int) := of_decide_eq_true (by first | (with_reducible assumption) | assumption); omega)
                                        have hx34 : ∀ h : 1 < x1000_1.size, ((x1000_1[1]'h).toNat : Int) = bt x1000_1 1 := bt_at x1000_1 1
                                        clear p34
                                        have qi34 : (1 < (x1000_1.size : Int)) = True := eq_true (of_decide_eq_true (by first | (with_reducible assumption) | assumption))
                                        replace q34 := eq_true q34
                                        go_wp2_with (first | ((with_reducible refine gate_builtin (b := .append) (xs := #[.tmp 103, .tmp 111]) rfl ?_); (try (refine gate_guard (by rfl) ?_; dsimp only)); at_builtin; refine Kd.R_append k44 w.heap.size rfl (.tmp 103) (.tmp 111) 22 44 (.agg #[(.int .u8 0), (.string ⟨#[]⟩)]) 24 rfl Try.underlying22 info44 rfl (by decide) (by omega) u5 x5_1 (⟨81, x1000_1.extract 2 ((ji38) : Int).toNat⟩ : S44) [.int .u8 81, .string (x1000_1.extract 2 ((ji38) : Int).toNat)] (fun _ => True) (fun _ => False) rfl rfl ?aP (fun _ hk => hk.elim) ?aF ?aO (Below.refl _ _) ?aS ?aL ?_; (case aP => exact k44_mkM _ _ _ (⟨81, x1000_1.extract 2 ((ji38) : Int).toNat⟩ : S44)); (case aF => exact (fun _ _ => trivial)); (case aO => exact (by (with_reducible repeat (first | apply Kd.R_alloc | apply Kd.R_drewN | apply Kd.R_drew)); exact HO_5.out)); (case aS => exact (keep_size (w := w) (g := g) (row := none) (by repeat (first | (with_reducible first | exact HK.out | apply KeepBut.set_ | apply keep_drewN | apply keep_drew | apply keep_alloc) | exact HK.out)))); (case aL => have := LMc37.out; omega); intro v116 w42 ho hb hg hat; rw [← Ny115.out] at ho; have n0_ := Aside0.mk (IsX.grown (by repeat (first | (with_reducible first | exact HI0.out | apply IsX.alloc | apply IsX.drewN | apply IsX.drew | apply IsX.set_0 | apply IsX.set_1) | exact HI0.out)) hg (IsX.own_ne HI0.out HO_5.out (by decide))); have n1_ := Aside0.mk (below_weaken (by repeat (first | (with_reducible first | exact HB.out | apply below_alloc | apply pw_below_drewN | apply below_drew1 | refine below_set ?_ (IsX.ge HI0.out)) | exact HB.out)) HL.out hb); have n2_ := Aside0.mk (KeepBut.trans (by repeat (first | (with_reducible first | exact HK.out | apply KeepBut.set_ | apply keep_drewN | apply keep_drew | apply keep_alloc) | exact HK.out)) (KeepBut.of_grown hg g) (Kd.R_base2 HO_5.out)); have n3_ := Aside0.mk (ho); clear HI0; clear HB; clear HK; clear HO_5; have HI0 := n0_; have HB := n1_; have HK := n2_; have HO117 := n3_; clear n0_ n1_ n2_ n3_; clear ho hb hg hat; obtain ⟨HGz43, hgz43⟩ := HI0.out; have hcz43_0 := cellX_0 HGz43; have hcz43_1 := cellX_1 HGz43; have hfz43_0 := blk_frozen HGz43 0; have hfz43_1 := blk_frozen HGz43 1; clear HGz43 hgz43))
                                        repeat (go_quiet (first | ((with_reducible refine gate_builtin (b := .append) (xs := #[.tmp 103, .tmp 111]) rfl ?_); (try (refine gate_guard (by rfl) ?_; dsimp only)); at_builtin; refine Kd.R_append k44 w.heap.size rfl (.tmp 103) (.tmp 111) 22 44 (.agg #[(.int .u8 0), (.string ⟨#[]⟩)]) 24 rfl Try.underlying22 info44 rfl (by decide) (by omega) u5 x5_1 (⟨81, x1000_1.extract 2 ((ji38) : Int).toNat⟩ : S44) [.int .u8 81, .string (x1000_1.extract 2 ((ji38) : Int).toNat)] (fun _ => True) (fun _ => False) rfl rfl ?aP (fun _ hk => hk.elim) ?aF ?aO (Below.refl _ _) ?aS ?aL ?_; (case aP => exact k44_mkM _ _ _ (⟨81, x1000_1.extract 2 ((ji38) : Int).toNat⟩ : S44)); (case aF => exact (fun _ _ => trivial)); (case aO => exact (by (with_reducible repeat (first | apply Kd.R_alloc | apply Kd.R_drewN | apply Kd.R_drew)); exact HO_5.out)); (case aS => exact (keep_size (w := w) (g := g) (row := none) (by repeat (first | (with_reducible first | exact HK.out | apply KeepBut.set_ | apply keep_drewN | apply keep_drew | apply keep_alloc) | exact HK.out)))); (case aL => have := LMc37.out; omega); intro v116 w42 ho hb hg hat; rw [← Ny115.out] at ho; have n0_ := Aside0.mk (IsX.grown (by repeat (first | (with_reducible first | exact HI0.out | apply IsX.alloc | apply IsX.drewN | apply IsX.drew | apply IsX.set_0 | apply IsX.set_1) | exact HI0.out)) hg (IsX.own_ne HI0.out HO_5.out (by decide))); have n1_ := Aside0.mk (below_weaken (by repeat (first | (with_reducible first | exact HB.out | apply below_alloc | apply pw_below_drewN | apply below_drew1 | refine below_set ?_ (IsX.ge HI0.out)) | exact HB.out)) HL.out hb); have n2_ := Aside0.mk (KeepBut.trans (by repeat (first | (with_reducible first | exact HK.out | apply KeepBut.set_ | apply keep_drewN | apply keep_drew | apply keep_alloc) | exact HK.out)) (KeepBut.of_grown hg g) (Kd.R_base2 HO_5.out)); have n3_ := Aside0.mk (ho); clear HI0; clear HB; clear HK; clear HO_5; have HI0 := n0_; have HB := n1_; have HK := n2_; have HO117 := n3_; clear n0_ n1_ n2_ n3_; clear ho hb hg hat; obtain ⟨HGz43, hgz43⟩ := HI0.out; have hcz43_0 := cellX_0 HGz43; have hcz43_1 := cellX_1 HGz43; have hfz43_0 := blk_frozen HGz43 0; have hfz43_1 := blk_frozen HGz43 1; clear HGz43 hgz43)); try go_wp2_with (first | ((with_reducible refine gate_builtin (b := .append) (xs := #[.tmp 103, .tmp 111]) rfl ?_); (try (refine gate_guard (by rfl) ?_; dsimp only)); at_builtin; refine Kd.R_append k44 w.heap.size rfl (.tmp 103) (.tmp 111) 22 44 (.agg #[(.int .u8 0), (.string ⟨#[]⟩)]) 24 rfl Try.underlying22 info44 rfl (by decide) (by omega) u5 x5_1 (⟨81, x1000_1.extract 2 ((ji38) : Int).toNat⟩ : S44) [.int .u8 81, .string (x1000_1.extract 2 ((ji38) : Int).toNat)] (fun _ => True) (fun _ => False) rfl rfl ?aP (fun _ hk => hk.elim) ?aF ?aO (Below.refl _ _) ?aS ?aL ?_; (case aP => exact k44_mkM _ _ _ (⟨81, x1000_1.extract 2 ((ji38) : Int).toNat⟩ : S44)); (case aF => exact (fun _ _ => trivial)); (case aO => exact (by (with_reducible repeat (first | apply Kd.R_alloc | apply Kd.R_drewN | apply Kd.R_drew)); exact HO_5.out)); (case aS => exact (keep_size (w := w) (g := g) (row := none) (by repeat (first | (with_reducible first | exact HK.out | apply KeepBut.set_ | apply keep_drewN | apply keep_drew | apply keep_alloc) | exact HK.out)))); (case aL => have := LMc37.out; omega); intro v116 w42 ho hb hg hat; rw [← Ny115.out] at ho; have n0_ := Aside0.mk (IsX.grown (by repeat (first | (with_reducible first | exact HI0.out | apply IsX.alloc | apply IsX.drewN | apply IsX.drew | apply IsX.set_0 | apply IsX.set_1) | exact HI0.out)) hg (IsX.own_ne HI0.out HO_5.out (by decide))); have n1_ := Aside0.mk (below_weaken (by repeat (first | (with_reducible first | exact HB.out | apply below_alloc | apply pw_below_drewN | apply below_drew1 | refine below_set ?_ (IsX.ge HI0.out)) | exact HB.out)) HL.out hb); have n2_ := Aside0.mk (KeepBut.trans (by repeat (first | (with_reducible first | exact HK.out | apply KeepBut.set_ | apply keep_drewN | apply keep_drew | apply keep_alloc) | exact HK.out)) (KeepBut.of_grown hg g) (Kd.R_base2 HO_5.out)); have n3_ := Aside0.mk (ho); clear HI0; clear HB; clear HK; clear HO_5; have HI0 := n0_; have HB := n1_; have HK := n2_; have HO117 := n3_; clear n0_ n1_ n2_ n3_; clear ho hb hg hat; obtain ⟨HGz43, hgz43⟩ := HI0.out; have hcz43_0 := cellX_0 HGz43; have hcz43_1 := cellX_1 HGz43; have hfz43_0 := blk_frozen HGz43 0; have hfz43_1 := blk_frozen HGz43 1; clear HGz43 hgz43)))
                                        go_roundg kj18
                                        case measure => have := HK1.out; have := HJ10.out; have := HJ18.out; omega
                                        case rel => exact ⟨(y115), (x1000_1.extract ((ji38) : Int).toNat x1000_1.size), (x1001_1), H', ⟨by have := HK1.out; have := HJ10.out; have := HJ18.out; omega⟩, ⟨by (with_reducible repeat (first | apply Kd.R_alloc | apply Kd.R_drewN | apply Kd.R_drew)); exact Kd.R_mono (Kd.R_far (p := ⟨g, 0, none⟩) (IsX.apart HI0.out HO117.out (by decide)) (fun _ hk => hk.2) (.string (x1000_1.extract ((ji38) : Int).toNat x1000_1.size))) (fun _ hk => trivial)⟩, ⟨by repeat (first | (with_reducible first | exact HI0.out | apply IsX.alloc | apply IsX.drewN | apply IsX.drew | apply IsX.set_0 | apply IsX.set_1) | exact HI0.out)⟩, ⟨by repeat (first | (with_reducible first | exact HK.out | apply KeepBut.set_ | apply keep_drewN | apply keep_drew | apply keep_alloc) | exact HK.out)⟩, ⟨by repeat (first | (with_reducible first | exact HB.out | apply below_alloc | apply pw_below_drewN | apply below_drew1 | refine below_set ?_ (IsX.ge HI0.out)) | exact HB.out)⟩⟩
                                      · rw [if_neg c39] at H
                                        exact absurd H (by simp)
                                    · rw [if_neg c37] at H
                                      exact absurd H (by simp)
                                  · rw [if_neg c36] at H
                                    exact absurd H (by simp)
                                · rw [if_neg c35] at H
                                  exact absurd H (by simp)
                            · rw [if_neg c30] at H
                              exact absurd H (by simp)
            · rw [if_neg c9] at H
              exact absurd H (by simp)
    · rw [if_neg c5] at H
      exact absurd H (by simp)

-- NOT PRINTED: function 20 (mux_Sess_Turn)

-- NOT PRINTED: function 23 (mux_Sess_Lost)

-- NOT PRINTED: function 15 (stopcocklaw19_serve)

-- NOT PRINTED: function 4 (stopcocklaw19_MuxOnce)

end Go.Proofs.Ythjjblnkaikmlaa.Mx
