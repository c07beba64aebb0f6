/- The law NetGoes' function, walked. -/
import Derived.Test.YtpnbeifbapcmdaaNtF
import Derived.Deep.RegionLawGrows
import Derived.Handy
import Derived.Deep.RegionLaw
import Derived.Lib.SliceRun
import Derived.Lib.Bytes
namespace Go.Proofs.Ytpnbeifbapcmdaa.Nt
open Go.RowKit Go.Proofs.Ytpnbeifbapcmdaa.PNetGoes Go.Proofs.YtpnbeifbapcmdaaW.PrintWords Go.Proofs.YtpnbeifbapcmdaaW.PrintLast Go.Proofs.YtpnbeifbapcmdaaW.PrintMore
set_option linter.unusedVariables false
set_option linter.unusedSimpArgs false
attribute [local go_sem] max2_int min2_int max_two min_two
structure SOp where
  d : Int
  i : Int
  l : S28
def kOp : Kd SOp := Kd.iso (Kd.pair (Kd.int .i64) (Kd.pair (Kd.int .i64) k28)) (fun x : SOp => (x.d, x.i, x.l))
def zOp : SOp := ⟨0, 0, z28⟩
theorem kOp_open {w : World} {x : SOp} {cs : List Value} (h : kOp.K w x cs) : cs = [.int .i64 x.d, .int .i64 x.i, .int .i64 x.l.f0, .int .i64 x.l.f1, .string x.l.f2] := by
  obtain ⟨a, b, rfl, ha, c, d, rfl, hc, hd⟩ := h
  have e := k28_open hd
  rw [e]
  cases ha
  cases hc
  rfl
theorem at_Op {w : World} {A : Option Addr} {n : Nat} {xs : List SOp} (h : Kd.C kOp w A n xs) (i : Int) (h0 : 0 ≤ i) (h1 : i < n) : ∃ ad x, x = xs.getD i.toNat zOp ∧ A = some ad ∧ w.cell? (ad.add (i.toNat * 5)) = some (.int .i64 x.d) ∧ w.cell? ⟨(ad.add (i.toNat * 5)).block, (ad.add (i.toNat * 5)).off + 1, none⟩ = some (.int .i64 x.i) ∧ w.cell? ⟨(ad.add (i.toNat * 5)).block, (ad.add (i.toNat * 5)).off + 2, none⟩ = some (.int .i64 x.l.f0) ∧ w.cell? ⟨(ad.add (i.toNat * 5)).block, (ad.add (i.toNat * 5)).off + 3, none⟩ = some (.int .i64 x.l.f1) ∧ w.cell? ⟨(ad.add (i.toNat * 5)).block, (ad.add (i.toNat * 5)).off + 4, none⟩ = some (.string x.l.f2) := by
  obtain ⟨ad, c, e, _, hK, hc0⟩ := Kd.C_get h zOp i h0 h1
  have hc : ∀ j u, c[j]? = some u → w.cell? (ad.add (i.toNat * 5 + j)) = some u := hc0
  obtain rfl := kOp_open hK
  exact ⟨ad, _, rfl, e, hc 0 _ rfl, by rw [← add_field _ _ 1 (by omega)]; exact hc 1 _ rfl, by rw [← add_field _ _ 2 (by omega)]; exact hc 2 _ rfl, by rw [← add_field _ _ 3 (by omega)]; exact hc 3 _ rfl, by rw [← add_field _ _ 4 (by omega)]; exact hc 4 _ rfl⟩
structure GI (b : Nat) (w0 : World) (S T : Nat → Prop) (g gx : Nat) (v vx : Value) (l : List S28) (w : World) : Prop where
  n : NB S b w g v l
  x : RB T b w gx vx l
  sl : ∀ k, S k → k < w.heap.size
  tl : ∀ k, T k → k < w.heap.size
  dj : ∀ k, S k → ¬ T k
  bel : Below b w0 w
  le : b ≤ w.heap.size
  len : l.length ≤ 200
section
variable {b g gx g2 : Nat} {w0 w w1 w2 : World} {S T : Nat → Prop} {v vx v1 vx1 : Value} {l l1 : List S28}
theorem GI.below (h : GI b w0 S T g gx v vx l w) (hb : Below w.heap.size w w1) : GI b w0 S T g gx v vx l w1 :=
  ⟨h.n.step fun k _ hlt => hb.block k hlt, h.x.step fun k _ hlt => hb.block k hlt, fun k hk => Nat.lt_of_lt_of_le (h.sl k hk) hb.size, fun k hk => Nat.lt_of_lt_of_le (h.tl k hk) hb.size, h.dj, h.bel.trans (hb.mono h.le), Nat.le_trans h.le hb.size, h.len⟩
/-- The program's net has done its step: the document's still stands where it stood. -/
structure GM (b : Nat) (w0 : World) (S T : Nat → Prop) (g gx : Nat) (v vx : Value) (l lx : List S28) (w : World) : Prop where
  n : NB S b w g v l
  x : RB T b w gx vx lx
  sl : ∀ k, S k → k < w.heap.size
  tl : ∀ k, T k → k < w.heap.size
  dj : ∀ k, S k → ¬ T k
  bel : Below b w0 w
  le : b ≤ w.heap.size
theorem GM.below {lx : List S28} (h : GM b w0 S T g gx v vx l lx w) (hb : Below w.heap.size w w1) : GM b w0 S T g gx v vx l lx w1 :=
  ⟨h.n.step fun k _ hlt => hb.block k hlt, h.x.step fun k _ hlt => hb.block k hlt, fun k hk => Nat.lt_of_lt_of_le (h.sl k hk) hb.size, fun k hk => Nat.lt_of_lt_of_le (h.tl k hk) hb.size, h.dj, h.bel.trans (hb.mono h.le), Nat.le_trans h.le hb.size⟩
theorem GI.nstep (h : GI b w0 S T g gx v vx l w) (hn : NB (fun k => S k ∨ w.heap.size ≤ k) b w1 g v1 l1) (hk : Kept w w1 S) (hb : Below b w w1) : GM b w0 (fun k => (S k ∨ w.heap.size ≤ k) ∧ k < w1.heap.size) T g gx v1 vx l1 l w1 :=
  ⟨hn.bound, h.x.kept hk (fun k ht hs => h.dj k hs ht), fun k hk => hk.2, fun k ht => Nat.lt_of_lt_of_le (h.tl k ht) hk.1, fun k hs ht => hs.1.elim (fun hs => h.dj k hs ht) (fun hs => by have := h.tl k ht; omega), h.bel.trans hb, Nat.le_trans h.le hb.size⟩
theorem GM.xstep {lx : List S28} (h : GM b w0 S T g gx v vx l lx w) (hx : RB (fun k => T k ∨ w.heap.size ≤ k) b w1 gx vx1 l) (hk : Kept w w1 T) (hb : Below b w w1) (hl : l.length ≤ 200) : GI b w0 S (fun k => (T k ∨ w.heap.size ≤ k) ∧ k < w1.heap.size) g gx v vx1 l w1 :=
  ⟨h.n.kept hk (fun k hs ht => h.dj k hs ht), hx.bound, fun k hs => Nat.lt_of_lt_of_le (h.sl k hs) hk.1, fun k hk => hk.2, fun k hs ht => ht.1.elim (fun ht => h.dj k hs ht) (fun ht => by have := h.sl k hs; omega), h.bel.trans hb, Nat.le_trans h.le hb.size, hl⟩
end
theorem send_len (l : List S28) (x : S28) (h : l.length ≤ 200) : (sendI l x).1.length ≤ 200 := by
  unfold sendI
  split
  · split
    · exact h
    · split
      · exact h
      · simp only [List.length_append, List.length_singleton]; omega
  · exact h
theorem take_len (l : List S28) (i : Int) (h : l.length ≤ 200) : (takeI l i).1.length ≤ 200 := by
  unfold takeI
  split
  · exact h
  · simp only []
    rw [List.length_eraseIdx]
    split <;> omega
theorem double_len (l : List S28) (i : Int) (h : l.length ≤ 200) : (doubleI l i).1.length ≤ 200 := by
  unfold doubleI
  split
  · exact h
  · exact send_len l _ h
set_option maxHeartbeats 8000000 in
set_option maxRecDepth 100000 in
theorem goes_walk (A0 : Option Addr) (c0 : Nat) (l0 : List SOp) (w : World) (hr0 : Kd.C kOp w A0 l0.length l0) (hc0 : l0.length ≤ c0) (h300 : l0.length ≤ 300) :
    Calls Try.prog 4 #[.slice A0 l0.length c0] w fun e w' => e = .returned (.bool true) ∧ Below w.heap.size w w' := by
  have HR := Aside0.mk hr0
  have HC := Aside0.mk hc0
  have k1 : ¬ ((300 : Int) < (l0.length : Int)) := by omega
  have HLL := Aside0.mk h300
  clear hr0 hc0 h300
  go_enter Try.func4, Try.ntmps4
  go_wp2_with fail
  refine (live_calls w).mono ?_
  rintro _ w1 ⟨rfl, hb1⟩
  have HB1 := Aside0.mk hb1
  clear hb1
  go_wp2_with fail
  refine (new_calls w1).mono ?_
  rintro _ w2 ⟨g0, rfl, hg, hb2⟩
  have HB2 := Aside0.mk (HB1.out.trans (hb2.mono HB1.out.size))
  have HG := Aside0.mk hg
  have HB12 := Aside0.mk hb2
  clear hg hb2
  go_wp2_with fail
  have hbl := below_alloc (Below.refl w2.heap.size w2) (.cells #[.slice none 0 0] 43)
  have hgi : GI w.heap.size w (fun k => w1.heap.size ≤ k ∧ k < w2.heap.size) (fun k => k = w2.heap.size) g0 w2.heap.size (.slice none 0 0) (.slice none 0 0) [] (w2.alloc (.cells #[.slice none 0 0] 43)) := by
    have hn : NB (fun k => w1.heap.size ≤ k ∧ k < w2.heap.size) w.heap.size w2 g0 (.slice none 0 0) [] := ⟨HG.out.1, Nat.le_trans HB1.out.size HG.out.2.1, HG.out.2.2.1, Kd.R_nil _ _ _ _ _⟩
    refine ⟨hn.step fun k _ hlt => hbl.block k hlt, ⟨rfl, HB2.out.size, heap_alloc_new w2 _, Kd.R_nil _ _ _ _ _⟩, fun k hk => by simp; omega, fun k hk => by simp; omega, fun k hk h => by omega, HB2.out.trans (hbl.mono HB2.out.size), by have := HB2.out.size; simp; omega, by decide⟩
  have HGI := Aside0.mk hgi
  clear hgi hbl HG HB12
  generalize hgx : w2.heap.size = gx at *
  generalize hw3 : w2.alloc (.cells #[.slice none 0 0] 43) = w3 at *
  clear hgx hw3 HB1 HB2
  go_loopg [4, 32] l0.length (fun kq v4 v32 w' => ∃ (i g : Nat) (S T : Nat → Prop) (v vx : Value) (l : List S28), i ≤ l0.length ∧ kq = l0.length - i ∧ v4 = .pointer (some ⟨g, 0, none⟩) ∧ v32 = .int .i64 (i : Int) ∧ Aside0 (GI w.heap.size w S T g gx v vx l w'))
  case atStart => exact ⟨0, g0, _, _, _, _, _, by omega, rfl, rfl, rfl, HGI⟩
  case round =>
    clear HGI
    obtain ⟨i, g, S, T, v, vx, l, hi, rfl, rfl, rfl, HI⟩ := hrel
    by_cases c1 : i < l0.length
    · have hw1 : IntKind.i64.wrap ((i : Int) + 1) = (i : Int) + 1 := by rw [IntKind.wrap_i64]; have := HLL.out; omega
      obtain ⟨ad, x, _, eA, x0, x1, x2, x3, x4⟩ := at_Op (Kd.C_below HR.out HI.out.bel) (i : Int) (by omega) (by omega)
      rw [Int.toNat_natCast] at x0 x1 x2 x3 x4
      subst eA
      obtain ⟨d, ii, ⟨f0, f1, f2⟩⟩ := x
      simp only [] at x0 x1 x2 x3 x4
      have C1 := Aside0.mk c1
      have hbx := heap_alloc_new wr (.cells #[.int .i64 d, .int .i64 ii, .int .i64 f0, .int .i64 f1, .string f2] 30)
      have HIB := Aside0.mk (HI.out.below (below_alloc (Below.refl wr.heap.size wr) (.cells #[.int .i64 d, .int .i64 ii, .int .i64 f0, .int .i64 f1, .string f2] 30)))
      have HBX := Aside0.mk hbx
      have hgb := fun k (hk : S k) => HI.out.sl k hk
      have hgt := fun k (hk : T k) => HI.out.tl k hk
      have HNB : Aside0 (¬ S wr.heap.size ∧ ¬ T wr.heap.size) := ⟨fun h => by have := hgb _ h; omega, fun h => by have := hgt _ h; omega⟩
      clear hbx hgb hgt
      by_cases d0 : d = 0
      · subst d0
        go_wp2_with fail
        have bx0 : (wr.alloc (.cells #[.int .i64 0, .int .i64 ii, .int .i64 f0, .int .i64 f1, .string f2] 30)).cell? ⟨wr.heap.size, 0, none⟩ = some (.int .i64 0) := (blk_cell HBX.out 0).trans rfl
        have bx1 : (wr.alloc (.cells #[.int .i64 0, .int .i64 ii, .int .i64 f0, .int .i64 f1, .string f2] 30)).cell? ⟨wr.heap.size, 1, none⟩ = some (.int .i64 ii) := (blk_cell HBX.out 1).trans rfl
        have bx2 : (wr.alloc (.cells #[.int .i64 0, .int .i64 ii, .int .i64 f0, .int .i64 f1, .string f2] 30)).cell? ⟨wr.heap.size, 2, none⟩ = some (.int .i64 f0) := (blk_cell HBX.out 2).trans rfl
        have bx3 : (wr.alloc (.cells #[.int .i64 0, .int .i64 ii, .int .i64 f0, .int .i64 f1, .string f2] 30)).cell? ⟨wr.heap.size, 3, none⟩ = some (.int .i64 f1) := (blk_cell HBX.out 3).trans rfl
        have bx4 : (wr.alloc (.cells #[.int .i64 0, .int .i64 ii, .int .i64 f0, .int .i64 f1, .string f2] 30)).cell? ⟨wr.heap.size, 4, none⟩ = some (.string f2) := (blk_cell HBX.out 4).trans rfl
        generalize wr.alloc (.cells #[.int .i64 0, .int .i64 ii, .int .i64 f0, .int .i64 f1, .string f2] 30) = wb at HIB HBX bx0 bx1 bx2 bx3 bx4 ⊢
        generalize wr.heap.size = gb at HBX HNB bx0 bx1 bx2 bx3 bx4 ⊢
        have HID := Aside0.mk (HIB.out.below ((Below.refl wb.heap.size wb).drew))
        go_region_held3 (fun w' => w'.cell? ⟨gb, 1, none⟩ = some (.int .i64 ii) ∧ w'.cell? ⟨gb, 2, none⟩ = some (.int .i64 f0) ∧ w'.cell? ⟨gb, 3, none⟩ = some (.int .i64 f1) ∧ w'.cell? ⟨gb, 4, none⟩ = some (.string f2)) (first | exact ⟨r1, r2, r3, r4⟩ | exact ⟨p1, p2, p3, p4⟩ | exact ⟨bx1, bx2, bx3, bx4⟩ | go_keep) (first | (go_at_call 11; refine (send_calls S w.heap.size g v l ⟨f0, f1, f2⟩ wb.drew HID.out.n HID.out.le HID.out.len).mono ?_; rintro _ w4 ⟨v4, rfl, h1, h2, h3⟩; have HM := Aside0.mk (HID.out.nstep h1 h2 h3); have p0 := blk_kept (show wb.drew.heap[gb]? = _ from HBX.out) h2 HNB.out.1; have p1 : w4.cell? ⟨gb, 1, none⟩ = some (.int .i64 ii) := (blk_cell p0 1).trans rfl; have p2 : w4.cell? ⟨gb, 2, none⟩ = some (.int .i64 f0) := (blk_cell p0 2).trans rfl; have p3 : w4.cell? ⟨gb, 3, none⟩ = some (.int .i64 f1) := (blk_cell p0 3).trans rfl; have p4 : w4.cell? ⟨gb, 4, none⟩ = some (.string f2) := (blk_cell p0 4).trans rfl; have P0 := Aside0.mk p0; clear h1 h2 h3 p0) | (go_at_call 16; refine (rsend_calls T w.heap.size gx vx l ⟨f0, f1, f2⟩ w4 HM.out.x HM.out.le HID.out.len).mono ?_; rintro _ w5 ⟨vx5, rfl, h1, h2, h3⟩; have HZ := Aside0.mk (HM.out.xstep h1 h2 h3 (send_len l ⟨f0, f1, f2⟩ HID.out.len)); have p0 := blk_kept P0.out h2 HNB.out.2; have r1 : w5.cell? ⟨gb, 1, none⟩ = some (.int .i64 ii) := (blk_cell p0 1).trans rfl; have r2 : w5.cell? ⟨gb, 2, none⟩ = some (.int .i64 f0) := (blk_cell p0 2).trans rfl; have r3 : w5.cell? ⟨gb, 3, none⟩ = some (.int .i64 f1) := (blk_cell p0 3).trans rfl; have r4 : w5.cell? ⟨gb, 4, none⟩ = some (.string f2) := (blk_cell p0 4).trans rfl; clear h1 h2 h3 p0))
        go_wp2_with fail
        refine (same_calls _ _ w.heap.size w.heap.size g gx _ _ _ _ HZ.out.n HZ.out.x HZ.out.len).mono ?_
        rintro _ w9 ⟨rfl, hb9⟩
        have H9 := Aside0.mk (HZ.out.below hb9)
        clear hb9
        go_wp2_with fail
        go_roundg (l0.length - (i + 1))
        case measure =>
          have := C1.out
          omega
        case rel => exact ⟨i + 1, g, _, _, _, _, _, by have := C1.out; omega, rfl, rfl, rfl, H9⟩
      · by_cases d1 : d = 1
        · subst d1
          go_wp2_with fail
          have bx0 : (wr.alloc (.cells #[.int .i64 1, .int .i64 ii, .int .i64 f0, .int .i64 f1, .string f2] 30)).cell? ⟨wr.heap.size, 0, none⟩ = some (.int .i64 1) := (blk_cell HBX.out 0).trans rfl
          have bx1 : (wr.alloc (.cells #[.int .i64 1, .int .i64 ii, .int .i64 f0, .int .i64 f1, .string f2] 30)).cell? ⟨wr.heap.size, 1, none⟩ = some (.int .i64 ii) := (blk_cell HBX.out 1).trans rfl
          have bx2 : (wr.alloc (.cells #[.int .i64 1, .int .i64 ii, .int .i64 f0, .int .i64 f1, .string f2] 30)).cell? ⟨wr.heap.size, 2, none⟩ = some (.int .i64 f0) := (blk_cell HBX.out 2).trans rfl
          have bx3 : (wr.alloc (.cells #[.int .i64 1, .int .i64 ii, .int .i64 f0, .int .i64 f1, .string f2] 30)).cell? ⟨wr.heap.size, 3, none⟩ = some (.int .i64 f1) := (blk_cell HBX.out 3).trans rfl
          have bx4 : (wr.alloc (.cells #[.int .i64 1, .int .i64 ii, .int .i64 f0, .int .i64 f1, .string f2] 30)).cell? ⟨wr.heap.size, 4, none⟩ = some (.string f2) := (blk_cell HBX.out 4).trans rfl
          generalize wr.alloc (.cells #[.int .i64 1, .int .i64 ii, .int .i64 f0, .int .i64 f1, .string f2] 30) = wb at HIB HBX bx0 bx1 bx2 bx3 bx4 ⊢
          generalize wr.heap.size = gb at HBX HNB bx0 bx1 bx2 bx3 bx4 ⊢
          refine (take_calls S w.heap.size g v l ii wb HIB.out.n HIB.out.le HIB.out.len).mono ?_
          rintro _ w4 ⟨v4, rfl, h1, h2, h3⟩
          have HM := Aside0.mk (HIB.out.nstep (h1.mono (fun k hk => .inl hk)) h2 h3)
          have p0 := blk_kept HBX.out h2 HNB.out.1
          have p1 : ∀ o, (w4.alloc o).cell? ⟨gb, 1, none⟩ = some (.int .i64 ii) := fun o => Lib.cell?_alloc_some o ((blk_cell p0 1).trans rfl)
          clear h1 h2 h3 p0
          obtain ⟨⟨t0, t1, t2⟩, ht⟩ : ∃ y, y = (takeI l ii).2.1 := ⟨_, rfl⟩
          obtain ⟨te, hte⟩ : ∃ y, y = (takeI l ii).2.2 := ⟨_, rfl⟩
          rw [← ht, ← hte]
          simp only []
          go_wp2_with fail
          have hal := below_alloc (Below.refl w4.heap.size w4) (.cells #[.int .i64 t0, .int .i64 t1, .string t2] 28)
          have hab := heap_alloc_new w4 (.cells #[.int .i64 t0, .int .i64 t1, .string t2] 28)
          have HM5 := Aside0.mk (HM.out.below hal)
          have hga : ¬ T w4.heap.size := fun h => by have := HM.out.tl _ h; omega
          clear hal p1
          generalize w4.alloc (.cells #[.int .i64 t0, .int .i64 t1, .string t2] 28) = w5 at *
          generalize w4.heap.size = ga at hab hga ⊢
          refine (rtake_calls T w.heap.size gx vx l ii w5 HM5.out.x HM5.out.le HIB.out.len).mono ?_
          rintro _ w6 ⟨vx6, rfl, h1, h2, h3⟩
          have HZ6 := Aside0.mk (HM5.out.xstep h1 h2 h3 (take_len l ii HIB.out.len))
          have p0 := blk_kept hab h2 hga
          have a0 : ∀ o, (w6.alloc o).cell? ⟨ga, 0, none⟩ = some (.int .i64 t0) := fun o => Lib.cell?_alloc_some o ((blk_cell p0 0).trans rfl)
          have a1 : ∀ o, (w6.alloc o).cell? ⟨ga, 1, none⟩ = some (.int .i64 t1) := fun o => Lib.cell?_alloc_some o ((blk_cell p0 1).trans rfl)
          have a2 : ∀ o, (w6.alloc o).cell? ⟨ga, 2, none⟩ = some (.string t2) := fun o => Lib.cell?_alloc_some o ((blk_cell p0 2).trans rfl)
          rw [← ht, ← hte]
          simp only []
          have HZ := Aside0.mk (HZ6.out.below (below_alloc (Below.refl w6.heap.size w6) (.cells #[.int .i64 t0, .int .i64 t1, .string t2] 45)))
          clear h1 h2 h3 p0 hab hga ht hte
          go_wp2_with fail
          refine (same_calls _ _ w.heap.size w.heap.size g gx _ _ _ _ HZ.out.n HZ.out.x HZ.out.len).mono ?_
          rintro _ w9 ⟨rfl, hb9⟩
          have H9 := Aside0.mk (HZ.out.below hb9)
          clear hb9
          go_wp2_with fail
          go_roundg (l0.length - (i + 1))
          case measure =>
            have := C1.out
            omega
          case rel => exact ⟨i + 1, g, _, _, _, _, _, by have := C1.out; omega, rfl, rfl, rfl, H9⟩
        · by_cases d2 : d = 2
          · subst d2
            go_wp2_with fail
            have bx0 : (wr.alloc (.cells #[.int .i64 2, .int .i64 ii, .int .i64 f0, .int .i64 f1, .string f2] 30)).cell? ⟨wr.heap.size, 0, none⟩ = some (.int .i64 2) := (blk_cell HBX.out 0).trans rfl
            have bx1 : (wr.alloc (.cells #[.int .i64 2, .int .i64 ii, .int .i64 f0, .int .i64 f1, .string f2] 30)).cell? ⟨wr.heap.size, 1, none⟩ = some (.int .i64 ii) := (blk_cell HBX.out 1).trans rfl
            have bx2 : (wr.alloc (.cells #[.int .i64 2, .int .i64 ii, .int .i64 f0, .int .i64 f1, .string f2] 30)).cell? ⟨wr.heap.size, 2, none⟩ = some (.int .i64 f0) := (blk_cell HBX.out 2).trans rfl
            have bx3 : (wr.alloc (.cells #[.int .i64 2, .int .i64 ii, .int .i64 f0, .int .i64 f1, .string f2] 30)).cell? ⟨wr.heap.size, 3, none⟩ = some (.int .i64 f1) := (blk_cell HBX.out 3).trans rfl
            have bx4 : (wr.alloc (.cells #[.int .i64 2, .int .i64 ii, .int .i64 f0, .int .i64 f1, .string f2] 30)).cell? ⟨wr.heap.size, 4, none⟩ = some (.string f2) := (blk_cell HBX.out 4).trans rfl
            generalize wr.alloc (.cells #[.int .i64 2, .int .i64 ii, .int .i64 f0, .int .i64 f1, .string f2] 30) = wb at HIB HBX bx0 bx1 bx2 bx3 bx4 ⊢
            generalize wr.heap.size = gb at HBX HNB bx0 bx1 bx2 bx3 bx4 ⊢
            have HID := Aside0.mk (HIB.out.below ((Below.refl wb.heap.size wb).drew))
            go_region_held3 (fun w' => w'.cell? ⟨gb, 1, none⟩ = some (.int .i64 ii) ∧ w'.cell? ⟨gb, 2, none⟩ = some (.int .i64 f0) ∧ w'.cell? ⟨gb, 3, none⟩ = some (.int .i64 f1) ∧ w'.cell? ⟨gb, 4, none⟩ = some (.string f2)) (first | exact ⟨r1, r2, r3, r4⟩ | exact ⟨p1, p2, p3, p4⟩ | exact ⟨bx1, bx2, bx3, bx4⟩ | go_keep) (first | (go_at_call 14; refine (double_calls S w.heap.size g v l ii wb.drew HID.out.n HID.out.le HID.out.len).mono ?_; rintro _ w4 ⟨v4, rfl, h1, h2, h3⟩; have HM := Aside0.mk (HID.out.nstep h1 h2 h3); have p0 := blk_kept (show wb.drew.heap[gb]? = _ from HBX.out) h2 HNB.out.1; have p1 : w4.cell? ⟨gb, 1, none⟩ = some (.int .i64 ii) := (blk_cell p0 1).trans rfl; have p2 : w4.cell? ⟨gb, 2, none⟩ = some (.int .i64 f0) := (blk_cell p0 2).trans rfl; have p3 : w4.cell? ⟨gb, 3, none⟩ = some (.int .i64 f1) := (blk_cell p0 3).trans rfl; have p4 : w4.cell? ⟨gb, 4, none⟩ = some (.string f2) := (blk_cell p0 4).trans rfl; have P0 := Aside0.mk p0; clear h1 h2 h3 p0) | (go_at_call 18; refine (rdouble_calls T w.heap.size gx vx l ii w4 HM.out.x HM.out.le HID.out.len).mono ?_; rintro _ w5 ⟨vx5, rfl, h1, h2, h3⟩; have HZ := Aside0.mk (HM.out.xstep h1 h2 h3 (double_len l ii HID.out.len)); have p0 := blk_kept P0.out h2 HNB.out.2; have r1 : w5.cell? ⟨gb, 1, none⟩ = some (.int .i64 ii) := (blk_cell p0 1).trans rfl; have r2 : w5.cell? ⟨gb, 2, none⟩ = some (.int .i64 f0) := (blk_cell p0 2).trans rfl; have r3 : w5.cell? ⟨gb, 3, none⟩ = some (.int .i64 f1) := (blk_cell p0 3).trans rfl; have r4 : w5.cell? ⟨gb, 4, none⟩ = some (.string f2) := (blk_cell p0 4).trans rfl; clear h1 h2 h3 p0))
            go_wp2_with fail
            refine (same_calls _ _ w.heap.size w.heap.size g gx _ _ _ _ HZ.out.n HZ.out.x HZ.out.len).mono ?_
            rintro _ w9 ⟨rfl, hb9⟩
            have H9 := Aside0.mk (HZ.out.below hb9)
            clear hb9
            go_wp2_with fail
            go_roundg (l0.length - (i + 1))
            case measure =>
              have := C1.out
              omega
            case rel => exact ⟨i + 1, g, _, _, _, _, _, by have := C1.out; omega, rfl, rfl, rfl, H9⟩
          · by_cases d3 : d = 3
            · subst d3
              go_wp2_with fail
              have bx0 : (wr.alloc (.cells #[.int .i64 3, .int .i64 ii, .int .i64 f0, .int .i64 f1, .string f2] 30)).cell? ⟨wr.heap.size, 0, none⟩ = some (.int .i64 3) := (blk_cell HBX.out 0).trans rfl
              have bx1 : (wr.alloc (.cells #[.int .i64 3, .int .i64 ii, .int .i64 f0, .int .i64 f1, .string f2] 30)).cell? ⟨wr.heap.size, 1, none⟩ = some (.int .i64 ii) := (blk_cell HBX.out 1).trans rfl
              have bx2 : (wr.alloc (.cells #[.int .i64 3, .int .i64 ii, .int .i64 f0, .int .i64 f1, .string f2] 30)).cell? ⟨wr.heap.size, 2, none⟩ = some (.int .i64 f0) := (blk_cell HBX.out 2).trans rfl
              have bx3 : (wr.alloc (.cells #[.int .i64 3, .int .i64 ii, .int .i64 f0, .int .i64 f1, .string f2] 30)).cell? ⟨wr.heap.size, 3, none⟩ = some (.int .i64 f1) := (blk_cell HBX.out 3).trans rfl
              have bx4 : (wr.alloc (.cells #[.int .i64 3, .int .i64 ii, .int .i64 f0, .int .i64 f1, .string f2] 30)).cell? ⟨wr.heap.size, 4, none⟩ = some (.string f2) := (blk_cell HBX.out 4).trans rfl
              generalize wr.alloc (.cells #[.int .i64 3, .int .i64 ii, .int .i64 f0, .int .i64 f1, .string f2] 30) = wb at HIB HBX bx0 bx1 bx2 bx3 bx4 ⊢
              generalize wr.heap.size = gb at HBX HNB bx0 bx1 bx2 bx3 bx4 ⊢
              refine (nclone_calls S w.heap.size g v l wb HIB.out.n (by have := HIB.out.len; omega)).mono ?_
              rintro _ w4 ⟨g2, v2, rfl, h1, h2⟩
              have HC4 := Aside0.mk h1
              have HI4 := Aside0.mk (HIB.out.below h2)
              have HB4 := Aside0.mk h2
              clear h1 h2
              go_wp2_with fail
              refine (send_calls S w.heap.size g v l ⟨1, 2, ⟨#[122, 122]⟩⟩ w4 HI4.out.n HI4.out.le HI4.out.len).mono ?_
              rintro _ w5 ⟨v5, rfl, h1, h2, h3⟩
              have HM := Aside0.mk (HI4.out.nstep h1 h2 h3)
              have HK5 := Aside0.mk h2
              clear h1 h2 h3
              go_wp2_with fail
              refine (take_calls _ w.heap.size g v5 _ 0 w5 HM.out.n HM.out.le (send_len l _ HI4.out.len)).mono ?_
              rintro _ w6 ⟨v6, rfl, _, h2, h3⟩
              have hgi : GI w.heap.size w (fun k => wb.heap.size ≤ k ∧ k < w4.heap.size) T g2 gx v2 vx l w6 := by
                have hz := HIB.out.le
                have c4 : NB (fun k => wb.heap.size ≤ k ∧ k < w4.heap.size) w.heap.size w4 g2 v2 l := ⟨HC4.out.1, Nat.le_trans hz HC4.out.2.1, HC4.out.2.2.1, Kd.R_lower HC4.out.2.2.2 hz⟩
                have c5 := c4.kept HK5.out (fun k hk hs => by have := HIB.out.sl k hs; omega)
                have c6 := c5.kept h2 (fun k hk hs => hs.1.elim (fun hs => by have := HIB.out.sl k hs; omega) (fun hs => by omega))
                have x6 := HM.out.x.kept h2 (fun k ht hs => HM.out.dj k hs ht)
                have s5 := HK5.out.1
                have s6 := h2.1
                exact ⟨c6, x6, fun k hk => by omega, fun k hk => Nat.lt_of_lt_of_le (HM.out.tl k hk) s6, fun k hk ht => by have := HIB.out.tl k ht; omega, HM.out.bel.trans h3, Nat.le_trans HM.out.le s6, HI4.out.len⟩
              have HZ := Aside0.mk hgi
              clear h2 h3 hgi
              go_wp2_with fail
              refine (same_calls _ _ w.heap.size w.heap.size g2 gx _ _ _ _ HZ.out.n HZ.out.x HZ.out.len).mono ?_
              rintro _ w9 ⟨rfl, hb9⟩
              have H9 := Aside0.mk (HZ.out.below hb9)
              clear hb9
              go_wp2_with fail
              go_roundg (l0.length - (i + 1))
              case measure =>
                have := C1.out
                omega
              case rel => exact ⟨i + 1, g2, _, _, _, _, _, by have := C1.out; omega, rfl, rfl, rfl, H9⟩
            · go_wp2_with fail
              have HZ := HIB
              refine (same_calls _ _ w.heap.size w.heap.size g gx _ _ _ _ HZ.out.n HZ.out.x HZ.out.len).mono ?_
              rintro _ w9 ⟨rfl, hb9⟩
              have H9 := Aside0.mk (HZ.out.below hb9)
              clear hb9
              go_wp2_with fail
              go_roundg (l0.length - (i + 1))
              case measure =>
                have := C1.out
                omega
              case rel => exact ⟨i + 1, g, _, _, _, _, _, by have := C1.out; omega, rfl, rfl, rfl, H9⟩
    · obtain rfl : i = l0.length := by omega
      go_wp2_with fail
      go_ret
      exact ⟨rfl, HI.out.bel⟩
set_option maxHeartbeats 4000000 in
set_option maxRecDepth 100000 in
theorem goes_long (A0 : Option Addr) (c0 n : Nat) (w : World) (h : 300 < n) :
    Calls Try.prog 4 #[.slice A0 n c0] w fun e w' => e = .returned (.bool true) ∧ Below w.heap.size w w' := by
  have k1 : (300 : Int) < (n : Int) := by omega
  go_enter Try.func4, Try.ntmps4
  go_wp2_with fail
  refine (live_calls w).mono ?_
  rintro _ w1 ⟨rfl, hb1⟩
  have HB1 := Aside0.mk hb1
  clear hb1
  go_wp2_with fail
  refine (new_calls w1).mono ?_
  rintro _ w2 ⟨g0, rfl, hg, hb2⟩
  have HB2 := Aside0.mk (HB1.out.trans (hb2.mono HB1.out.size))
  clear hg hb2
  go_wp2_with fail
  go_ret
  exact ⟨rfl, HB2.out.trans ((below_alloc (Below.refl w2.heap.size w2) _).mono HB2.out.size)⟩
theorem goes_calls (A0 : Option Addr) (c0 : Nat) (l0 : List SOp) (w : World) (hr0 : Kd.C kOp w A0 l0.length l0) (hc0 : l0.length ≤ c0) :
    Calls Try.prog 4 #[.slice A0 l0.length c0] w fun e w' => e = .returned (.bool true) ∧ Below w.heap.size w w' := by
  by_cases h : l0.length ≤ 300
  · exact goes_walk A0 c0 l0 w hr0 hc0 h
  · exact goes_long A0 c0 l0.length w (by omega)
end Go.Proofs.Ytpnbeifbapcmdaa.Nt
